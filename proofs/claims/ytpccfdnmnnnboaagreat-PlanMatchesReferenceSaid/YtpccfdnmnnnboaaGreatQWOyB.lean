/-
  Apply of the program.
-/
import Derived.Recover
import Derived.Test.YtpccfdnmnnnboaaGreatQRa
import Derived.Test.YtpccfdnmnnnboaaGreatQOj
import Derived.Test.YtpccfdnmnnnboaaGreatQOm
import Derived.Test.YtpccfdnmnnnboaaGreatQOn
import Derived.Test.YtpccfdnmnnnboaaGreatQSlN
section
namespace Go.Proofs.YtpccfdnmnnnboaaGreat
open Go.Sl

theorem apply_ok {old : List UInt8} {inn out : Int} {ops : List Po} (hE : chkE inn out ops = 0) (hin : inn = (old.length : Int)) : runOk old (syS inn out ops) ∧ (syS inn out ops).length ≤ 1000000 := by
 obtain ⟨k1, k2, k3, k4, k5, k6⟩ := chkE_ok hE
 have hs : syS inn out ops = symL ops := by unfold syS; rw [if_pos hE]
 have htot := chkG_tot ops out k3 k6
 rw [hs]
 refine ⟨fun i hi ho => ?_, by omega⟩
 have hat := symL_atI k6 (k := i) hi
 have := hat.2.1 ho
 omega

set_option maxHeartbeats 1000000 in
theorem apply_c (B : Option Addr) (old : List UInt8) (bc : Nat) (lf : Bool) (inn out : Int) (ops : List Po) (OA : Option Addr) (oc : Nat) (hops : ops.length ≤ 9223372036854775807) (hlf : lf = false) (hE : chkE inn out ops = 0) (hin : inn = (old.length : Int)) :
   Ctr X 26 [.slice B old.length bc, .agg (List.toArray [.bool lf, .int .i64 inn, .int .i64 out, .slice OA ops.length oc])] [Rd B (U8 old), Rd OA (opsV ops)] [] (fun v R' H' => ∃ (A : Option Addr) (c : Nat), v = .tuple #[.slice A (runB old (syS inn out ops)).length c, .int .i64 0] ∧ R' = [] ∧ H' = [Own 5 1 A (runB old (syS inn out ops)).length c (U8 (runB old (syS inn out ops)))]) := by
 refine Ctr.of (X := X) (fn := Tryz.f26) Tryz.func26 rfl (by kernel_rfl) rfl ?_
 intro β
 have hrun := apply_ok hE hin
 refine C.seq (C.region ?_)
 refine L.boxA rfl rfl (fun A3 => ?_)
 refine Lpu rfl rfl ?_; refine Lpu rfl rfl ?_; refine L.nil (QE.seq (C.seq ?_)); refine C.freeze 0 rfl [] (by decide) (by decide) ?_; refine C.region ?_; refine L.step (Ev.loadA (vs := [.bool lf, .int .i64 inn, .int .i64 out, .slice OA ops.length oc]) rfl rfl rfl (Src.r 0 rfl) rfl rfl (by decide)) rfl ?_; refine L.call (js := []) (js' := []) (symbols_c lf inn out ops OA oc hops) rfl rfl rfl (by decide) (Hq [2] rfl) rfl ?_
 rintro _ _ _ ⟨SA, sc, rfl, rfl, rfl⟩
 refine L.norm (H' := [_]) [0] ⟨rfl, trivial⟩ (by decide) ?_; refine Lpu rfl rfl ?_; refine Lpu rfl rfl ?_; refine Lpu rfl rfl ?_; refine Lpu rfl rfl ?_; refine Lpu rfl rfl ?_; refine L.nil (QE.seq (C.seq (C.seq ?_))); refine C.freeze 0 rfl [] (by decide) (by decide) ?_; refine C.region ?_; refine Lpu rfl rfl ?_; refine Lpu rfl rfl ?_; refine L.nil (QE.seq ?_)
 refine C.condB 18 rfl (fun hc18 => ?_) (fun hc18 => ?_)
 ·
  replace hc18 := b_ne hc18
  exact absurd hE hc18
 ·
  replace hc18 := b_eq hc18
  refine C.skip (QE.seq (C.seq (C.seq (C.region ?_)))); refine L.step (Ev.fieldAddr rfl rfl rfl rfl rfl rfl (Src.r 1 rfl) (Nat.zero_lt_succ _) rfl) rfl ?_; refine L.step (Ev.load rfl rfl rfl (Src.r 1 rfl) rfl) rfl ?_; refine L.nil (QE.seq ?_)
  refine C.condB 21 rfl (fun hc21 => ?_) (fun hc21 => ?_)
  ·
   rw [hlf] at hc21; cases hc21
  ·
   refine C.skip (QE.seq (C.seq (C.seq (C.region ?_)))); refine Lpu rfl rfl ?_; refine Lpu rfl rfl ?_; refine L.step (Ev.fieldAddr rfl rfl rfl rfl rfl rfl (Src.r 1 rfl) (Nat.zero_lt_succ _) rfl) rfl ?_; refine L.step (Ev.load rfl rfl rfl (Src.r 1 rfl) rfl) rfl ?_; refine Lpu rfl rfl ?_; refine L.nil (QE.seq ?_)
   refine C.condB 35 rfl (fun hc35 => ?_) (fun hc35 => ?_)
   ·
    replace hc35 := b_ne hc35
    omega
   ·
    replace hc35 := b_eq hc35
    refine C.skip (QE.seq (C.seq (C.region ?_))); refine Lpu rfl rfl ?_; refine Lpu rfl rfl ?_; refine L.call (js := []) (js' := []) (run_c B SA old (syS inn out ops) bc sc hrun.2 hrun.1) rfl rfl rfl (by decide) (Hq [2, 0] rfl) rfl ?_
    rintro _ _ _ ⟨YA, yc, rfl, rfl, rfl⟩
    refine L.norm (H' := [_]) [0] ⟨rfl, trivial⟩ (by decide) ?_; refine Lpu rfl rfl ?_; refine Lpu rfl rfl ?_; refine Lpu rfl rfl ?_; refine Lpu rfl rfl ?_; refine Lpu rfl rfl ?_; refine L.nil (QE.seq (C.seq (C.seq (C.region ?_)))); refine Lpu rfl rfl ?_; refine Lpu rfl rfl ?_; refine Lpu rfl rfl ?_
    refine L.bool 44 rfl (fun hg44 => ?_) (fun hg44 => ?_)
    ·
     replace hg44 := b_ne hg44
     exact absurd rfl hg44
    ·
     replace hg44 := b_eq hg44
     refine L.yes rfl ?_; refine L.step (Ev.fieldAddr rfl rfl rfl rfl rfl rfl (Src.r 1 rfl) (Nat.zero_lt_succ _) rfl) rfl ?_; refine L.yes rfl ?_; refine L.step (Ev.load rfl rfl rfl (Src.r 1 rfl) rfl) rfl ?_; refine L.yes rfl ?_; refine Lpu rfl rfl ?_; refine Lpu rfl rfl ?_; refine L.nil (QE.seq ?_)
     refine C.condB 48 rfl (fun hc48 => ?_) (fun hc48 => ?_)
     ·
      refine C.seq (C.region ?_); refine Lpu rfl rfl ?_; refine Lpu rfl rfl ?_; refine Lpu rfl rfl ?_; refine Lpu rfl rfl ?_; refine L.nil (QE.seq (C.ret (QE.tR ?_))); refine QE.ret (js := []) (hs := [0]) (vs := [_, _]) rfl ⟨rfl, rfl, trivial⟩ (by decide) ?_
      exact ⟨YA, yc, rfl, rfl, rfl⟩
     ·
      rw [hlf] at hc48; cases hc48

end Go.Proofs.YtpccfdnmnnnboaaGreat
end
/-
  An image that is written in the order, sector by sector.
-/
section
namespace Go.Sl

/-! ### The stash and the order that are found, at most sixteen sectors -/
theorem ord16 {ls : List (List Int)} (hr : readB ls = true) (hn : ls.length ≤ 16) : ∃ s, s < 2 ^ ls.length ∧ ordH ls = mem s 64 ∧ ordQ ls = frs ls.length (rdP ls) s.testBit ls.length ∧ fullB ls.length (rdP ls) s.testBit = true ∧ ordE ls = 0 := by
 have hle : ∀ s, s < 2 ^ ls.length → (mem s 64).length ≤ ls.length := fun s hs => by rw [mem64 (by omega) hs]; exact mem_len _ _
 have hb : 2 ^ ls.length ≤ 2 ^ 16 := Nat.pow_le_pow_right (by decide) hn
 have h16 : (2 : Nat) ^ 16 = 65536 := by decide
 cases h : ordR ls with
 | none =>
   have h0 := srch_none_iff.1 h
   have hs : 2 ^ ls.length - 1 < 2 ^ ls.length := by have := Nat.two_pow_pos ls.length; omega
   have := bst_none.1 (h0 (mem (2 ^ ls.length - 1) 64).length (by have := hle _ hs; omega)) _ hs rfl
   rw [full_prg.2 (Prg.all fun t ht => by rw [Nat.testBit_two_pow_sub_one]; exact decide_eq_true ht)] at this
   cases this
 | some b =>
   obtain ⟨k, h1, h2, h3⟩ := srch_some h
   obtain ⟨⟨s, a1, rfl, a3, a4⟩, _⟩ := bst_some h2
   refine ⟨s, a1, ?_, ?_, a4, ordE_0 hr hn⟩
   · rw [ordH_ok hr hn, h]; rfl
   · rw [ordQ_ok hr hn, h, sqO_mem (by omega)]
/-! ### Readings -/
section
variable {l : List Sy} {inn : Int} {S n : Nat}
end
/-! ### Blocks are right -/
end Go.Sl
end
/-
  An image that is written in the order, sector by sector: it gives the output.
-/
section
namespace Go.Sl

def playX (sy : List Sy) (cp now : List UInt8) (st : List Nat) (S i : Nat) : UInt8 :=
 if (sy.getD i Sy.zero).old = true then (sy.getD i Sy.zero).b + (if st.contains (rdT (sy.getD i Sy.zero) S) = true then cp.getD (sy.getD i Sy.zero).at_.toNat 0 else now.getD (sy.getD i Sy.zero).at_.toNat 0) else (sy.getD i Sy.zero).b
def playT (sy : List Sy) (cp now : List UInt8) (st : List Nat) (S t : Nat) : Nat → List UInt8
 | 0 => now
 | j + 1 => (playT sy cp now st S t j).set (t * S + j) (playX sy cp now st S (t * S + j))
def playM (sy : List Sy) (S t : Nat) : Nat := min S (sy.length - t * S)
def playN (sy : List Sy) (cp : List UInt8) (st seq : List Nat) (S : Nat) : Nat → List UInt8
 | 0 => cp
 | k + 1 => playT sy cp (playN sy cp st seq S k) st S (seq.getD k 0) (playM sy S (seq.getD k 0))
theorem playT_len (sy : List Sy) (cp now : List UInt8) (st : List Nat) (S t : Nat) : ∀ j, (playT sy cp now st S t j).length = now.length
 | 0 => rfl
 | j + 1 => by rw [playT, List.length_set, playT_len sy cp now st S t j]
theorem playN_len (sy : List Sy) (cp : List UInt8) (st seq : List Nat) (S : Nat) : ∀ k, (playN sy cp st seq S k).length = cp.length
 | 0 => rfl
 | k + 1 => by rw [playN, playT_len, playN_len sy cp st seq S k]
theorem playT_get {sy : List Sy} {cp now : List UInt8} {st : List Nat} {S t : Nat} (i : Nat) : ∀ j, t * S + j ≤ now.length → (playT sy cp now st S t j).getD i 0 = if t * S ≤ i ∧ i < t * S + j then playX sy cp now st S i else now.getD i 0
 | 0, _ => by rw [playT, if_neg (by omega)]
 | j + 1, h => by
   rw [playT, List.getD_eq_getElem?_getD, List.getElem?_set, playT_len]
   by_cases e : t * S + j = i
   · rw [if_pos e, if_pos (by omega), if_pos (by omega), e]
     rfl
   · rw [if_neg e, ← List.getD_eq_getElem?_getD, playT_get i j (by omega)]
     by_cases g : t * S ≤ i ∧ i < t * S + j
     · rw [if_pos g, if_pos (by omega)]
     · rw [if_neg g, if_neg (by omega)]
structure Plays (sy : List Sy) (old cp : List UInt8) (st seq : List Nat) (S n : Nat) : Prop where
 s : 1 ≤ S
 out : sy.length ≤ n * S
 cl : cp.length = n * S
 inn : old.length ≤ n * S
 c : ∀ i, i < old.length → cp.getD i 0 = old.getD i 0
 nd : seq.Nodup
 lt : ∀ t ∈ seq, t < n
 ok : runOk old sy
 ord : ∀ k, k < seq.length → ∀ i, i < sy.length → i / S = seq.getD k 0 → (sy.getD i Sy.zero).old = true → rdT (sy.getD i Sy.zero) S ∈ st ∨ rdT (sy.getD i Sy.zero) S ∉ seq.take k ∨ ∀ i', i' / S = rdT (sy.getD i Sy.zero) S → i' < old.length → i' < sy.length ∧ sy.getD i' Sy.zero = ⟨true, (i' : Int), 0⟩
theorem runB_get {old : List UInt8} {l : List Sy} {i : Nat} (h : i < l.length) : (runB old l).getD i 0 = symB old (l.getD i Sy.zero) := by
 unfold runB
 rw [List.getD_eq_getElem?_getD, List.getElem?_map, List.getElem?_eq_getElem h, List.getD_eq_getElem?_getD, List.getElem?_eq_getElem h]
 rfl
theorem sec_lt {S n t : Nat} (h : t < n) : t * S + S ≤ n * S := by
 have := Nat.mul_le_mul_right S (Nat.succ_le_of_lt h)
 rwa [Nat.succ_mul] at this
section
variable {sy : List Sy} {old cp : List UInt8} {st seq : List Nat} {S n : Nat} (H : Plays sy old cp st seq S n)
include H
theorem Plays.inv : ∀ k, k ≤ seq.length → ∀ i, i < n * S → (playN sy cp st seq S k).getD i 0 = if i < sy.length ∧ i / S ∈ seq.take k then symB old (sy.getD i Sy.zero) else cp.getD i 0
 | 0, _, i, _ => by
   rw [if_neg (by simp)]
   rfl
 | k + 1, hk, i, hi => by
   have hS := H.s
   have ht : seq.getD k 0 ∈ seq := by
     rw [List.getD_eq_getElem?_getD, List.getElem?_eq_getElem (by omega)]
     exact List.getElem_mem (by omega)
   have htn := sec_lt (S := S) (H.lt _ ht)
   have hlen := playN_len sy cp st seq S k
   have hm : playM sy S (seq.getD k 0) ≤ S := Nat.min_le_left _ _
   have hnot : seq.getD k 0 ∉ seq.take k := by
     intro h
     obtain ⟨j, hj, e⟩ := List.getElem_of_mem h
     rw [List.length_take] at hj
     rw [List.getElem_take] at e
     rw [List.getD_eq_getElem?_getD, List.getElem?_eq_getElem (show k < seq.length by omega)] at e
     have := (List.getElem_inj H.nd).1 e
     omega
   have htk : seq.take (k + 1) = seq.take k ++ [seq.getD k 0] := take_snoc' seq 0 k (by omega)
   have ih := Plays.inv k (by omega)
   rw [playN, playT_get i _ (by rw [hlen, H.cl]; omega)]
   have hin : (seq.getD k 0 * S ≤ i ∧ i < seq.getD k 0 * S + S) ↔ i / S = seq.getD k 0 := (in_sector hS).symm
   generalize ht0 : seq.getD k 0 = t at *
   by_cases g : t * S ≤ i ∧ i < t * S + playM sy S t
   · rw [if_pos g]
     have hit : i / S = t := hin.1 (by omega)
     have hio : i < sy.length := by unfold playM at g; omega
     rw [if_pos ⟨hio, by rw [htk, hit]; simp⟩]
     unfold playX symB
     by_cases ho : (sy.getD i Sy.zero).old = true
     · rw [if_pos ho, if_pos ho]
       congr 1
       have hat := H.ok i hio ho
       have hin2 := H.inn
       have hc : cp.getD (sy.getD i Sy.zero).at_.toNat 0 = old.getD (sy.getD i Sy.zero).at_.toNat 0 := H.c _ (by omega)
       split
       · exact hc
       · rename_i hst
         rw [ih _ (by omega)]
         have hu : (sy.getD i Sy.zero).at_.toNat / S = rdT (sy.getD i Sy.zero) S := rfl
         rw [hu]
         rcases H.ord k (by omega) i hio (by rw [ht0]; exact hit) ho with h | h | h
         · exact absurd (List.contains_iff_mem.2 h) hst
         · rw [if_neg (fun q => h q.2)]
           exact hc
         · obtain ⟨h1, h2⟩ := h _ hu (by omega)
           split
           · rw [h2]
             unfold symB
             rw [if_pos rfl]
             dsimp only
             rw [Int.toNat_natCast, UInt8.zero_add]
           · exact hc
     · rw [if_neg ho, if_neg ho]
   · rw [if_neg g, ih i hi]
     by_cases hit : i / S = t
     · have hio : ¬ i < sy.length := by
         intro q
         have := hin.2 hit
         unfold playM at g
         omega
       rw [if_neg (fun q => hio q.1), if_neg (fun q => hio q.1)]
     · have : i / S ∈ seq.take (k + 1) ↔ i / S ∈ seq.take k := by
         rw [htk]
         simp [hit]
       simp only [this]
theorem Plays.all (hc : seq.length = n) : (playN sy cp st seq S seq.length).take sy.length = runB old sy := by
 have hS := H.s
 have hout := H.out
 have hl : (playN sy cp st seq S seq.length).length = n * S := by rw [playN_len, H.cl]
 refine List.ext_getElem (by rw [List.length_take, hl, runB_len]; omega) fun i h1 h2 => ?_
 rw [runB_len] at h2
 have h3 := H.inv seq.length (Nat.le_refl _) i (by omega)
 have hin : i / S < n := by
   rw [Nat.div_lt_iff_lt_mul (by omega)]
   omega
 rw [if_pos ⟨h2, by rw [List.take_length]; exact full_has H.nd H.lt hc hin⟩, ← runB_get h2] at h3
 rw [List.getElem_take]
 rw [List.getD_eq_getElem?_getD, List.getD_eq_getElem?_getD, List.getElem?_eq_getElem (by omega), List.getElem?_eq_getElem (by rw [runB_len]; exact h2)] at h3
 exact h3
end
end Go.Sl
end
/-
  The order of a patch's readings lets its image be written.
-/
section
namespace Go.Sl

theorem rdN_cover {inn out : Int} {S : Nat} (hS : 1 ≤ S) : inn ≤ ((rdN inn out S * S : Nat) : Int) ∧ out ≤ ((rdN inn out S * S : Nat) : Int) := by
 have h : (max inn out).toNat ≤ rdN inn out S * S := by
   unfold rdN
   have h1 := Nat.div_add_mod ((max inn out).toNat + S - 1) S
   have h2 := Nat.mod_lt ((max inn out).toNat + S - 1) (show 0 < S by omega)
   rw [Nat.mul_comm] at h1
   omega
 omega
end Go.Sl
end
/-
  The small separation logic: calls that may panic, panics, deferred calls that recover.
-/
section
namespace Go.Sl

section
variable {X : Cx} {β : Base} {n : Nat} {ds : List Deferred} {ops : Array Oper} {Q : Exit → Act → World → Prop} {rest : List Oper} {Γ : Env} {R H : List Pr}

/-- A contract on how a call ends: it returns, or it panics. -/
def CtrE (X : Cx) (f : FuncId) (args : List Value) (R H : List Pr) (Φ : Ending → List Pr → List Pr → Prop) : Prop :=
 FnOk X.P f ∧ ∀ w, Sat (ownBase w R H) w R H → Calls X.P f (List.toArray args) w fun e w' => ∃ R' H', Φ e R' H' ∧ Sat (ownBase w R H) w' R' H'

theorem CtrE.mono {f : FuncId} {args : List Value} {Φ Ψ : Ending → List Pr → List Pr → Prop} (h : CtrE X f args R H Φ) (hi : ∀ e R' H', Φ e R' H' → Ψ e R' H') : CtrE X f args R H Ψ :=
 ⟨h.1, fun w hs => (h.2 w hs).mono fun _ _ ⟨R', H', hv, r⟩ => ⟨R', H', hi _ _ _ hv, r⟩⟩
/-- A contract, used in a larger state. -/
theorem CtrE.use {f : FuncId} {args : List Value} {Rf Hf Hr : List Pr} {Φ : Ending → List Pr → List Pr → Prop} (h : CtrE X f args Rf Hf Φ) {js js' : List Nat} (hj : sel H js = Hf) (hj' : sel H js' = Hr) (hn : (js ++ js').Nodup)
   (hR : Hass R Hr Rf) {w : World} (hs : Sat β w R H) : Calls X.P f (List.toArray args) w fun e w' => ∃ R' H', Φ e R' H' ∧ Sat β w' R (H' ++ Hr) := by
 subst hj hj'
 have nj := (List.nodup_append.1 hn).1
 have nj' := (List.nodup_append.1 hn).2.1
 have njj : ∀ p ∈ js, ∀ q ∈ js', p ≠ q := fun p hp q hq => (List.nodup_append.1 hn).2.2 p hp q hq
 have hx : ∀ c ∈ sel H js, ∀ d ∈ sel H js', ∀ k, c.fp k → ¬ d.fp k := by
   intro c hc d hd k hk hk'
   obtain ⟨p, hp, hpc⟩ := sel_mem hc
   obtain ⟨q, hq, hqd⟩ := sel_mem hd
   exact hs.dis p q c d hpc hqd (njj p hp q hq) k hk hk'
 have hfp : ∀ r ∈ Rf, ∀ k, r.fp k → k < w.heap.size ∧ (∀ c ∈ sel H js, ¬ c.fp k) := by
   intro r hr k hk
   rcases (hR.all r hr).2 k hk with ⟨r', hr', hk'⟩ | ⟨i, d, hd, hk'⟩
   · refine ⟨(hs.rfp r' hr' k hk').1, fun c hc => ?_⟩
     obtain ⟨p, _, hpc⟩ := sel_mem hc
     exact hs.sep r' hr' p c hpc k hk'
   · have hmd := List.mem_of_getElem? hd
     obtain ⟨q, _, hqd⟩ := sel_mem hmd
     exact ⟨(hs.ofp q d hqd k hk').1, fun c hc hck => hx c hc d hmd k hck hk'⟩
 have hsr : Sat β w R (sel H js') := hs.sel nj'
 have hsf : Sat β w R (sel H js) := hs.sel nj
 have h0 : Sat (ownBase w Rf (sel H js)) w Rf (sel H js) := by
   refine ⟨⟨rfl, rfl, rfl, Nat.le_refl _, fun _ _ _ => rfl⟩, fun r hr => (hR.all r hr).1 β w hsr, fun r hr k hk => ⟨(hfp r hr k hk).1, .inr (.inr ⟨r, hr, hk⟩)⟩, hsf.own, ?_, hsf.dis, ?_⟩
   · intro i c hc k hk
     exact ⟨(hsf.ofp i c hc k hk).1, .inr ⟨i, c, hc, hk⟩⟩
   · intro r hr j c hc k hk hk'
     exact (hfp r hr k hk).2 c (List.mem_of_getElem? hc) hk'
 refine (h.2 w h0).mono ?_
 rintro e w' ⟨R', H', hΦ, hs'⟩
 refine ⟨R', H', hΦ, ?_⟩
 have hst : Stp w w' (fun k => ∃ (i : Nat) (c : Pr), (sel H js)[i]? = some c ∧ c.fp k) := ⟨hs'.ext.os, hs'.ext.tape, hs'.ext.output, hs'.ext.size, hs'.ext.block⟩
 have hmt : ∀ k, (∃ (i : Nat) (c : Pr), (sel H js)[i]? = some c ∧ c.fp k) → ∃ (i : Nat) (c : Pr), H[i]? = some c ∧ c.fp k := by
   rintro k ⟨i, c, hc, hk⟩
   obtain ⟨p, _, hp⟩ := sel_mem (List.mem_of_getElem? hc)
   exact ⟨p, c, hp, hk⟩
 have hget : ∀ (i : Nat) (c : Pr), (H' ++ sel H js')[i]? = some c → (i < H'.length ∧ H'[i]? = some c) ∨ (H'.length ≤ i ∧ (sel H js')[i - H'.length]? = some c) := by
   intro i c hc
   rw [List.getElem?_append] at hc
   split at hc
   · rename_i hlt; exact .inl ⟨hlt, hc⟩
   · rename_i hge; exact .inr ⟨by omega, hc⟩
 have cross : ∀ (i : Nat) (c : Pr), H'[i]? = some c → ∀ (j : Nat) (d : Pr), (sel H js')[j]? = some d → ∀ k, c.fp k → ¬ d.fp k := by
   intro i c hc j d hd k hk hk'
   have hlt := (hsr.ofp j d hd k hk').1
   rcases (hs'.ofp i c hc k hk).2 with y | ⟨p, x, hx1, hx2⟩
   · have y' : w.heap.size ≤ k := y; omega
   · exact hx x (List.mem_of_getElem? hx1) d (List.mem_of_getElem? hd) k hx2 hk'
 refine hs.put hst (fun k hk _ => hmt k hk) R (H' ++ sel H js') (fun r hr => .inl hr) ?_ ?_ ?_
 · intro i c hc
   rcases hget i c hc with ⟨_, hc⟩ | ⟨_, hc⟩
   · refine ⟨hs'.own i c hc, fun k hk => ⟨(hs'.ofp i c hc k hk).1, ?_⟩⟩
     rcases (hs'.ofp i c hc k hk).2 with y | y
     · exact .inl y
     · exact .inr (hmt k y)
   · refine ⟨c.st w w' (fun k hk => hst.block k (hsr.ofp _ c hc k hk).1 ?_) (hsr.own _ c hc), fun k hk => ⟨Nat.lt_of_lt_of_le (hsr.ofp _ c hc k hk).1 hst.size, .inr ?_⟩⟩
     · rintro ⟨p, x, hx1, hx2⟩
       exact hx x (List.mem_of_getElem? hx1) c (List.mem_of_getElem? hc) k hx2 hk
     · obtain ⟨q, _, hq⟩ := sel_mem (List.mem_of_getElem? hc)
       exact ⟨q, c, hq, hk⟩
 · intro i j c d hc hd hne k hk hk'
   rcases hget i c hc with ⟨_, hc⟩ | ⟨hi, hc⟩ <;> rcases hget j d hd with ⟨_, hd⟩ | ⟨hj, hd⟩
   · exact hs'.dis i j c d hc hd hne k hk hk'
   · exact cross i c hc _ d hd k hk hk'
   · exact cross j d hd _ c hc k hk' hk
   · exact hsr.dis _ _ c d hc hd (by omega) k hk hk'
 · intro r hr j c hc k hk hk'
   rcases hget j c hc with ⟨_, hc⟩ | ⟨_, hc⟩
   · have hlt := (hs.rfp r hr k hk).1
     rcases (hs'.ofp j c hc k hk').2 with y | ⟨p, x, hx1, hx2⟩
     · have y' : w.heap.size ≤ k := y; omega
     · obtain ⟨q, _, hq⟩ := sel_mem (List.mem_of_getElem? hx1)
       exact hs.sep r hr q x hq k hk hx2
   · exact hsr.sep r hr _ c hc k hk hk'

/-- The same, the read facts of the result kept: all that it reads is not owned here. -/
theorem CtrE.useR {f : FuncId} {args : List Value} {Rf Hf Hr : List Pr} {Φ : Ending → List Pr → List Pr → Prop} (h : CtrE X f args Rf Hf Φ) {js js' : List Nat} (hj : sel H js = Hf) (hj' : sel H js' = Hr) (hn : (js ++ js').Nodup)
   (hR : Hass R [] Rf) {w : World} (hs : Sat β w R H) : Calls X.P f (List.toArray args) w fun e w' => ∃ R' H', Φ e R' H' ∧ Sat β w' (R' ++ R) (H' ++ Hr) := by
 subst hj hj'
 have nj := (List.nodup_append.1 hn).1
 have nj' := (List.nodup_append.1 hn).2.1
 have njj : ∀ p ∈ js, ∀ q ∈ js', p ≠ q := fun p hp q hq => (List.nodup_append.1 hn).2.2 p hp q hq
 have hx : ∀ c ∈ sel H js, ∀ d ∈ sel H js', ∀ k, c.fp k → ¬ d.fp k := by
   intro c hc d hd k hk hk'
   obtain ⟨p, hp, hpc⟩ := sel_mem hc
   obtain ⟨q, hq, hqd⟩ := sel_mem hd
   exact hs.dis p q c d hpc hqd (njj p hp q hq) k hk hk'
 have hin : ∀ r ∈ Rf, ∀ k, r.fp k → ∃ r' ∈ R, r'.fp k := by
   intro r hr k hk
   rcases (hR.all r hr).2 k hk with x | ⟨i, d, hd, _⟩
   · exact x
   · simp at hd
 have hsr : Sat β w R (sel H js') := hs.sel nj'
 have hsf : Sat β w R (sel H js) := hs.sel nj
 have h0 : Sat (ownBase w Rf (sel H js)) w Rf (sel H js) := by
   refine ⟨⟨rfl, rfl, rfl, Nat.le_refl _, fun _ _ _ => rfl⟩, fun r hr => (hR.all r hr).1 β w (by
     have := hs.sel (js := []) (by simp)
     exact this), fun r hr k hk => ?_, hsf.own, ?_, hsf.dis, ?_⟩
   · obtain ⟨r', hr', hk'⟩ := hin r hr k hk
     exact ⟨(hs.rfp r' hr' k hk').1, .inr (.inr ⟨r, hr, hk⟩)⟩
   · intro i c hc k hk
     exact ⟨(hsf.ofp i c hc k hk).1, .inr ⟨i, c, hc, hk⟩⟩
   · intro r hr j c hc k hk hk'
     obtain ⟨r', hr', hk2⟩ := hin r hr k hk
     exact hsf.sep r' hr' j c hc k hk2 hk'
 refine (h.2 w h0).mono ?_
 rintro e w' ⟨R', H', hΦ, hs'⟩
 refine ⟨R', H', hΦ, ?_⟩
 have hst : Stp w w' (fun k => ∃ (i : Nat) (c : Pr), (sel H js)[i]? = some c ∧ c.fp k) := ⟨hs'.ext.os, hs'.ext.tape, hs'.ext.output, hs'.ext.size, hs'.ext.block⟩
 have hmt : ∀ k, (∃ (i : Nat) (c : Pr), (sel H js)[i]? = some c ∧ c.fp k) → ∃ (i : Nat) (c : Pr), H[i]? = some c ∧ c.fp k := by
   rintro k ⟨i, c, hc, hk⟩
   obtain ⟨p, _, hp⟩ := sel_mem (List.mem_of_getElem? hc)
   exact ⟨p, c, hp, hk⟩
 have hget : ∀ (i : Nat) (c : Pr), (H' ++ sel H js')[i]? = some c → (i < H'.length ∧ H'[i]? = some c) ∨ (H'.length ≤ i ∧ (sel H js')[i - H'.length]? = some c) := by
   intro i c hc
   rw [List.getElem?_append] at hc
   split at hc
   · rename_i hlt; exact .inl ⟨hlt, hc⟩
   · rename_i hge; exact .inr ⟨by omega, hc⟩
 have cross : ∀ (i : Nat) (c : Pr), H'[i]? = some c → ∀ (j : Nat) (d : Pr), (sel H js')[j]? = some d → ∀ k, c.fp k → ¬ d.fp k := by
   intro i c hc j d hd k hk hk'
   have hlt := (hsr.ofp j d hd k hk').1
   rcases (hs'.ofp i c hc k hk).2 with y | ⟨p, x, hx1, hx2⟩
   · have y' : w.heap.size ≤ k := y; omega
   · exact hx x (List.mem_of_getElem? hx1) d (List.mem_of_getElem? hd) k hx2 hk'
 refine hs.put hst (fun k hk _ => hmt k hk) (R' ++ R) (H' ++ sel H js') ?_ ?_ ?_ ?_
 · intro r hr
   rcases List.mem_append.1 hr with hr | hr
   · refine .inr ⟨hs'.rd r hr, fun k hk => ⟨(hs'.rfp r hr k hk).1, ?_⟩⟩
     rcases (hs'.rfp r hr k hk).2 with y | y | ⟨r0, hr0, hk0⟩
     · exact .inl y
     · exact .inr (.inl (hmt k y))
     · exact .inr (.inr (hin r0 hr0 k hk0))
   · exact .inl hr
 · intro i c hc
   rcases hget i c hc with ⟨_, hc⟩ | ⟨_, hc⟩
   · refine ⟨hs'.own i c hc, fun k hk => ⟨(hs'.ofp i c hc k hk).1, ?_⟩⟩
     rcases (hs'.ofp i c hc k hk).2 with y | y
     · exact .inl y
     · exact .inr (hmt k y)
   · refine ⟨c.st w w' (fun k hk => hst.block k (hsr.ofp _ c hc k hk).1 ?_) (hsr.own _ c hc), fun k hk => ⟨Nat.lt_of_lt_of_le (hsr.ofp _ c hc k hk).1 hst.size, .inr ?_⟩⟩
     · rintro ⟨p, x, hx1, hx2⟩
       exact hx x (List.mem_of_getElem? hx1) c (List.mem_of_getElem? hc) k hx2 hk
     · obtain ⟨q, _, hq⟩ := sel_mem (List.mem_of_getElem? hc)
       exact ⟨q, c, hq, hk⟩
 · intro i j c d hc hd hne k hk hk'
   rcases hget i c hc with ⟨_, hc⟩ | ⟨hi, hc⟩ <;> rcases hget j d hd with ⟨_, hd⟩ | ⟨hj, hd⟩
   · exact hs'.dis i j c d hc hd hne k hk hk'
   · exact cross i c hc _ d hd k hk hk'
   · exact cross j d hd _ c hc k hk' hk
   · exact hsr.dis _ _ c d hc hd (by omega) k hk hk'
 · intro r hr j c hc k hk hk'
   rcases List.mem_append.1 hr with hr | hr <;> rcases hget j c hc with ⟨_, hc⟩ | ⟨_, hc⟩
   · exact hs'.sep r hr j c hc k hk hk'
   · have hlt := (hsr.ofp _ c hc k hk').1
     rcases (hs'.rfp r hr k hk).2 with y | ⟨p, x, hx1, hx2⟩ | ⟨r0, hr0, hk0⟩
     · have y' : w.heap.size ≤ k := y; omega
     · exact hx x (List.mem_of_getElem? hx1) c (List.mem_of_getElem? hc) k hx2 hk'
     · obtain ⟨r', hr', hk2⟩ := hin r0 hr0 k hk0
       exact hsr.sep r' hr' _ c hc k hk2 hk'
   · have hlt := (hs.rfp r hr k hk).1
     rcases (hs'.ofp j c hc k hk').2 with y | ⟨p, x, hx1, hx2⟩
     · have y' : w.heap.size ≤ k := y; omega
     · obtain ⟨q, _, hq⟩ := sel_mem (List.mem_of_getElem? hx1)
       exact hs.sep r hr q x hq k hk hx2
   · exact hsr.sep r hr _ c hc k hk hk'

/-- What the body's end must be. -/
def postE (X : Cx) (β : Base) (fn : Func) (Φ : Ending → List Pr → List Pr → Prop) : Exit → Act → World → Prop :=
 bodyPost X.P fn fun e w' => ∃ R' H', Φ e R' H' ∧ Sat β w' R' H'

theorem CtrE.of {f : FuncId} {fn : Func} {c : Code} {args : List Value} {Φ : Ending → List Pr → List Pr → Prop} (hf : X.P.funcs[f]? = some fn) (hb : fn.body = some c) (hname : (fn.name == "runtime.NumGoroutine") = false)
   (hn : Nat.ble args.length fn.ntmps = true) (h : ∀ β, C X β fn.ntmps [] (postE X β fn Φ) c (params 0 args) R H) : CtrE X f args R H Φ := by
 have hn : args.length ≤ fn.ntmps := by simpa using hn
 refine ⟨⟨fn, hf, by rw [hb]; rfl, hname⟩, fun w hs => ?_⟩
 refine calls_of_wp hf hb (h _ _ w ⟨by simp; omega, rfl, fun s v hv => ?_⟩ hs)
 obtain ⟨_, h2⟩ := look_params args 0 s v hv
 have hlt := (List.getElem?_eq_some_iff.1 h2).1
 simp only [Nat.sub_zero] at h2 hlt
 rw [Array.getElem?_append_left (by simpa using hlt)]
 simpa using h2

theorem run_results {fn : Func} {rs : List ResultVar} {vs : List Value} {a : Act} {w : World} (hrs : fn.results = List.toArray rs) (hf : Fr n ds a Γ) (hsat : Sat β w R H) (hr : Ress X Γ R H rs vs) : (results fn a.tmps).run X.P w = .ok (tup vs) w := by
 rw [results_eq, hrs, Sem.run_bind, Array.mapM_eq_mapM_toList, Sem.run_map]
 have e : (List.mapM (resOne a.tmps) (List.toArray rs).toList).run X.P w = .ok vs w := run_ress (X := X) hf hsat hr
 rw [e]
 simp only [Result.andThen_ok, Sem.run_pure]
 cases vs with
 | nil => rfl
 | cons v vs =>
   cases vs with
   | nil => rfl
   | cons u us => simp [tup]
/-- panic(v), v in an interface. -/
theorem L.panic {ty : Nat} {pos : String} {af : Array Edge} {x : Operand} {t : TypeId} {v : Value} (hx : ev Γ x = some (.iface t v)) (h : QE β n ds Q (.panic [{ v := .iface t v, recovered := false }]) Γ R H) :
   L X β n ds ops Q (⟨none, .panic x, ty, pos, af, none⟩ :: rest) Γ R H := by
 intro a w hf hs
 refine wpList_plain rfl fun K hK => ?_
 unfold Oper.wp
 have e : (execOp a.eval ⟨none, .panic x, ty, pos, af, none⟩).run X.P w = .halt (.panic (.iface t v)) w := by
   have hp : (Instr.panic (.iface t v)).run X.P w = .halt (.panic (.iface t v)) w := rfl
   simp [execOp, hf.agree x _ hx, hp]
 rw [e]
 exact h a w hf hs

/-! ### Interfaces -/
/-! ### Deferred calls -/
/-- A deferred function without arguments that recovers the panic ch1 (which is then ch2), and does nothing else. -/
structure RecOk (P : Program) (f : FuncId) (v : Value) : Prop where
 fn : ∀ w, (invoke (.fn (.func f) #[]) #[]).run P w = .ok (.enter f #[]) w
 idle : ∀ w, CallsD P f #[] .returning w fun e u' w' => e = .returned (.tuple #[]) ∧ u' = .returning ∧ Stp w w' (fun _ => False)
 caught : ∀ w, CallsD P f #[] (.panicking [{ v := v, recovered := false }]) w fun e u' w' => e = .returned (.tuple #[]) ∧ u' = .panicking [{ v := v, recovered := true }] ∧ Stp w w' (fun _ => False)
def dfn (f : FuncId) : Deferred := { target := .fn (.func f) #[], args := #[] }
theorem L.defer {ty f : Nat} {pos : String} {af : Array Edge} {tys : Array TypeId} {rest : List Oper} (h : L X β n (dfn f :: ds) ops Q rest Γ R H) : L X β n ds ops Q (⟨none, .defer ⟨.value (.func f), #[], tys⟩, ty, pos, af, none⟩ :: rest) Γ R H := by
 intro a w hf hs
 refine wpList_plain rfl fun K hK => ?_
 unfold Oper.wp
 have e : (execOp a.eval ⟨none, .defer ⟨.value (.func f), #[], tys⟩, ty, pos, af, none⟩).run X.P w = .ok (.defer (dfn f)) w := by
   simp [execOp, resolve, hf.agree (.func f) _ rfl, Deferred.ofValue, dfn]
 rw [e]
 refine hK _ _ (h _ _ ?_ hs)
 exact ⟨hf.size, by simp [Act.put, hf.dfs], fun s v hv => hf.vals s v hv⟩
/-! ### Regions that draw their order, in which an operation may panic: all orders, one by one -/
def QA (X : Cx) (ops : Array Oper) (Q : Exit → Act → World → Prop) (fuel : Nat) (listed : Array Bool) : Exit → Act → World → Prop
 | .normal, a, w => wpAny X.P .any ops Q fuel listed a w
 | e, a, w => Q e a w
theorem letsOut_QA {fuel : Nat} {listed : Array Bool} (h : LetsOut (QA X ops Q fuel listed)) : LetsOut Q := h
theorem wpOp_of_L {fuel : Nat} {listed : Array Bool} {i : Nat} {o : Oper} (hi : ops[i]? = some o) {a : Act} {w : World} (this : wpList X.P ops (QA X ops Q fuel listed) [o] a w) : wpOp X.P ops Q i (wpAny X.P .any ops Q fuel listed) a w := by
 unfold wpOp
 simp only [hi]
 simp only [wpList] at this
 split
 · rename_i hw
   simp only [hw, if_true] at this
   rcases this with h1 | ⟨h0, h1⟩
   · refine .inl ?_
     unfold Oper.wp at *
     generalize (execOp a.eval o).run X.P w = r at *
     cases r with
     | ok nx w' =>
       cases nx <;> simp only [Oper.upon] at h1 ⊢ <;>
         first
           | exact h1
           | exact h1.elim
           | exact Calls.mono h1 (fun e w'' he => by cases e <;> exact he)
     | halt x w' => cases x <;> simp only [Oper.upon] at h1 ⊢ <;> first | exact h1 | exact h1.elim
   · exact .inr ⟨h0, letsOut_QA h1⟩
 · rename_i hw
   simp only [hw] at this
   exact this
def LA (X : Cx) (β : Base) (n : Nat) (ds : List Deferred) (ops : Array Oper) (Q : Exit → Act → World → Prop) (fuel : Nat) (listed : Array Bool) (Γ : Env) (R H : List Pr) : Prop :=
 ∀ a w, listed.size = ops.size → Fr n ds a Γ → Sat β w R H → wpAny X.P .any ops Q fuel listed a w
theorem LA.alt {fuel : Nat} {listed : Array Bool} (l : List Nat) (hr : Region.ready .any ops listed = l) (hl : l ≠ []) (h : Alls l fun i => ∃ o, ops[i]? = some o ∧ L X β n ds ops (QA X ops Q fuel (listed.setIfInBounds i true)) [o] Γ R H) : LA X β n ds ops Q (fuel + 1) listed Γ R H := by
 intro a w _ hf hs
 refine ⟨fun h0 => absurd (hr ▸ h0) hl, fun i hi => ?_⟩
 rw [hr] at hi
 obtain ⟨o, ho, hL⟩ := h.mem i hi
 exact wpOp_of_L ho (hL a w hf hs)
theorem LA.nil {fuel : Nat} {listed : Array Bool} (hr : Region.ready .any ops listed = []) (h : QE β n ds Q .normal Γ R H) : LA X β n ds ops Q fuel listed Γ R H := by
 intro a w _ hf hs
 cases fuel with
 | zero => exact ⟨hr, h a w hf hs⟩
 | succ fuel => exact ⟨fun _ => h a w hf hs, fun i hi => by rw [hr] at hi; cases hi⟩
theorem QE.a {fuel : Nat} {listed : Array Bool} (hz : (listed.size == ops.size) = true) (h : LA X β n ds ops Q fuel listed Γ R H) : QE β n ds (QA X ops Q fuel listed) .normal Γ R H := fun a w hf hs => h a w (by simpa using hz) hf hs
end
end Go.Sl
end
