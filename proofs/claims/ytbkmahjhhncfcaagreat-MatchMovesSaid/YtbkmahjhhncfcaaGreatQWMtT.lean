/-
  The law MatchMoves.
-/
import Derived.ProofKit
import Derived.Deep.Slices
import Derived.Below
import Derived.OpenShut
import Derived.Lib.SmallJoins
import Derived.ChangeArms
import Derived.Test.YtbkmahjhhncfcaaGreatQWMtQ
import Derived.Test.YtbkmahjhhncfcaaGreatQWLaN
import Derived.Test.YtbkmahjhhncfcaaGreatQSlG
import Derived.Test.YtbkmahjhhncfcaaGreatQSlI
import Derived.Test.YtbkmahjhhncfcaaGreatQPl
import Derived.Test.YtbkmahjhhncfcaaGreatQWLaQ
section
namespace Go.Proofs.YtbkmahjhhncfcaaGreat
open Go.Sl

set_option maxHeartbeats 2000000 in
theorem mmoves07_c (CA : Option Addr) (l : List (List UInt8)) (k0 : Nat) (am bm : UInt8) (hll : l.length ≤ 9223372036854775807) :
   Ctr X 7 [.slice CA l.length k0, .int .u8 (am.toNat : Int), .int .u8 (bm.toNat : Int)] [Rd CA (frV l)] [] (fun v R' H' => v = .bool true ∧ R' = [] ∧ H' = []) := by
 refine Ctr.of (X := X) (fn := Tryz.f7) Tryz.func7 rfl (by kernel_rfl) rfl ?_
 intro β
 have ha8 := u8_lt am
 have hb8 := u8_lt bm
 have hxl := codB_len l 30
 have h1 := codB_code l (show 30 ≤ 16384 by decide)
 have hb13 : (bm.toNat % 13) < 13 := Nat.mod_lt _ (by decide)
 have hmvl := moved_len (b := (codB l 30)) (p := (am.toNat % (((codB l 30).length / 4) + 1))) (q := (bm.toNat % 13)) (by omega) (by omega)
 refine C.seq (C.region ?_); refine Lpu rfl rfl ?_; refine L.nil (QE.seq (C.seq (C.region ?_))); refine L.call (js := []) (js' := []) (sanity07_c) rfl rfl rfl (by decide) trivial rfl ?_
 rintro _ _ _ ⟨rfl, rfl, rfl⟩
 refine Lpu rfl rfl ?_; refine L.nil (QE.seq (C.seq (C.region ?_))); refine Lpu rfl rfl ?_; refine L.call (js := []) (js' := []) (code_c CA l k0 30 (by omega) (by decide)) rfl rfl rfl (by decide) (Hq [0] rfl) rfl ?_
 rintro _ _ _ ⟨XA, xc, rfl, rfl, rfl⟩
 refine L.norm (H' := [_]) [0] ⟨rfl, trivial⟩ (by decide) ?_; refine Lpu rfl rfl ?_; refine L.nil (QE.seq (C.seq ?_))
 refine C.capO 0 rfl (fun hxc => ?_)
 refine C.freeze 0 rfl [] (by decide) (by decide) ?_; refine C.region ?_; refine Lpu rfl rfl ?_; refine Lpu rfl rfl ?_; refine L.step (Ev.cast (u := .int .i64 ((((codB l 30).length / 4) : Nat) : Int)) (Ev.quo rfl rfl (by omega) (by decide) (by omega)) (congrArg (Value.int .i64) (by rw [Int.natCast_ediv]; rfl))) rfl ?_; refine Lpu rfl rfl ?_; refine L.nil (QE.seq (C.seq (C.region ?_))); refine Lpu rfl rfl ?_; refine Lpu rfl rfl ?_; refine L.step (Ev.toInt rfl rfl rfl rfl (by omega) (by omega)) rfl ?_; refine Lpu rfl rfl ?_; refine L.step (Ev.cast (u := .int .i64 (((((codB l 30).length / 4) + 1) : Nat) : Int)) (Ev.add rfl rfl (by omega) (by omega)) (congrArg (Value.int .i64) (by omega))) rfl ?_; refine L.step (Ev.cast (u := .int .i64 (((am.toNat % (((codB l 30).length / 4) + 1)) : Nat) : Int)) (Ev.rem rfl rfl (by omega) (by omega)) (congrArg (Value.int .i64) (by rw [Int.natCast_emod]))) rfl ?_; refine Lpu rfl rfl ?_; refine L.step (Ev.cast (u := .int .u8 (((bm.toNat % 13) : Nat) : Int)) (Ev.rem rfl rfl (by omega) (by decide)) (congrArg (Value.int .u8) (by rw [Int.natCast_emod]; rfl))) rfl ?_; refine L.step (Ev.toInt rfl rfl rfl rfl (by omega) (by omega)) rfl ?_; refine L.call (js := []) (js' := []) (moved_c XA (codB l 30) xc hxc (by omega) (((am.toNat % (((codB l 30).length / 4) + 1)) : Nat) : Int) (((bm.toNat % 13) : Nat) : Int)) rfl rfl rfl (by decide) (Hq [0] rfl) rfl ?_
 rintro _ _ _ ⟨ZA, zc, rfl, rfl, rfl⟩
 refine L.norm (H' := [_]) [0] ⟨rfl, trivial⟩ (by decide) ?_; refine Lpu rfl rfl ?_; refine Lpu rfl rfl ?_; refine Lpu rfl rfl ?_; refine Lpu rfl rfl ?_; refine Lpu rfl rfl ?_; refine L.nil (QE.seq (C.seq (C.seq ?_)))
 refine C.capO 0 rfl (fun hzc => ?_)
 refine C.freeze 0 rfl [] (by decide) (by decide) ?_; refine C.region ?_; refine Lpu rfl rfl ?_; refine Lpu rfl rfl ?_; refine L.nil (QE.seq ?_)
 refine C.condB 35 rfl (fun hc35 => ?_) (fun hc35 => ?_)
 ·
  replace hc35 := b_ne hc35
  refine C.seq (C.region ?_); refine Lpu rfl rfl ?_; refine Lpu rfl rfl ?_; refine L.yes rfl ?_; refine Lpu rfl rfl ?_; refine L.yes rfl ?_; refine L.step (Ev.cast (u := .bool true) (Ev.pure rfl) (by rw [movC_30 hc35]; rfl)) rfl ?_; refine Lpu rfl rfl ?_; refine Lpu rfl rfl ?_; refine L.nil (QE.seq (C.ret (QE.tR ?_))); refine QE.ret (js := []) (hs := []) (vs := [_]) rfl ⟨rfl, trivial⟩ (by decide) ?_
  exact ⟨rfl, rfl, rfl⟩
 ·
  replace hc35 := b_eq hc35
  have h2 := (mov_lift hc35).2.1
  have hcr := codeR_code h1 h2
  have hbd := mov_bound hc35
  refine C.skip (QE.seq (C.seq (C.region ?_))); refine Lpu rfl rfl ?_; refine Lpu rfl rfl ?_; refine L.callR (js := []) (js' := []) (codeA_c XA ZA (codB l 30) (movB (codB l 30) (((am.toNat % (((codB l 30).length / 4) + 1)) : Nat) : Int) (((bm.toNat % 13) : Nat) : Int)) xc zc (by omega) (by omega) (by omega) (by omega) ⟨by have := foF_len (b := (codB l 30)); omega, by have := foF_len (b := (movB (codB l 30) (((am.toNat % (((codB l 30).length / 4) + 1)) : Nat) : Int) (((bm.toNat % 13) : Nat) : Int))); omega⟩) rfl rfl rfl (by decide) (Hq [1, 0] rfl) rfl ?_
  rw [hcr]
  rintro _ _ _ ⟨p, rfl, rfl, rfl, hp⟩
  have hpo := hp rfl
  refine Lpu rfl rfl ?_; refine Lpu rfl rfl ?_; refine Lpu rfl rfl ?_
  refine L.alloc rfl rfl rfl (fun A12 => ?_)
  refine L.storeA (j := 0) rfl rfl rfl rfl rfl (Nat.zero_lt_succ _) rfl rfl ?_; refine Lpu rfl rfl ?_; refine L.nil (QE.seq (C.seq (C.seq (C.region ?_)))); refine Lpu rfl rfl ?_; refine Lpu rfl rfl ?_; refine Lpu rfl rfl ?_
  refine L.bool 49 rfl (fun hg49 => ?_) (fun hg49 => ?_)
  ·
   replace hg49 := b_ne hg49
   exact absurd rfl hg49
  ·
   replace hg49 := b_eq hg49
   refine L.yes rfl ?_; refine L.step (Ev.loadA (vs := [.bool p.lf, .int .i64 p.inn, .int .i64 p.out, .slice p.A p.l.length p.c]) rfl rfl rfl (Src.o 0 rfl) rfl rfl (by decide)) rfl ?_; refine L.yes rfl ?_; refine L.call (js := []) (js' := [0]) (Ctr.tbM true (right06Q_c p.lf p.inn p.out p.l p.A p.c (by have := (chkP_iff.1 hpo.chk).2.2.2.2.1; omega)) (by rw [hpo.chk]; rfl)) rfl rfl rfl (by decide) (Hq [0] rfl) rfl ?_
   rintro _ _ _ ⟨rfl, rfl, rfl⟩
   refine L.norm (H' := [_]) [0] ⟨rfl, trivial⟩ (by decide) ?_; refine L.yes rfl ?_; refine Lpu rfl rfl ?_; refine Lpu rfl rfl ?_; refine L.nil (QE.seq ?_)
   refine C.cond rfl (fun h => by cases h) (fun _ => ?_)
   refine C.skip (QE.seq (C.seq (C.region ?_))); refine Lpu rfl rfl ?_; refine Lpu rfl rfl ?_; refine L.step (Ev.cast (u := .int .u8 (((bm.toNat % 13) : Nat) : Int)) (Ev.rem rfl rfl (by omega) (by decide)) (congrArg (Value.int .u8) (by rw [Int.natCast_emod]; rfl))) rfl ?_; refine L.step (Ev.toInt rfl rfl rfl rfl (by omega) (by omega)) rfl ?_; refine L.step (Ev.cast (u := .int .i64 (((((codB l 30).length / 4) + (bm.toNat % 13)) : Nat) : Int)) (Ev.add rfl rfl (by omega) (by omega)) (congrArg (Value.int .i64) (by omega))) rfl ?_; refine Lpu rfl rfl ?_; refine L.nil (QE.seq (C.seq (C.region ?_))); refine Lpu rfl rfl ?_; refine Lpu rfl rfl ?_; refine L.yes rfl ?_; refine L.step (Ev.loadA (vs := [.bool p.lf, .int .i64 p.inn, .int .i64 p.out, .slice p.A p.l.length p.c]) rfl rfl rfl (Src.o 0 rfl) rfl rfl (by decide)) rfl ?_; refine L.yes rfl ?_; refine L.call (js := []) (js' := [0]) (costQ_c p.lf p.inn p.out p.l p.A p.c (by have := (chkP_iff.1 hpo.chk).2.2.2.2.1; omega) hpo.chk) rfl rfl rfl (by decide) (Hq [0] rfl) rfl ?_
   rintro _ _ _ ⟨rfl, rfl, rfl⟩
   refine L.norm (H' := [_]) [0] ⟨rfl, trivial⟩ (by decide) ?_; refine L.yes rfl ?_; refine Lpu rfl rfl ?_; refine L.yes rfl ?_; refine L.step (Ev.cast (u := .int .i64 ((((((codB l 30).length / 4) + (bm.toNat % 13)) + 7) : Nat) : Int)) (Ev.add rfl rfl (by omega) (by omega)) (congrArg (Value.int .i64) (by omega))) rfl ?_; refine L.yes rfl ?_; refine L.step (Ev.cast (u := .int .i64 (((((((codB l 30).length / 4) + (bm.toNat % 13)) + 7) / 8) : Nat) : Int)) (Ev.quo rfl rfl (by omega) (by decide) (by omega)) (congrArg (Value.int .i64) (by rw [Int.natCast_ediv]; rfl))) rfl ?_; refine L.yes rfl ?_; refine L.step (Ev.add rfl rfl (by omega) (by omega)) rfl ?_; refine L.yes rfl ?_; refine L.step (Ev.cast (u := .bool true) (Ev.pure rfl) (congrArg Value.bool (decide_eq_true (by rw [hpo.mq.cost]; exact hbd)))) rfl ?_; refine Lpu rfl rfl ?_; refine Lpu rfl rfl ?_; refine L.yes rfl ?_; refine L.step (Ev.loadA (vs := [.bool p.lf, .int .i64 p.inn, .int .i64 p.out, .slice p.A p.l.length p.c]) rfl rfl rfl (Src.o 0 rfl) rfl rfl (by decide)) rfl ?_; refine L.yes rfl ?_; refine Lpu rfl rfl ?_; refine L.yes rfl ?_; refine Lpu rfl rfl ?_; refine L.yes rfl ?_; refine L.call (js := []) (js' := [0]) (madeL_c XA ZA (codB l 30) (movB (codB l 30) (((am.toNat % (((codB l 30).length / 4) + 1)) : Nat) : Int) (((bm.toNat % 13) : Nat) : Int)) xc zc p.lf p.inn p.out p.l p.A p.c (by have := (chkP_iff.1 hpo.chk).2.2.2.2.1; omega) hpo.lf h1 h2 hxc hpo.chk hpo.inn hpo.mq.run) rfl rfl rfl (by decide) (Hq [3, 2, 0, 1] rfl) rfl ?_
   rintro _ _ _ ⟨rfl, rfl, rfl⟩
   refine L.norm (H' := [_]) [0] ⟨rfl, trivial⟩ (by decide) ?_; refine Lpu rfl rfl ?_; refine Lpu rfl rfl ?_; refine L.nil (QE.seq (C.ret ?_)); refine QE.ret (js := []) (hs := []) (vs := [_]) rfl ⟨rfl, trivial⟩ (by decide) ?_
   exact ⟨rfl, rfl, rfl⟩

end Go.Proofs.YtbkmahjhhncfcaaGreat
end
/-
  From the readings of a call's arguments to the facts of the small separation logic.
-/
section
namespace Go.Sl
open Go.ChangeShapes Go.WideShapes Go.RowKit Go.Deep

theorem cell_lt {w : World} {a : Addr} {v : Value} (h : w.cell? a = some v) : a.block < w.heap.size := by
 rcases Nat.lt_or_ge a.block w.heap.size with h1 | h1
 · exact h1
 · unfold World.cell? at h
   rw [Array.getElem?_eq_none h1] at h
   simp at h
theorem Rd.lt {w : World} {A : Option Addr} {xs : List Value} (h : (Rd A xs).p w) {k : Nat} (hk : (Rd A xs).fp k) : k < w.heap.size := by
 obtain ⟨hne, a, rfl, rfl⟩ := hk
 cases xs with
 | nil => exact absurd rfl hne
 | cons u us =>
   obtain ⟨b, hb, hc⟩ := h 0 u rfl
   cases hb
   have := cell_lt hc
   rwa [addblock] at this
theorem KidsR.lt {w : World} {hs : List Hd} {vss : List (List Value)} (h : (KidsR hs vss).p w) {k : Nat} (hk : (KidsR hs vss).fp k) : k < w.heap.size := by
 obtain ⟨i, hd, v, h1, h2, h3⟩ := hk
 exact Rd.lt (h i hd v h1 h2) h3

/-- The state at a call that owns nothing. -/
theorem Sat.start {w : World} {R : List Pr} (hr : ∀ r ∈ R, r.p w) (hf : ∀ r ∈ R, ∀ k, r.fp k → k < w.heap.size) : Sat (ownBase w R []) w R [] :=
 ⟨⟨rfl, rfl, rfl, Nat.le_refl _, fun _ _ _ => rfl⟩, hr, fun r h k hk => ⟨hf r h k hk, .inr (.inr ⟨r, h, hk⟩)⟩, fun i c h => by simp at h, fun i c h => by simp at h, fun i j c d h => by simp at h, fun r _ j c h => by simp at h⟩
theorem Sat.below {w w' : World} {R R' H' : List Pr} (h : Sat (ownBase w R []) w' R' H') : Below w.heap.size w w' :=
 ⟨h.ext.os, h.ext.tape, h.ext.output, h.ext.size, fun k hk => h.ext.block k hk (fun ⟨i, c, hi, _⟩ => by simp at hi)⟩

section
variable {H : Type} {enc : TypeId × Value → H} {P : Program} {w : World} {base : Nat} {spare : Nat → Bool} {held : Bool}

def byteOf (n : Int) : UInt8 := UInt8.ofNat n.toNat
theorem byteOf_eq {n : Int} (h : (Lit.int .u8 n).wf = true) : Value.int .u8 ((byteOf n).toNat : Int) = .int .u8 n := by
 have : 0 ≤ n ∧ n ≤ 255 := by
   simp [Lit.wf, IntKind.min, IntKind.max, IntKind.signed, IntKind.bits] at h
   omega
 unfold byteOf
 congr 1
 simp
 omega

end
end Go.Sl
end
/-
  From the readings of a call's arguments to facts: numbers, slices of slices of numbers, small arrays.
-/
section
namespace Go.Sl
open Go.ChangeShapes Go.WideShapes Go.RowKit Go.Deep Go.Joins

section
variable {H : Type} {enc : TypeId × Value → H} {P : Program} {w : World} {base : Nat} {spare : Nat → Bool} {held : Bool}

/-- The cells of an array of small numbers. -/
theorem open_arr8 {n : Nat} {t e : TypeId} {fuel : Nat} {cs : List Value} {x : DataW H × List MemPlace} (ht : P.underlying t = some (.array n e)) (he : P.underlying e = some (.int .u8)) (ce : P.cellsOf e = 1) (hl : cs.length = n)
   (h : DataW.trod enc P w base spare held fuel t cs = some x) : ∀ i, i < n → ∃ y : UInt8, cs[i]? = some (.int .u8 (y.toNat : Int)) := by
 intro i hi
 obtain ⟨xs, m2, -, -, -, hxl, hg⟩ := DataW.trod_array ht h
 have g := hg i hi
 rw [ce, List.getElem?_eq_getElem (by rw [hxl]; exact hi)] at g
 have e1 : (cs.drop (i * 1)).take 1 = [cs[i]'(by omega)] := by
   rw [Nat.mul_one, List.drop_eq_getElem_cons (by omega), List.take_succ_cons, List.take_zero]
 rw [e1] at g
 obtain ⟨z, hz, -, wz⟩ := DataW.trod_int he g
 exact ⟨byteOf z, by rw [List.getElem?_eq_getElem (by omega), (List.cons.inj hz).1, byteOf_eq wz]⟩
end
end Go.Sl
end
/-
  From the readings of a call's arguments to facts: slices of arrays of four bytes, of words, of booleans; lifted code.
-/
section
namespace Go.Sl
open Go.ChangeShapes Go.WideShapes Go.RowKit Go.Deep Go.Joins

section
variable {H : Type} {enc : TypeId × Value → H} {P : Program} {w : World} {base : Nat} {spare : Nat → Bool} {held : Bool}

theorem open_u4c {t e : TypeId} {fuel : Nat} {cs : List Value} {x : DataW H × List MemPlace} (ht : P.underlying t = some (.array 4 e)) (he : P.underlying e = some (.int .u8)) (ce : P.cellsOf e = 1) (hl : cs.length = 4)
   (h : DataW.trod enc P w base spare held fuel t cs = some x) : ∃ r : List UInt8, cs = u4 r := by
 have hi := open_arr8 ht he ce hl h
 obtain ⟨y0, h0⟩ := hi 0 (by decide)
 obtain ⟨y1, h1⟩ := hi 1 (by decide)
 obtain ⟨y2, h2⟩ := hi 2 (by decide)
 obtain ⟨y3, h3⟩ := hi 3 (by decide)
 match cs, hl, h0, h1, h2, h3 with
 | [a, b, c, d], _, h0, h1, h2, h3 =>
   simp at h0 h1 h2 h3
   exact ⟨[y0, y1, y2, y3], by rw [h0, h1, h2, h3]; rfl⟩
theorem open_fours {r : Reach} {b0 : Nat} {q t e : TypeId} {v : Value} {d : DataW H} {ps : List MemPlace} (hq : P.underlying q = some (.slice t)) (ht : P.underlying t = some (.array 4 e)) (he : P.underlying e = some (.int .u8)) (ce : P.cellsOf e = 1) (ct : P.cellsOf t = 4)
   (hv : Value.okWide P w r b0 q v) (h : DataW.Trod enc P w base spare held q v d ps) :
   ∃ (A : Option Addr) (c : Nat) (l : List (List UInt8)), v = .slice A l.length c ∧ l.length ≤ maxLen ∧ (Rd A (frV l)).p w := by
 obtain ⟨A, n, c, rfl⟩ := okWide_slice hq hv
 obtain ⟨fuel, hf⟩ := h
 have hf' : DataW.trod enc P w base spare held fuel q [.slice A n c] = some (d, ps) := by simpa [Value.cells] using hf
 rcases open_slice hq hf' with ⟨hcs, _⟩ | ⟨a, len, cap, m, k, D, Pl, hcs, _, hl, hm, hmm, _, hi⟩
 · exact ⟨none, 0, [], (List.cons.inj hcs).1, Nat.zero_le _, fun j u hu => by simp [frV] at hu⟩
 · have ee := (List.cons.inj hcs).1
   have hle : len ≤ m := by rw [hmm]; split <;> omega
   have each : ∀ i : Nat, ∃ x : List UInt8, i < len → ∀ j, j < 4 → w.cell? ((a.add (i * 4)).add j) = (u4 x)[j]? := fun i => by
     by_cases h1 : i < len
     · obtain ⟨cs', hc, htr⟩ := hi i (by omega)
       rw [ct] at hc
       obtain ⟨_, hcl, hat⟩ := World.cells?_some hc
       obtain ⟨y, rfl⟩ := open_u4c ht he ce (by simpa using hcl) htr
       exact ⟨y, fun _ j hj => hat j hj⟩
     · exact ⟨[], fun h => absurd h h1⟩
   obtain ⟨F, hF⟩ := Classical.axiomOfChoice each
   have hlen : ((List.range len).map F).length = len := by simp
   have get : ∀ i, i < len → ((List.range len).map F).getD i [] = F i := fun i h => by simp [h]
   refine ⟨some a, cap, (List.range len).map F, by rw [hlen]; exact ee, by rw [hlen]; omega, fun j u hu => ⟨a, rfl, ?_⟩⟩
   have hj : j < len * 4 := by
     have := (List.getElem?_eq_some_iff.1 hu).1
     rwa [frV_len, hlen] at this
   have hd : j / 4 < len := by omega
   have hu2 := hu
   have hq4 : (frV ((List.range len).map F))[j / 4 * 4 + j % 4]? = (u4 (F (j / 4)))[j % 4]? := by
     rw [frV_get _ (by rw [hlen]; exact hd) (by omega), get _ hd, u4_get _ (by omega)]
   rw [show j = j / 4 * 4 + j % 4 from by omega, hq4] at hu2
   rw [← hu2, ← hF _ hd (j % 4) (by omega), addadd]
   congr 2
   omega
end
end Go.Sl
end
