/-
  Made words, labels and links, in the reference.
-/
import Derived.Test.YtbkmahjhhncfcaaGreatQWLaP
import Derived.Test.YtbkmahjhhncfcaaGreatQSlO
import Derived.Test.YtbkmahjhhncfcaaGreatQSlS
import Derived.Test.YtbkmahjhhncfcaaGreatQLah
import Derived.Test.YtbkmahjhhncfcaaGreatQWLaN
section
namespace Go.Proofs.YtbkmahjhhncfcaaGreat
open Go.Sl

set_option maxHeartbeats 1000000 in
theorem made2_c (r : List UInt8) (hr : r.length = 4) :
   Ctr X 31 [.agg (List.toArray (U8 r))] [] [] (fun v R' H' => v = .int .u32 ((madeW r : Nat) : Int) ∧ R' = [] ∧ H' = []) := by
 have h0 := UInt8.toNat_lt (r.getD 0 0)
 have h1 := UInt8.toNat_lt (r.getD 1 0)
 have h2 := UInt8.toNat_lt (r.getD 2 0)
 have h3 := UInt8.toNat_lt (r.getD 3 0)
 have hmd := md_lt r
 have hO : mdO r = (r.getD 0 0).toNat % 10 := rfl
 refine Ctr.of (X := X) (fn := Tryz.f31) Tryz.func31 rfl (by kernel_rfl) rfl ?_
 intro β
 refine C.seq (C.region ?_)
 refine L.boxA rfl rfl (fun A1 => ?_)
 refine Lpu rfl rfl ?_; refine L.nil (QE.seq (C.seq ?_)); refine C.freeze 0 rfl [] (by decide) (by decide) ?_; refine C.regionQ (by kernel_rfl) ?_; refine LQ.step (Ev.idxArr (k := 0) (m := 0) rfl rfl rfl rfl rfl rfl (by decide) (Src.r 0 rfl) (by rw [U8_len]; omega) rfl) rfl ?_; refine LQ.step (Ev.load rfl rfl rfl (Src.r 0 rfl) (U8_get (by omega))) rfl ?_; refine LQ.step (Ev.cast (u := .int .u8 ((((r.getD 0 0).toNat % 10 : Nat)) : Int)) (Ev.rem rfl rfl (by omega) (by decide)) (congrArg (Value.int .u8) (by omega))) rfl ?_; refine LQ.step (Ev.toU32 (q := mdO r) rfl rfl rfl rfl (by omega)) rfl ?_; refine LQ.step (Ev.idxArr (k := 1) (m := 1) rfl rfl rfl rfl rfl rfl (by decide) (Src.r 0 rfl) (by rw [U8_len]; omega) rfl) rfl ?_; refine LQ.step (Ev.load rfl rfl rfl (Src.r 0 rfl) (U8_get (by omega))) rfl ?_; refine LQ.step (Ev.toU32 (q := (r.getD 1 0).toNat) rfl rfl rfl rfl (by omega)) rfl ?_; refine LQ.step (Ev.pure rfl) rfl ?_; refine LQ.step (Ev.pure rfl) rfl ?_; refine LQ.nil ?_; refine QE.seq ?_; refine C.seqJ (fun u : Unit => [(1, ptrOf A1 0), (3, .int .u32 ((mdO r : Nat) : Int)), (4, .int .u32 ((mdA r : Nat) : Int))]) (fun u : Unit => [Rd A1 (U8 r)]) (fun u : Unit => []) (fun u : Unit => True) ?_ ?_
 ·
  refine C.seq (C.region ?_); refine L.step (Ev.idxArr (k := 0) (m := 0) rfl rfl rfl rfl rfl rfl (by decide) (Src.r 0 rfl) (by rw [U8_len]; omega) rfl) rfl ?_; refine L.step (Ev.load rfl rfl rfl (Src.r 0 rfl) (U8_get (by omega))) rfl ?_; refine Lpu rfl rfl ?_; refine L.nil (QE.seq ?_)
  refine C.condB 16 rfl (fun hc16 => ?_) (fun hc16 => ?_)
  ·
   replace hc16 := of_decide_eq_true hc16
   refine C.region ?_; refine Lpu rfl rfl ?_; refine L.step (Ev.cast (u := .int .u32 (((r.getD 1 0).toNat % 16 : Nat) : Int)) (Ev.rem rfl rfl (by omega) (by decide)) (congrArg (Value.int .u32) (by omega))) rfl ?_; refine Lpu rfl rfl ?_; refine L.nil ?_
   refine QE.join (()) (by exact trivial) (by exact Le.mk' (rs := [0]) (hs := []) ⟨rfl, rfl, (by rw [show mdA r = (r.getD 1 0).toNat % 16 from if_pos (by omega)]; rfl), trivial⟩ ⟨rfl, trivial⟩ trivial (by decide))
  ·
   replace hc16 := of_decide_eq_false hc16
   refine C.skip ?_
   refine QE.join (()) (by exact trivial) (by exact Le.mk' (rs := [0]) (hs := []) ⟨rfl, rfl, (by rw [show mdA r = (r.getD 1 0).toNat from if_neg (by omega)]; rfl), trivial⟩ ⟨rfl, trivial⟩ trivial (by decide))
 ·
  intro _ _
  refine C.seq ?_; refine C.regionQ (by kernel_rfl) ?_; refine LQ.step (Ev.idxArr (k := 2) (m := 2) rfl rfl rfl rfl rfl rfl (by decide) (Src.r 0 rfl) (by rw [U8_len]; omega) rfl) rfl ?_; refine LQ.step (Ev.load rfl rfl rfl (Src.r 0 rfl) (U8_get (by omega))) rfl ?_; refine LQ.step (Ev.toU32 (q := (r.getD 2 0).toNat) rfl rfl rfl rfl (by omega)) rfl ?_; refine LQ.step (Ev.idxArr (k := 3) (m := 3) rfl rfl rfl rfl rfl rfl (by decide) (Src.r 0 rfl) (by rw [U8_len]; omega) rfl) rfl ?_; refine LQ.step (Ev.load rfl rfl rfl (Src.r 0 rfl) (U8_get (by omega))) rfl ?_; refine LQ.step (Ev.toU32 (q := (r.getD 3 0).toNat) rfl rfl rfl rfl (by omega)) rfl ?_; refine LQ.step (Ev.pure rfl) rfl ?_; refine LQ.step (Ev.pure rfl) rfl ?_; refine LQ.nil ?_; refine QE.seq ?_; refine C.seqJ (fun u : Unit => [(3, .int .u32 ((mdO r : Nat) : Int)), (4, .int .u32 ((mdA r : Nat) : Int)), (5, .int .u32 ((mdLB r : Nat) : Int)), (6, .int .u32 ((mdLC r : Nat) : Int))]) (fun u : Unit => []) (fun u : Unit => []) (fun u : Unit => True) ?_ ?_
  ·
   refine C.seq (C.region ?_); refine Lpu rfl rfl ?_; refine Lpu rfl rfl ?_; refine Lpu rfl rfl ?_
   refine L.bool 27 rfl (fun hg27 => ?_) (fun hg27 => ?_)
   ·
    replace hg27 := i_eq hg27
    refine L.no rfl rfl rfl ?_; refine L.no rfl rfl rfl ?_; refine Lpu rfl rfl ?_; refine Lpu rfl rfl ?_; refine L.no rfl rfl rfl ?_; refine L.no rfl rfl rfl ?_; refine Lpu rfl rfl ?_; refine L.nil (QE.seq ?_)
    refine C.cond rfl (fun _ => ?_) (fun h => by cases h)
    refine C.region ?_; refine Lpu rfl rfl ?_; refine L.step (Ev.cast (u := .int .u32 (((r.getD 2 0).toNat % 17 : Nat) : Int)) (Ev.rem rfl rfl (by omega) (by decide)) (congrArg (Value.int .u32) (by omega))) rfl ?_; refine Lpu rfl rfl ?_; refine L.step (Ev.cast (u := .int .u32 (((r.getD 3 0).toNat % 17 : Nat) : Int)) (Ev.rem rfl rfl (by omega) (by decide)) (congrArg (Value.int .u32) (by omega))) rfl ?_; refine Lpu rfl rfl ?_; refine Lpu rfl rfl ?_; refine L.nil ?_
    have h3t : md3 (mdO r) := by unfold md3; omega
    refine QE.join (()) (by exact trivial) (by exact Le.mk' (rs := []) (hs := []) ⟨rfl, rfl, (by rw [show mdLB r = (r.getD 2 0).toNat % 17 from if_pos h3t]; rfl), (by rw [show mdLC r = (r.getD 3 0).toNat % 17 from if_pos h3t]; rfl), trivial⟩ trivial trivial (by decide))
   ·
    replace hg27 := i_ne hg27
    refine L.yes rfl ?_; refine Lpu rfl rfl ?_; refine L.yes rfl ?_; refine Lpu rfl rfl ?_; refine Lpu rfl rfl ?_; refine Lpu rfl rfl ?_
    refine L.bool 31 rfl (fun hg31 => ?_) (fun hg31 => ?_)
    ·
     replace hg31 := i_eq hg31
     refine L.no rfl rfl rfl ?_; refine L.no rfl rfl rfl ?_; refine Lpu rfl rfl ?_; refine L.nil (QE.seq ?_)
     refine C.cond rfl (fun _ => ?_) (fun h => by cases h)
     refine C.region ?_; refine Lpu rfl rfl ?_; refine L.step (Ev.cast (u := .int .u32 (((r.getD 2 0).toNat % 17 : Nat) : Int)) (Ev.rem rfl rfl (by omega) (by decide)) (congrArg (Value.int .u32) (by omega))) rfl ?_; refine Lpu rfl rfl ?_; refine L.step (Ev.cast (u := .int .u32 (((r.getD 3 0).toNat % 17 : Nat) : Int)) (Ev.rem rfl rfl (by omega) (by decide)) (congrArg (Value.int .u32) (by omega))) rfl ?_; refine Lpu rfl rfl ?_; refine Lpu rfl rfl ?_; refine L.nil ?_
     have h3t : md3 (mdO r) := by unfold md3; omega
     refine QE.join (()) (by exact trivial) (by exact Le.mk' (rs := []) (hs := []) ⟨rfl, rfl, (by rw [show mdLB r = (r.getD 2 0).toNat % 17 from if_pos h3t]; rfl), (by rw [show mdLC r = (r.getD 3 0).toNat % 17 from if_pos h3t]; rfl), trivial⟩ trivial trivial (by decide))
    ·
     replace hg31 := i_ne hg31
     refine L.yes rfl ?_; refine Lpu rfl rfl ?_; refine L.yes rfl ?_; refine Lpu rfl rfl ?_; refine Lpu rfl rfl ?_; refine L.nil (QE.seq ?_)
     refine C.condB 34 rfl (fun hc34 => ?_) (fun hc34 => ?_)
     ·
      replace hc34 := i_eq hc34
      refine C.region ?_; refine Lpu rfl rfl ?_; refine L.step (Ev.cast (u := .int .u32 (((r.getD 2 0).toNat % 17 : Nat) : Int)) (Ev.rem rfl rfl (by omega) (by decide)) (congrArg (Value.int .u32) (by omega))) rfl ?_; refine Lpu rfl rfl ?_; refine L.step (Ev.cast (u := .int .u32 (((r.getD 3 0).toNat % 17 : Nat) : Int)) (Ev.rem rfl rfl (by omega) (by decide)) (congrArg (Value.int .u32) (by omega))) rfl ?_; refine Lpu rfl rfl ?_; refine Lpu rfl rfl ?_; refine L.nil ?_
      have h3t : md3 (mdO r) := by unfold md3; omega
      refine QE.join (()) (by exact trivial) (by exact Le.mk' (rs := []) (hs := []) ⟨rfl, rfl, (by rw [show mdLB r = (r.getD 2 0).toNat % 17 from if_pos h3t]; rfl), (by rw [show mdLC r = (r.getD 3 0).toNat % 17 from if_pos h3t]; rfl), trivial⟩ trivial trivial (by decide))
     ·
      replace hc34 := i_ne hc34
      refine C.skip ?_
      have h3f : ¬ md3 (mdO r) := by unfold md3; omega
      refine QE.join (()) (by exact trivial) (by exact Le.mk' (rs := []) (hs := []) ⟨rfl, rfl, (by rw [show mdLB r = (r.getD 2 0).toNat from if_neg h3f]; rfl), (by rw [show mdLC r = (r.getD 3 0).toNat from if_neg h3f]; rfl), trivial⟩ trivial trivial (by decide))
  ·
   intro _ _
   refine C.seq (C.region ?_); refine Lpu rfl rfl ?_; refine L.step (Ev.shl32 (k := 24) (q := mdO r * 16777216) rfl rfl rfl (by decide) rfl (by omega)) rfl ?_; refine Lpu rfl rfl ?_; refine L.step (Ev.shl32 (k := 16) (q := mdA r * 65536) rfl rfl rfl (by decide) rfl (by omega)) rfl ?_; refine L.step (Ev.beside32 24 (p := 16777216) rfl (c := mdO r) (q := mdO r * 16777216 + mdA r * 65536) rfl rfl rfl (by omega) (by omega) (by omega) rfl) rfl ?_; refine Lpu rfl rfl ?_; refine L.step (Ev.shl32 (k := 8) (q := mdLB r * 256) rfl rfl rfl (by decide) rfl (by omega)) rfl ?_; refine L.step (Ev.beside32 16 (p := 65536) rfl (c := mdO r * 256 + mdA r) (q := mdO r * 16777216 + mdA r * 65536 + mdLB r * 256) rfl rfl (by omega) (by omega) (by omega) (by omega) rfl) rfl ?_; refine Lpu rfl rfl ?_; refine L.step (Ev.beside32 8 (p := 256) rfl (c := mdO r * 65536 + mdA r * 256 + mdLB r) (q := madeW r) rfl rfl (by omega) (by omega) (by omega) (by omega) rfl) rfl ?_; refine Lpu rfl rfl ?_; refine L.nil (QE.seq (C.ret ?_)); refine QE.ret (js := []) (hs := []) (vs := [_]) rfl ⟨rfl, trivial⟩ (by decide) ?_
   exact ⟨rfl, rfl, rfl⟩

end Go.Proofs.YtbkmahjhhncfcaaGreat
end
/-
  The small separation logic: a constant row of bytes, turned to its own type.
-/
section
namespace Go.Sl

section
variable {X : Cx} {β : Base} {n : Nat} {ds : List Deferred} {ops : Array Oper} {Q : Exit → Act → World → Prop} {rest : List Oper} {Γ : Env} {R H : List Pr}

/-- []byte("..") of a constant: the row is marked behind its end, and only read from then on. -/
theorem L.konst {d s e m c ty j : Nat} {pos : String} {af : Array Edge} {x : Operand} {i ei : Ti} {A : Option Addr} {xs : List Value} (hs : tlook s X.tab = some i) (hdesc : i.desc = .slice e) (he : tlook e X.tab = some ei) (hed : ei.desc = .int .u8)
   (hx : ev Γ x = some (.slice A m c)) (hj : H[j]? = some (Own e 1 A m c xs)) (h0 : Nat.blt 0 xs.length = true) (js : List Nat) (hn : js.Nodup) (hjj : js.contains j = false) (hd : Nat.blt d n = true)
   (k : L X β n ds ops Q rest ((d, .slice A m c) :: Γ) (Rd A xs :: R) (sel H js)) : L X β n ds ops Q (⟨some d, .convert s s x, ty, pos, af, none⟩ :: rest) Γ R H := by
 have hlen : js.Nodup := hn
 have hnj : j ∉ js := by simpa using hjj
 intro a w hf hsat
 refine wpList_plain rfl fun K hK => ?_
 obtain ⟨e1, _⟩ := X.ok _ _ hs
 obtain ⟨e2, _⟩ := X.ok _ _ he
 rw [hdesc] at e1
 rw [hed] at e2
 obtain ⟨g, cur, rfl, hh, _, _, hsz, htk⟩ := Own.form (hsat.own j _ hj) (by simpa [Nat.blt_eq] using h0)
 have hsh : w.shape? g = some (e, cur.size) := by unfold World.shape?; rw [hh]
 have hlt : g < w.heap.size := (Array.getElem?_eq_some_iff.1 hh).1
 have hrun : (execOp a.eval ⟨some d, .convert s s x, ty, pos, af, none⟩).run X.P w = .ok (.value (.slice (some ⟨g, 0, none⟩) m c)) (w.freeze ⟨g, cur.size, none⟩ 1) := by
   simp [execOp, hf.eval hx, convert, run_underlying e1, run_underlying e2, markStringish, hsh]
 have hheap : (w.freeze ⟨g, cur.size, none⟩ 1).heap = w.heap.modify g fun
     | .cells c elem (lo, hi) => .cells c elem (if lo == hi then (cur.size, cur.size + 1) else (min lo cur.size, max hi (cur.size + 1)))
     | o => o := by
   unfold World.freeze
   rw [if_neg (by decide)]
   rfl
 have hat : (w.freeze ⟨g, cur.size, none⟩ 1).heap[g]? = some (.cells cur e (cur.size, cur.size + 1)) := by
   rw [hheap, Array.getElem?_modify, if_pos rfl, hh]
   rfl
 unfold Oper.wp
 rw [hrun]
 refine hK _ _ ((L.freezeAny (β := β) (R := R) (Q := Q) (rest := rest) (ops := ops) (Γ := (d, .slice (some ⟨g, 0, none⟩) m c) :: Γ) (H := H.set j (Rd (some ⟨g, 0, none⟩) xs)) j (c := Rd (some ⟨g, 0, none⟩) xs) ?_ js hn hjj ?_) _ _ (hf.put (by simpa [Nat.blt_eq] using hd) _) ?_)
 · exact List.getElem?_set_self (List.getElem?_eq_some_iff.1 hj).1
 · have hse : sel (H.set j (Rd (some ⟨g, 0, none⟩) xs)) js = sel H js := by
     clear hn hjj hlen k
     induction js with
     | nil => rfl
     | cons q qs ih =>
       have hq : q ≠ j := fun e => hnj (by subst e; simp)
       simp only [sel]
       rw [ih (fun h => hnj (List.mem_cons_of_mem _ h)), List.getElem?_set_ne (Ne.symm hq)]
   rw [hse]
   exact k
 · have hfz : (w.freeze ⟨g, cur.size, none⟩ 1).os = w.os ∧ (w.freeze ⟨g, cur.size, none⟩ 1).tape = w.tape ∧ (w.freeze ⟨g, cur.size, none⟩ 1).output = w.output := by
     unfold World.freeze
     rw [if_neg (by decide)]
     exact ⟨rfl, rfl, rfl⟩
   refine hsat.upd (w' := w.freeze ⟨g, cur.size, none⟩ 1) hj (m := (· = g)) ⟨hfz.1, hfz.2.1, hfz.2.2, ?_, fun b hb hne => ?_⟩ (fun b hb _ => ⟨_, rfl, hb.symm⟩) _ ?_ (fun b hb => ?_)
   · rw [hheap, Array.size_modify]
     exact Nat.le_refl _
   · rw [hheap, Array.getElem?_modify, if_neg (Ne.symm hne)]
   · intro q u hu
     have hql := (List.getElem?_eq_some_iff.1 hu).1
     refine ⟨_, rfl, ?_⟩
     rw [adz, cell_of_row _ g q cur e _ hat]
     rw [← htk, List.getElem?_take] at hu
     split at hu
     · simpa using hu
     · cases hu
   · obtain ⟨_, a', ha, hk⟩ := hb
     injection ha with ha
     subst ha
     refine ⟨?_, .inr ⟨_, rfl, hk⟩⟩
     rw [hheap, Array.size_modify, ← hk]
     exact hlt
end
end Go.Sl
end
/-
  Moved code of the reference, and code that is made of descriptions, as plain lists.
-/
section
namespace Go.Sl

/-! ### Rows of four bytes -/
def r4 (r : List UInt8) : List UInt8 := [r.getD 0 0, r.getD 1 0, r.getD 2 0, r.getD 3 0]
def u4 (r : List UInt8) : List Value := U8 (r4 r)
theorem u4_len (r : List UInt8) : (u4 r).length = 4 := rfl
theorem u4_get (r : List UInt8) {q : Nat} (h : q < 4) : (u4 r)[q]? = some (.int .u8 ((r.getD q 0).toNat : Int)) := by
 match q, h with
 | 0, _ => rfl
 | 1, _ => rfl
 | 2, _ => rfl
 | 3, _ => rfl
def frV (l : List (List UInt8)) : List Value := l.flatMap u4
theorem frV_len (l : List (List UInt8)) : (frV l).length = l.length * 4 := by
 induction l with
 | nil => rfl
 | cons x l ih =>
   unfold frV at ih ⊢
   rw [List.flatMap_cons, List.length_append, ih, u4_len, List.length_cons]
   omega
theorem frV_at (l : List (List UInt8)) (k : Nat) (hk : k < l.length) : ((frV l).drop (k * 4)).take 4 = u4 (l.getD k []) := by
 induction l generalizing k with
 | nil => cases hk
 | cons x l ih =>
   have e : frV (x :: l) = u4 x ++ frV l := rfl
   rw [e]
   cases k with
   | zero =>
     rw [Nat.zero_mul, List.drop_zero, List.take_append_of_le_length (by rw [u4_len]; decide), List.take_of_length_le (by rw [u4_len]; decide)]
     rfl
   | succ k =>
     have hd : (u4 x ++ frV l).drop ((k + 1) * 4) = (frV l).drop (k * 4) := by
       rw [show (k + 1) * 4 = (u4 x).length + k * 4 by rw [u4_len]; omega, ← List.drop_drop, List.drop_left]
     rw [hd, ih k (by simpa using hk)]
     rfl
theorem frV_get (l : List (List UInt8)) {k q : Nat} (hk : k < l.length) (hq : q < 4) : (frV l)[k * 4 + q]? = some (.int .u8 (((l.getD k []).getD q 0).toNat : Int)) := by
 have h : (frV l)[k * 4 + q]? = (u4 (l.getD k []))[q]? := by rw [← frV_at l k hk, List.getElem?_take, if_pos hq, List.getElem?_drop]
 rw [h, u4_get _ hq]

/-! ### Code of descriptions -/
def cdO (r : List UInt8) : Nat := (r.getD 0 0).toNat % 16
def cdA (r : List UInt8) : Nat := if 7 ≤ cdO r then (r.getD 1 0).toNat % 16 else 0
def cdN (r : List UInt8) (z : Nat) : Int := 4 * ((((r.getD 2 0).toNat % (z + 2) : Nat) : Int) - 1)
def codW (z i : Nat) (r : List UInt8) : Nat :=
 if 5 ≤ cdO r ∧ cdO r ≤ 8 ∧ (encR (insT (cdO r) (cdA r) (cdN r z)) (4 * (i : Int))).2 = 0 then (encR (insT (cdO r) (cdA r) (cdN r z)) (4 * (i : Int))).1 else madeW r
def codN (l : List (List UInt8)) (z k : Nat) : List Nat := (List.range k).map fun i => codW z i (l.getD i [])
def codZ (l : List (List UInt8)) (n : Nat) : Nat := min l.length n
def codL (l : List (List UInt8)) (n : Nat) : List Nat := codN l (codZ l n) (codZ l n)
def codB (l : List (List UInt8)) (n : Nat) : List UInt8 := bytesF (codL l n)
theorem codN_succ (l : List (List UInt8)) (z k : Nat) : codN l z (k + 1) = codN l z k ++ [codW z k (l.getD k [])] := by simp [codN, List.range_succ]
theorem codN_len (l : List (List UInt8)) (z k : Nat) : (codN l z k).length = k := by simp [codN]
theorem codW_lt (z i : Nat) (r : List UInt8) : codW z i r < 4294967296 := by
 unfold codW
 split
 · exact encR_lt
 · exact madeW_lt r
theorem codL_w32 (l : List (List UInt8)) (n : Nat) : W32 (codL l n) := W32.of fun x hx => by
 obtain ⟨i, _, rfl⟩ := List.mem_map.1 hx
 exact codW_lt _ _ _
theorem codL_len (l : List (List UInt8)) (n : Nat) : (codL l n).length ≤ n := by
 unfold codL
 rw [codN_len]
 exact Nat.min_le_right _ _
end Go.Sl
end
