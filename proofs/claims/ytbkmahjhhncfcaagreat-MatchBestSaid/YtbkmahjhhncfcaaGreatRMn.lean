/-
  The small separation logic: a constant row of bytes, turned to its own type.
-/
import Derived.Test.YtbkmahjhhncfcaaGreatRSlO
import Derived.Test.YtbkmahjhhncfcaaGreatRSlS
import Derived.Test.YtbkmahjhhncfcaaGreatRLah
import Derived.Test.YtbkmahjhhncfcaaGreatRWLaS
import Derived.Test.YtbkmahjhhncfcaaGreatRWLaK
import Derived.Test.YtbkmahjhhncfcaaGreatRWLaL
import Derived.Test.YtbkmahjhhncfcaaGreatROg
section
namespace Go.Sl

section
variable {X : Cx} {β : Base} {n : Nat} {ds : List Deferred} {ops : Array Oper} {Q : Exit → Act → World → Prop} {rest : List Oper} {Γ : Env} {R H : List Pr}

/-- []byte("..") of a constant: the row is marked behind its end, and only read from then on. -/
theorem L.konst {d s e m c ty j : Nat} {pos : String} {af : Array Edge} {x : Operand} {i ei : Ti} {A : Option Addr} {xs : List Value} (hs : tlook s X.tab = some i) (hdesc : i.desc = .slice e) (he : tlook e X.tab = some ei) (hed : ei.desc = .int .u8)
   (hx : ev Γ x = some (.slice A m c)) (hj : H[j]? = some (Own e 1 A m c xs)) (h0 : Nat.blt 0 xs.length = true) (js : List Nat) (hn : js.Nodup) (hjj : js.contains j = false) (hd : Nat.blt d n = true)
   (k : L X β n ds ops Q rest ((d, .slice A m c) :: Γ) (Rd A xs :: R) (sel H js)) : L X β n ds ops Q (⟨some d, .convert s s x, ty, pos, af, none⟩ :: rest) Γ R H := by
 have hlen : js.Nodup := hn
 have hnj : j ∉ js := by simpa using hjj
 intro a w hf hsat
 refine wpList_plain rfl fun K hK => ?_
 obtain ⟨e1, _⟩ := X.ok _ _ hs
 obtain ⟨e2, _⟩ := X.ok _ _ he
 rw [hdesc] at e1
 rw [hed] at e2
 obtain ⟨g, cur, rfl, hh, _, _, hsz, htk⟩ := Own.form (hsat.own j _ hj) (by simpa [Nat.blt_eq] using h0)
 have hsh : w.shape? g = some (e, cur.size) := by unfold World.shape?; rw [hh]
 have hlt : g < w.heap.size := (Array.getElem?_eq_some_iff.1 hh).1
 have hrun : (execOp a.eval ⟨some d, .convert s s x, ty, pos, af, none⟩).run X.P w = .ok (.value (.slice (some ⟨g, 0, none⟩) m c)) (w.freeze ⟨g, cur.size, none⟩ 1) := by
   simp [execOp, hf.eval hx, convert, run_underlying e1, run_underlying e2, markStringish, hsh]
 have hheap : (w.freeze ⟨g, cur.size, none⟩ 1).heap = w.heap.modify g fun
     | .cells c elem (lo, hi) => .cells c elem (if lo == hi then (cur.size, cur.size + 1) else (min lo cur.size, max hi (cur.size + 1)))
     | o => o := by
   unfold World.freeze
   rw [if_neg (by decide)]
   rfl
 have hat : (w.freeze ⟨g, cur.size, none⟩ 1).heap[g]? = some (.cells cur e (cur.size, cur.size + 1)) := by
   rw [hheap, Array.getElem?_modify, if_pos rfl, hh]
   rfl
 unfold Oper.wp
 rw [hrun]
 refine hK _ _ ((L.freezeAny (β := β) (R := R) (Q := Q) (rest := rest) (ops := ops) (Γ := (d, .slice (some ⟨g, 0, none⟩) m c) :: Γ) (H := H.set j (Rd (some ⟨g, 0, none⟩) xs)) j (c := Rd (some ⟨g, 0, none⟩) xs) ?_ js hn hjj ?_) _ _ (hf.put (by simpa [Nat.blt_eq] using hd) _) ?_)
 · exact List.getElem?_set_self (List.getElem?_eq_some_iff.1 hj).1
 · have hse : sel (H.set j (Rd (some ⟨g, 0, none⟩) xs)) js = sel H js := by
     clear hn hjj hlen k
     induction js with
     | nil => rfl
     | cons q qs ih =>
       have hq : q ≠ j := fun e => hnj (by subst e; simp)
       simp only [sel]
       rw [ih (fun h => hnj (List.mem_cons_of_mem _ h)), List.getElem?_set_ne (Ne.symm hq)]
   rw [hse]
   exact k
 · have hfz : (w.freeze ⟨g, cur.size, none⟩ 1).os = w.os ∧ (w.freeze ⟨g, cur.size, none⟩ 1).tape = w.tape ∧ (w.freeze ⟨g, cur.size, none⟩ 1).output = w.output := by
     unfold World.freeze
     rw [if_neg (by decide)]
     exact ⟨rfl, rfl, rfl⟩
   refine hsat.upd (w' := w.freeze ⟨g, cur.size, none⟩ 1) hj (m := (· = g)) ⟨hfz.1, hfz.2.1, hfz.2.2, ?_, fun b hb hne => ?_⟩ (fun b hb _ => ⟨_, rfl, hb.symm⟩) _ ?_ (fun b hb => ?_)
   · rw [hheap, Array.size_modify]
     exact Nat.le_refl _
   · rw [hheap, Array.getElem?_modify, if_neg (Ne.symm hne)]
   · intro q u hu
     have hql := (List.getElem?_eq_some_iff.1 hu).1
     refine ⟨_, rfl, ?_⟩
     rw [adz, cell_of_row _ g q cur e _ hat]
     rw [← htk, List.getElem?_take] at hu
     split at hu
     · simpa using hu
     · cases hu
   · obtain ⟨_, a', ha, hk⟩ := hb
     injection ha with ha
     subst ha
     refine ⟨?_, .inr ⟨_, rfl, hk⟩⟩
     rw [hheap, Array.size_modify, ← hk]
     exact hlt
end
end Go.Sl
end
/-
  Moved code of the reference, and code that is made of descriptions, as plain lists.
-/
section
namespace Go.Sl

def mvW (ws : List Nat) (a i : Nat) : List Nat := ws.take a ++ List.replicate i 0
def mvM (ms : List Bool) (a i : Nat) : List Bool := ms.take a ++ List.replicate i false
def mvT (ls : List Int) (a b i : Nat) : List Int := (ls.take i).map (mvN a b)
theorem mvW_succ (ws : List Nat) (a i : Nat) : mvW ws a (i + 1) = mvW ws a i ++ [0] := by
 unfold mvW
 rw [List.replicate_succ', List.append_assoc]
theorem mvM_succ (ms : List Bool) (a i : Nat) : mvM ms a (i + 1) = mvM ms a i ++ [false] := by
 unfold mvM
 rw [List.replicate_succ', List.append_assoc]
theorem mvT_succ (ls : List Int) (a b : Nat) {i : Nat} (h : i < ls.length) : mvT ls a b (i + 1) = mvT ls a b i ++ [mvN a b (ls.getD i 0)] := by
 unfold mvT
 rw [take_snoc' ls 0 i h, List.map_append]
 rfl
theorem mvW_len {ws : List Nat} {a : Nat} (h : a ≤ ws.length) (i : Nat) : (mvW ws a i).length = a + i := by
 unfold mvW
 rw [List.length_append, List.length_take, List.length_replicate]
 omega
theorem mvM_len {ms : List Bool} {a : Nat} (h : a ≤ ms.length) (i : Nat) : (mvM ms a i).length = a + i := by
 unfold mvM
 rw [List.length_append, List.length_take, List.length_replicate]
 omega
theorem mvT_len {ls : List Int} {i : Nat} (h : i ≤ ls.length) (a b : Nat) : (mvT ls a b i).length = i := by
 unfold mvT
 rw [List.length_map, List.length_take]
 omega
theorem mvW_zero (ws : List Nat) (a : Nat) : mvW ws a 0 = ws.take a := by simp [mvW]
theorem mvM_zero (ms : List Bool) (a : Nat) : mvM ms a 0 = ms.take a := by simp [mvM]
theorem mvT_all (ls : List Int) (a b : Nat) : mvT ls a b ls.length = ls.map (mvN a b) := by simp [mvT]

/-! ### Rows of four bytes -/
def r4 (r : List UInt8) : List UInt8 := [r.getD 0 0, r.getD 1 0, r.getD 2 0, r.getD 3 0]
def u4 (r : List UInt8) : List Value := U8 (r4 r)
theorem u4_len (r : List UInt8) : (u4 r).length = 4 := rfl
theorem u4_get (r : List UInt8) {q : Nat} (h : q < 4) : (u4 r)[q]? = some (.int .u8 ((r.getD q 0).toNat : Int)) := by
 match q, h with
 | 0, _ => rfl
 | 1, _ => rfl
 | 2, _ => rfl
 | 3, _ => rfl
def frV (l : List (List UInt8)) : List Value := l.flatMap u4
theorem frV_len (l : List (List UInt8)) : (frV l).length = l.length * 4 := by
 induction l with
 | nil => rfl
 | cons x l ih =>
   unfold frV at ih ⊢
   rw [List.flatMap_cons, List.length_append, ih, u4_len, List.length_cons]
   omega
theorem frV_at (l : List (List UInt8)) (k : Nat) (hk : k < l.length) : ((frV l).drop (k * 4)).take 4 = u4 (l.getD k []) := by
 induction l generalizing k with
 | nil => cases hk
 | cons x l ih =>
   have e : frV (x :: l) = u4 x ++ frV l := rfl
   rw [e]
   cases k with
   | zero =>
     rw [Nat.zero_mul, List.drop_zero, List.take_append_of_le_length (by rw [u4_len]; decide), List.take_of_length_le (by rw [u4_len]; decide)]
     rfl
   | succ k =>
     have hd : (u4 x ++ frV l).drop ((k + 1) * 4) = (frV l).drop (k * 4) := by
       rw [show (k + 1) * 4 = (u4 x).length + k * 4 by rw [u4_len]; omega, ← List.drop_drop, List.drop_left]
     rw [hd, ih k (by simpa using hk)]
     rfl
theorem frV_get (l : List (List UInt8)) {k q : Nat} (hk : k < l.length) (hq : q < 4) : (frV l)[k * 4 + q]? = some (.int .u8 (((l.getD k []).getD q 0).toNat : Int)) := by
 have h : (frV l)[k * 4 + q]? = (u4 (l.getD k []))[q]? := by rw [← frV_at l k hk, List.getElem?_take, if_pos hq, List.getElem?_drop]
 rw [h, u4_get _ hq]

/-! ### Code of descriptions -/
def cdO (r : List UInt8) : Nat := (r.getD 0 0).toNat % 16
def cdA (r : List UInt8) : Nat := if 7 ≤ cdO r then (r.getD 1 0).toNat % 16 else 0
def cdN (r : List UInt8) (z : Nat) : Int := 4 * ((((r.getD 2 0).toNat % (z + 2) : Nat) : Int) - 1)
def codW (z i : Nat) (r : List UInt8) : Nat :=
 if 5 ≤ cdO r ∧ cdO r ≤ 8 ∧ (encR (insT (cdO r) (cdA r) (cdN r z)) (4 * (i : Int))).2 = 0 then (encR (insT (cdO r) (cdA r) (cdN r z)) (4 * (i : Int))).1 else madeW r
def codN (l : List (List UInt8)) (z k : Nat) : List Nat := (List.range k).map fun i => codW z i (l.getD i [])
def codZ (l : List (List UInt8)) (n : Nat) : Nat := min l.length n
def codL (l : List (List UInt8)) (n : Nat) : List Nat := codN l (codZ l n) (codZ l n)
def codB (l : List (List UInt8)) (n : Nat) : List UInt8 := bytesF (codL l n)
theorem codN_succ (l : List (List UInt8)) (z k : Nat) : codN l z (k + 1) = codN l z k ++ [codW z k (l.getD k [])] := by simp [codN, List.range_succ]
theorem codN_len (l : List (List UInt8)) (z k : Nat) : (codN l z k).length = k := by simp [codN]
theorem codW_lt (z i : Nat) (r : List UInt8) : codW z i r < 4294967296 := by
 unfold codW
 split
 · exact encR_lt
 · exact madeW_lt r
theorem codL_w32 (l : List (List UInt8)) (n : Nat) : W32 (codL l n) := W32.of fun x hx => by
 obtain ⟨i, _, rfl⟩ := List.mem_map.1 hx
 exact codW_lt _ _ _
theorem codL_len (l : List (List UInt8)) (n : Nat) : (codL l n).length ≤ n := by
 unfold codL
 rw [codN_len]
 exact Nat.min_le_right _ _
end Go.Sl
end
/-
  The contract of the reference's Move.
-/
section
namespace Go.Proofs.YtbkmahjhhncfcaaGreat
open Go.Sl

theorem Bs_take2 (l : List Bool) (m : Nat) : (Bs l).take m = Bs (l.take m) := by simp [Bs, List.map_take]
theorem Bs_drop2 (l : List Bool) (m : Nat) : (Bs l).drop m = Bs (l.drop m) := by simp [Bs, List.map_drop]

set_option maxHeartbeats 4000000 in
theorem move3_c (WA MA LA : Option Addr) (wc mc lc : Nat) (x : Lf) (hxw : x.ws.length ≤ 1000000) (_hxm : x.ms.length ≤ 1000000) (hxl : x.ls.length ≤ 1000000) (_hx32 : W32 x.ws) (a b : Nat) (hml : x.ms.length = x.ws.length) (hwc : x.ws.length ≤ wc) (hmc : x.ms.length ≤ mc) (ha : a ≤ x.ws.length) (hb : b ≤ 100000) (hlr0 : ∀ i, i < x.ls.length → 0 ≤ x.ls.getD i 0 ∧ x.ls.getD i 0 ≤ 1000000) :
   Ctr X 54 [.agg (List.toArray [.slice WA x.ws.length wc, .slice MA x.ms.length mc, .slice LA x.ls.length lc]), .agg (List.toArray [.int .i64 (a : Int), .int .i64 (b : Int)])] [Rd WA (N32 x.ws), Rd MA (Bs x.ms), Rd LA (I64 x.ls)] [] (fun v R' H' => ∃ (WA MA LA : Option Addr) (wc mc lc : Nat), v = .agg (List.toArray [.slice WA (moveF x a b).ws.length wc, .slice MA (moveF x a b).ms.length mc, .slice LA (moveF x a b).ls.length lc]) ∧ R' = [] ∧ H' = [Own 73 1 WA (moveF x a b).ws.length wc (N32 (moveF x a b).ws), Own 4 1 MA (moveF x a b).ms.length mc (Bs (moveF x a b).ms), Own 3 1 LA (moveF x a b).ls.length lc (I64 (moveF x a b).ls)]) := by
 refine Ctr.of (X := X) (fn := Tryz.f54) Tryz.func54 rfl (by kernel_rfl) rfl ?_
 intro β
 refine C.seq (C.region ?_)
 refine L.boxA rfl rfl (fun A2 => ?_)
 refine L.boxA rfl rfl (fun A3 => ?_)
 refine L.alloc rfl rfl rfl (fun A4 => ?_)
 refine L.nil (QE.seq (C.seq ?_)); refine C.freeze 1 rfl [0, 2] (by decide) (by decide) ?_; refine C.norm (H' := [_, _]) [0, 1] ⟨rfl, rfl, trivial⟩ (by decide) ?_; refine C.freeze 0 rfl [1] (by decide) (by decide) ?_; refine C.norm (H' := [_]) [0] ⟨rfl, trivial⟩ (by decide) ?_; refine C.region ?_; refine L.step (Ev.build rfl rfl rfl rfl rfl rfl rfl) rfl ?_
 refine L.alloc rfl rfl rfl (fun A5 => ?_)
 refine L.storeA (j := 1) rfl rfl rfl rfl rfl (Nat.zero_lt_succ _) rfl rfl ?_; refine L.nil (QE.seq (C.seq ?_)); refine C.own0 73 1 ?_; refine C.own0 4 1 ?_; refine C.regionM [Rd A2 [.slice WA x.ws.length wc, .slice MA x.ms.length mc, .slice LA x.ls.length lc], Rd A3 [.int .i64 (a : Int), .int .i64 (b : Int)], Rd A5 [.slice none 0 0, .slice none 0 0, .slice none 0 0], Rd WA (N32 x.ws)] ⟨Has.r 0 rfl, Has.r 1 rfl, Has.o 1 rfl, Has.r 2 rfl, trivial⟩ ?_; refine LM.q 0 rfl (by kernel_rfl) (Ev.fieldAddr rfl rfl rfl rfl rfl rfl (Src.r 2 rfl) (Nat.zero_lt_succ _) rfl) rfl ⟨Has.r 0 rfl, Has.r 1 rfl, Has.o 1 rfl, Has.r 2 rfl, trivial⟩ ?_; refine LM.q 1 rfl (by kernel_rfl) (Ev.load rfl rfl rfl (Src.r 2 rfl) rfl) rfl ⟨Has.r 0 rfl, Has.r 1 rfl, Has.o 1 rfl, Has.r 2 rfl, trivial⟩ ?_; refine LM.q 2 rfl (by kernel_rfl) (Ev.fieldAddr rfl rfl rfl rfl rfl rfl (Src.r 0 rfl) (Nat.zero_lt_succ _) rfl) rfl ⟨Has.r 0 rfl, Has.r 1 rfl, Has.o 1 rfl, Has.r 2 rfl, trivial⟩ ?_; refine LM.q 3 rfl (by kernel_rfl) (Ev.load rfl rfl rfl (Src.r 0 rfl) rfl) rfl ⟨Has.r 0 rfl, Has.r 1 rfl, Has.o 1 rfl, Has.r 2 rfl, trivial⟩ ?_; refine LM.f 4 rfl (by kernel_rfl) ⟨Has.r 0 rfl, Has.r 1 rfl, Has.o 1 rfl, Has.r 2 rfl, trivial⟩ ?_; refine L.step (Ev.fieldAddr rfl rfl rfl rfl rfl rfl (Src.r 1 rfl) (Nat.zero_lt_succ _) rfl) rfl ?_
 refine L.nil (QE.m (by kernel_rfl) ?_)
 refine LM.f 5 rfl (by kernel_rfl) ⟨Has.r 0 rfl, Has.r 1 rfl, Has.o 1 rfl, Has.r 2 rfl, trivial⟩ ?_; refine L.step (Ev.load rfl rfl rfl (Src.r 1 rfl) rfl) rfl ?_
 refine L.nil (QE.m (by kernel_rfl) ?_)
 refine LM.f 6 rfl (by kernel_rfl) ⟨Has.r 0 rfl, Has.r 1 rfl, Has.o 1 rfl, Has.r 2 rfl, trivial⟩ ?_; refine L.step (Ev.sliceH (h := a) rfl rfl rfl rfl rfl rfl (by omega)) rfl ?_
 refine L.nil (QE.m (by kernel_rfl) ?_)
 refine LM.cut [] (by kernel_rfl) ⟨Has.r 0 rfl, Has.r 1 rfl, Has.o 1 rfl, Has.r 2 rfl, trivial⟩ ?_; refine LM.f 7 rfl (by kernel_rfl) trivial ?_
 refine L.append (j := 2) rfl rfl rfl rfl (by decide) rfl rfl rfl rfl ((Src.take (Src.r 2 rfl) a).cast (N32_take x.ws a)) (by rw [N32_len, List.length_take]; show _ = a * 1; omega) (N32_one _) (by omega) (by show _ * 4 ≤ _; omega) rfl (fun A17 cc17 => ?_)
 refine L.nil (QE.m (by kernel_rfl) ?_)
 refine LM.f 8 rfl (by kernel_rfl) trivial ?_; refine L.step (Ev.fieldAddr rfl rfl rfl rfl rfl rfl (Src.o 1 rfl) (Nat.zero_lt_succ _) rfl) rfl ?_
 refine L.nil (QE.m (by kernel_rfl) ?_)
 refine LM.f 9 rfl (by kernel_rfl) trivial ?_
 first | refine L.store (j := 0) rfl rfl rfl rfl rfl rfl rfl rfl ?_ | refine L.store (j := 1) rfl rfl rfl rfl rfl rfl rfl rfl ?_ | refine L.store (j := 2) rfl rfl rfl rfl rfl rfl rfl rfl ?_ | refine L.store (j := 3) rfl rfl rfl rfl rfl rfl rfl rfl ?_ | refine L.store (j := 4) rfl rfl rfl rfl rfl rfl rfl rfl ?_ | refine L.store (j := 5) rfl rfl rfl rfl rfl rfl rfl rfl ?_
 refine L.nil (QE.m (by kernel_rfl) ?_)
 refine LM.nil (by kernel_rfl) trivial ?_; refine QE.seq (C.seq ?_); refine C.regionM [Rd A2 [.slice WA x.ws.length wc, .slice MA x.ms.length mc, .slice LA x.ls.length lc], Rd A3 [.int .i64 (a : Int), .int .i64 (b : Int)], Rd A5 [.slice A17 (0 + a) cc17, .slice none 0 0, .slice none 0 0], Rd MA (Bs x.ms)] ⟨Has.r 0 rfl, Has.r 1 rfl, Has.o 1 rfl, Has.r 3 rfl, trivial⟩ ?_; refine LM.q 0 rfl (by kernel_rfl) (Ev.fieldAddr rfl rfl rfl rfl rfl rfl (Src.r 2 rfl) (Nat.zero_lt_succ _) rfl) rfl ⟨Has.r 0 rfl, Has.r 1 rfl, Has.o 1 rfl, Has.r 3 rfl, trivial⟩ ?_; refine LM.q 1 rfl (by kernel_rfl) (Ev.load rfl rfl rfl (Src.r 2 rfl) rfl) rfl ⟨Has.r 0 rfl, Has.r 1 rfl, Has.o 1 rfl, Has.r 3 rfl, trivial⟩ ?_; refine LM.q 2 rfl (by kernel_rfl) (Ev.fieldAddr rfl rfl rfl rfl rfl rfl (Src.r 0 rfl) (Nat.zero_lt_succ _) rfl) rfl ⟨Has.r 0 rfl, Has.r 1 rfl, Has.o 1 rfl, Has.r 3 rfl, trivial⟩ ?_; refine LM.q 3 rfl (by kernel_rfl) (Ev.load rfl rfl rfl (Src.r 0 rfl) rfl) rfl ⟨Has.r 0 rfl, Has.r 1 rfl, Has.o 1 rfl, Has.r 3 rfl, trivial⟩ ?_; refine LM.f 4 rfl (by kernel_rfl) ⟨Has.r 0 rfl, Has.r 1 rfl, Has.o 1 rfl, Has.r 3 rfl, trivial⟩ ?_; refine L.step (Ev.fieldAddr rfl rfl rfl rfl rfl rfl (Src.r 1 rfl) (Nat.zero_lt_succ _) rfl) rfl ?_
 refine L.nil (QE.m (by kernel_rfl) ?_)
 refine LM.f 5 rfl (by kernel_rfl) ⟨Has.r 0 rfl, Has.r 1 rfl, Has.o 1 rfl, Has.r 3 rfl, trivial⟩ ?_; refine L.step (Ev.load rfl rfl rfl (Src.r 1 rfl) rfl) rfl ?_
 refine L.nil (QE.m (by kernel_rfl) ?_)
 refine LM.f 6 rfl (by kernel_rfl) ⟨Has.r 0 rfl, Has.r 1 rfl, Has.o 1 rfl, Has.r 3 rfl, trivial⟩ ?_; refine L.step (Ev.sliceH (h := a) rfl rfl rfl rfl rfl rfl (by omega)) rfl ?_
 refine L.nil (QE.m (by kernel_rfl) ?_)
 refine LM.cut [] (by kernel_rfl) ⟨Has.r 0 rfl, Has.r 1 rfl, Has.o 1 rfl, Has.r 3 rfl, trivial⟩ ?_; refine LM.f 7 rfl (by kernel_rfl) trivial ?_
 refine L.append (j := 3) rfl rfl rfl rfl (by decide) rfl rfl rfl rfl ((Src.take (Src.r 3 rfl) a).cast (Bs_take2 x.ms a)) (by rw [Bs_len, List.length_take]; show _ = a * 1; omega) (Bs_one _) (by omega) (by show _ * 1 ≤ _; omega) rfl (fun A26 cc26 => ?_)
 refine L.nil (QE.m (by kernel_rfl) ?_)
 refine LM.f 8 rfl (by kernel_rfl) trivial ?_; refine L.step (Ev.fieldAddr rfl rfl rfl rfl rfl rfl (Src.o 1 rfl) (Nat.zero_lt_succ _) rfl) rfl ?_
 refine L.nil (QE.m (by kernel_rfl) ?_)
 refine LM.f 9 rfl (by kernel_rfl) trivial ?_
 first | refine L.store (j := 0) rfl rfl rfl rfl rfl rfl rfl rfl ?_ | refine L.store (j := 1) rfl rfl rfl rfl rfl rfl rfl rfl ?_ | refine L.store (j := 2) rfl rfl rfl rfl rfl rfl rfl rfl ?_ | refine L.store (j := 3) rfl rfl rfl rfl rfl rfl rfl rfl ?_ | refine L.store (j := 4) rfl rfl rfl rfl rfl rfl rfl rfl ?_ | refine L.store (j := 5) rfl rfl rfl rfl rfl rfl rfl rfl ?_
 refine L.nil (QE.m (by kernel_rfl) ?_)
 refine LM.nil (by kernel_rfl) trivial ?_; refine QE.seq (C.seq (C.seq (C.region ?_))); refine Lpu rfl rfl ?_; refine L.nil (QE.seq (C.block ?_))
 have hw0 : (mvW x.ws a 0).length = 0 + a := by rw [mvW_len ha]; omega
 have hm0 : (mvM x.ms a 0).length = 0 + a := by rw [mvM_len (by omega)]; omega
 refine C.loop (fun q : Nat × (Option Addr × Nat) × Option Addr × Nat => [(2, ptrOf A2 0), (3, ptrOf A3 0), (4, ptrOf A4 0), (5, ptrOf A5 0), (6, .int .i64 (q.1 : Int))]) (fun q : Nat × (Option Addr × Nat) × Option Addr × Nat => [Rd A2 [.slice WA x.ws.length wc, .slice MA x.ms.length mc, .slice LA x.ls.length lc], Rd A3 [.int .i64 (a : Int), .int .i64 (b : Int)], Rd WA (N32 x.ws), Rd MA (Bs x.ms), Rd LA (I64 x.ls)]) (fun q : Nat × (Option Addr × Nat) × Option Addr × Nat => [Own 57 3 A4 1 1 [.slice none 0 0, .slice none 0 0, .slice none 0 0], Own 57 3 A5 1 1 [.slice q.2.1.1 (mvW x.ws a q.1).length q.2.1.2, .slice q.2.2.1 (mvM x.ms a q.1).length q.2.2.2, .slice none 0 0], Own 73 1 q.2.1.1 (mvW x.ws a q.1).length q.2.1.2 (N32 (mvW x.ws a q.1)), Own 4 1 q.2.2.1 (mvM x.ms a q.1).length q.2.2.2 (Bs (mvM x.ms a q.1))]) (fun q : Nat × (Option Addr × Nat) × Option Addr × Nat => q.1 ≤ b) (fun q : Nat × (Option Addr × Nat) × Option Addr × Nat => b - q.1) (0, (A17, cc17), A26, cc26) (Nat.zero_le _) (by exact Le.mk' (rs := [0, 1, 2, 3, 4]) (hs := [0, 1, 2, 3]) ⟨rfl, rfl, rfl, rfl, rfl, trivial⟩ ⟨rfl, rfl, rfl, rfl, rfl, trivial⟩ ⟨rfl, (congrArg some (own_eq2 rfl (by dsimp only; rw [hw0, hm0]; rfl))), (congrArg some (own_eq2 hw0.symm (by dsimp only; rw [mvW_zero]; rfl))), (congrArg some (own_eq2 hm0.symm (by dsimp only; rw [mvM_zero]; rfl))), trivial⟩ (by decide)) ?_
 rintro ⟨i, ⟨WA2, w2⟩, MA2, m2⟩ hi
 dsimp only at hi ⊢
 have hwl := mvW_len ha i
 have hmll := mvM_len (ms := x.ms) (a := a) (by omega) i
 refine C.seq (C.seq (C.region ?_)); refine Lpu rfl rfl ?_; refine L.step (Ev.fieldAddr rfl rfl rfl rfl rfl rfl (Src.r 1 rfl) (Nat.zero_lt_succ _) rfl) rfl ?_; refine L.step (Ev.load rfl rfl rfl (Src.r 1 rfl) rfl) rfl ?_; refine Lpu rfl rfl ?_; refine L.nil (QE.seq ?_)
 refine C.condB 31 rfl (fun hc31 => ?_) (fun hc31 => ?_)
 ·
  replace hc31 := of_decide_eq_true hc31
  refine C.skip (QE.seq (C.seq (C.block (C.seq (C.region ?_))))); refine L.step (Ev.fieldAddr rfl rfl rfl rfl rfl rfl (Src.o 1 rfl) (Nat.zero_lt_succ _) rfl) rfl ?_; refine L.step (Ev.load rfl rfl rfl (Src.o 1 rfl) rfl) rfl ?_
  refine L.lit rfl rfl rfl rfl rfl (by rfl) (by rfl) (by rfl) rfl rfl (fun A36 => ?_)
  refine L.append (j := 2) rfl rfl rfl rfl (by decide) rfl rfl rfl rfl (Src.o 4 rfl) rfl (N32_one [0]) (by omega) (by show _ * 4 ≤ _; omega) rfl (fun A37 cc37 => ?_)
  refine L.step (Ev.fieldAddr rfl rfl rfl rfl rfl rfl (Src.o 1 rfl) (Nat.zero_lt_succ _) rfl) rfl ?_
  first | refine L.store (j := 0) rfl rfl rfl rfl rfl rfl rfl rfl ?_ | refine L.store (j := 1) rfl rfl rfl rfl rfl rfl rfl rfl ?_ | refine L.store (j := 2) rfl rfl rfl rfl rfl rfl rfl rfl ?_ | refine L.store (j := 3) rfl rfl rfl rfl rfl rfl rfl rfl ?_ | refine L.store (j := 4) rfl rfl rfl rfl rfl rfl rfl rfl ?_ | refine L.store (j := 5) rfl rfl rfl rfl rfl rfl rfl rfl ?_
  refine L.nil (QE.seq (C.region ?_)); refine L.step (Ev.fieldAddr rfl rfl rfl rfl rfl rfl (Src.o 1 rfl) (Nat.zero_lt_succ _) rfl) rfl ?_; refine L.step (Ev.load rfl rfl rfl (Src.o 1 rfl) rfl) rfl ?_
  refine L.lit rfl rfl rfl rfl rfl (by rfl) (by rfl) (by rfl) rfl rfl (fun A41 => ?_)
  refine L.append (j := 3) rfl rfl rfl rfl (by decide) rfl rfl rfl rfl (Src.o 5 rfl) rfl (Bs_one [false]) (by omega) (by show _ * 1 ≤ _; omega) rfl (fun A42 cc42 => ?_)
  refine L.step (Ev.fieldAddr rfl rfl rfl rfl rfl rfl (Src.o 1 rfl) (Nat.zero_lt_succ _) rfl) rfl ?_
  first | refine L.store (j := 0) rfl rfl rfl rfl rfl rfl rfl rfl ?_ | refine L.store (j := 1) rfl rfl rfl rfl rfl rfl rfl rfl ?_ | refine L.store (j := 2) rfl rfl rfl rfl rfl rfl rfl rfl ?_ | refine L.store (j := 3) rfl rfl rfl rfl rfl rfl rfl rfl ?_ | refine L.store (j := 4) rfl rfl rfl rfl rfl rfl rfl rfl ?_ | refine L.store (j := 5) rfl rfl rfl rfl rfl rfl rfl rfl ?_
  refine L.nil ?_; refine QE.blkN ?_; refine QE.seq (C.region ?_); refine Lpu rfl rfl ?_; refine L.step (Ev.add rfl rfl (by omega) (by omega)) rfl ?_; refine Lpu rfl rfl ?_; refine L.nil ?_
  have he := mvW_succ x.ws a i
  have hel : (mvW x.ws a (i + 1)).length = (mvW x.ws a i).length + 1 := by rw [he, List.length_append]; rfl
  have hm := mvM_succ x.ms a i
  have hmm : (mvM x.ms a (i + 1)).length = (mvM x.ms a i).length + 1 := by rw [hm, List.length_append]; rfl
  refine QE.round (i := (i, (WA2, w2), MA2, m2)) ((i + 1, (A37, cc37), A42, cc42)) (by dsimp only; omega) (by dsimp only; omega) (by exact Le.mk' (rs := [0, 1, 2, 3, 4]) (hs := [0, 1, 2, 3]) ⟨rfl, rfl, rfl, rfl, rfl, trivial⟩ ⟨rfl, rfl, rfl, rfl, rfl, trivial⟩ ⟨rfl, (congrArg some (own_eq2 rfl (by dsimp only; rw [hel, hmm]; rfl))), (congrArg some (own_eq2 hel.symm (by dsimp only; rw [he]; simp only [← N32_app]; rfl))), (congrArg some (own_eq2 hmm.symm (by dsimp only; rw [hm]; simp only [← Bs_app2]; rfl))), trivial⟩ (by decide))
 ·
  replace hc31 := of_decide_eq_false hc31
  refine C.exit ?_; refine QE.tX ?_; refine QE.tX ?_; refine QE.blk ?_; refine QE.seq (C.seq ?_)
  have hib : b = i := by omega
  subst hib
  refine C.regionM [Rd A2 [.slice WA x.ws.length wc, .slice MA x.ms.length mc, .slice LA x.ls.length lc], Rd A3 [.int .i64 (a : Int), .int .i64 (b : Int)], Rd A5 [.slice WA2 (mvW x.ws a b).length w2, .slice MA2 (mvM x.ms a b).length m2, .slice none 0 0], Rd WA (N32 x.ws)] ⟨Has.r 0 rfl, Has.r 1 rfl, Has.o 1 rfl, Has.r 2 rfl, trivial⟩ ?_; refine LM.q 0 rfl (by kernel_rfl) (Ev.fieldAddr rfl rfl rfl rfl rfl rfl (Src.r 2 rfl) (Nat.zero_lt_succ _) rfl) rfl ⟨Has.r 0 rfl, Has.r 1 rfl, Has.o 1 rfl, Has.r 2 rfl, trivial⟩ ?_; refine LM.q 1 rfl (by kernel_rfl) (Ev.load rfl rfl rfl (Src.r 2 rfl) rfl) rfl ⟨Has.r 0 rfl, Has.r 1 rfl, Has.o 1 rfl, Has.r 2 rfl, trivial⟩ ?_; refine LM.q 2 rfl (by kernel_rfl) (Ev.fieldAddr rfl rfl rfl rfl rfl rfl (Src.r 0 rfl) (Nat.zero_lt_succ _) rfl) rfl ⟨Has.r 0 rfl, Has.r 1 rfl, Has.o 1 rfl, Has.r 2 rfl, trivial⟩ ?_; refine LM.q 3 rfl (by kernel_rfl) (Ev.load rfl rfl rfl (Src.r 0 rfl) rfl) rfl ⟨Has.r 0 rfl, Has.r 1 rfl, Has.o 1 rfl, Has.r 2 rfl, trivial⟩ ?_; refine LM.f 4 rfl (by kernel_rfl) ⟨Has.r 0 rfl, Has.r 1 rfl, Has.o 1 rfl, Has.r 2 rfl, trivial⟩ ?_; refine L.step (Ev.fieldAddr rfl rfl rfl rfl rfl rfl (Src.r 1 rfl) (Nat.zero_lt_succ _) rfl) rfl ?_
  refine L.nil (QE.m (by kernel_rfl) ?_)
  refine LM.f 5 rfl (by kernel_rfl) ⟨Has.r 0 rfl, Has.r 1 rfl, Has.o 1 rfl, Has.r 2 rfl, trivial⟩ ?_; refine L.step (Ev.load rfl rfl rfl (Src.r 1 rfl) rfl) rfl ?_
  refine L.nil (QE.m (by kernel_rfl) ?_)
  refine LM.f 6 rfl (by kernel_rfl) ⟨Has.r 0 rfl, Has.r 1 rfl, Has.o 1 rfl, Has.r 2 rfl, trivial⟩ ?_; refine L.step (Ev.sliceL (l := a) rfl rfl rfl rfl rfl rfl (by omega)) rfl ?_
  refine L.nil (QE.m (by kernel_rfl) ?_)
  refine LM.cut [] (by kernel_rfl) ⟨Has.r 0 rfl, Has.r 1 rfl, Has.o 1 rfl, Has.r 2 rfl, trivial⟩ ?_; refine LM.f 7 rfl (by kernel_rfl) trivial ?_
  refine L.append (j := 2) rfl rfl rfl rfl (by decide) rfl rfl rfl rfl ((Src.sub (Src.r 2 rfl) wc a 1 (by rw [N32_len]; omega)).cast (by rw [Nat.mul_one, N32_drop])) (by rw [N32_len, List.length_drop]; exact (Nat.mul_one _).symm) (N32_one _) (by omega) (by show _ * 4 ≤ _; omega) rfl (fun A51 cc51 => ?_)
  refine L.nil (QE.m (by kernel_rfl) ?_)
  refine LM.f 8 rfl (by kernel_rfl) trivial ?_; refine L.step (Ev.fieldAddr rfl rfl rfl rfl rfl rfl (Src.o 1 rfl) (Nat.zero_lt_succ _) rfl) rfl ?_
  refine L.nil (QE.m (by kernel_rfl) ?_)
  refine LM.f 9 rfl (by kernel_rfl) trivial ?_
  first | refine L.store (j := 0) rfl rfl rfl rfl rfl rfl rfl rfl ?_ | refine L.store (j := 1) rfl rfl rfl rfl rfl rfl rfl rfl ?_ | refine L.store (j := 2) rfl rfl rfl rfl rfl rfl rfl rfl ?_ | refine L.store (j := 3) rfl rfl rfl rfl rfl rfl rfl rfl ?_ | refine L.store (j := 4) rfl rfl rfl rfl rfl rfl rfl rfl ?_ | refine L.store (j := 5) rfl rfl rfl rfl rfl rfl rfl rfl ?_
  refine L.nil (QE.m (by kernel_rfl) ?_)
  refine LM.nil (by kernel_rfl) trivial ?_; refine QE.seq (C.seq ?_); refine C.regionM [Rd A2 [.slice WA x.ws.length wc, .slice MA x.ms.length mc, .slice LA x.ls.length lc], Rd A3 [.int .i64 (a : Int), .int .i64 (b : Int)], Rd A5 [.slice A51 ((mvW x.ws a b).length + (x.ws.length - a)) cc51, .slice MA2 (mvM x.ms a b).length m2, .slice none 0 0], Rd MA (Bs x.ms)] ⟨Has.r 0 rfl, Has.r 1 rfl, Has.o 1 rfl, Has.r 3 rfl, trivial⟩ ?_; refine LM.q 0 rfl (by kernel_rfl) (Ev.fieldAddr rfl rfl rfl rfl rfl rfl (Src.r 2 rfl) (Nat.zero_lt_succ _) rfl) rfl ⟨Has.r 0 rfl, Has.r 1 rfl, Has.o 1 rfl, Has.r 3 rfl, trivial⟩ ?_; refine LM.q 1 rfl (by kernel_rfl) (Ev.load rfl rfl rfl (Src.r 2 rfl) rfl) rfl ⟨Has.r 0 rfl, Has.r 1 rfl, Has.o 1 rfl, Has.r 3 rfl, trivial⟩ ?_; refine LM.q 2 rfl (by kernel_rfl) (Ev.fieldAddr rfl rfl rfl rfl rfl rfl (Src.r 0 rfl) (Nat.zero_lt_succ _) rfl) rfl ⟨Has.r 0 rfl, Has.r 1 rfl, Has.o 1 rfl, Has.r 3 rfl, trivial⟩ ?_; refine LM.q 3 rfl (by kernel_rfl) (Ev.load rfl rfl rfl (Src.r 0 rfl) rfl) rfl ⟨Has.r 0 rfl, Has.r 1 rfl, Has.o 1 rfl, Has.r 3 rfl, trivial⟩ ?_; refine LM.f 4 rfl (by kernel_rfl) ⟨Has.r 0 rfl, Has.r 1 rfl, Has.o 1 rfl, Has.r 3 rfl, trivial⟩ ?_; refine L.step (Ev.fieldAddr rfl rfl rfl rfl rfl rfl (Src.r 1 rfl) (Nat.zero_lt_succ _) rfl) rfl ?_
  refine L.nil (QE.m (by kernel_rfl) ?_)
  refine LM.f 5 rfl (by kernel_rfl) ⟨Has.r 0 rfl, Has.r 1 rfl, Has.o 1 rfl, Has.r 3 rfl, trivial⟩ ?_; refine L.step (Ev.load rfl rfl rfl (Src.r 1 rfl) rfl) rfl ?_
  refine L.nil (QE.m (by kernel_rfl) ?_)
  refine LM.f 6 rfl (by kernel_rfl) ⟨Has.r 0 rfl, Has.r 1 rfl, Has.o 1 rfl, Has.r 3 rfl, trivial⟩ ?_; refine L.step (Ev.sliceL (l := a) rfl rfl rfl rfl rfl rfl (by omega)) rfl ?_
  refine L.nil (QE.m (by kernel_rfl) ?_)
  refine LM.cut [] (by kernel_rfl) ⟨Has.r 0 rfl, Has.r 1 rfl, Has.o 1 rfl, Has.r 3 rfl, trivial⟩ ?_; refine LM.f 7 rfl (by kernel_rfl) trivial ?_
  refine L.append (j := 3) rfl rfl rfl rfl (by decide) rfl rfl rfl rfl ((Src.sub (Src.r 3 rfl) mc a 1 (by rw [Bs_len]; omega)).cast (by rw [Nat.mul_one, Bs_drop2])) (by rw [Bs_len, List.length_drop]; exact (Nat.mul_one _).symm) (Bs_one _) (by omega) (by show _ * 1 ≤ _; omega) rfl (fun A60 cc60 => ?_)
  refine L.nil (QE.m (by kernel_rfl) ?_)
  refine LM.f 8 rfl (by kernel_rfl) trivial ?_; refine L.step (Ev.fieldAddr rfl rfl rfl rfl rfl rfl (Src.o 1 rfl) (Nat.zero_lt_succ _) rfl) rfl ?_
  refine L.nil (QE.m (by kernel_rfl) ?_)
  refine LM.f 9 rfl (by kernel_rfl) trivial ?_
  first | refine L.store (j := 0) rfl rfl rfl rfl rfl rfl rfl rfl ?_ | refine L.store (j := 1) rfl rfl rfl rfl rfl rfl rfl rfl ?_ | refine L.store (j := 2) rfl rfl rfl rfl rfl rfl rfl rfl ?_ | refine L.store (j := 3) rfl rfl rfl rfl rfl rfl rfl rfl ?_ | refine L.store (j := 4) rfl rfl rfl rfl rfl rfl rfl rfl ?_ | refine L.store (j := 5) rfl rfl rfl rfl rfl rfl rfl rfl ?_
  refine L.nil (QE.m (by kernel_rfl) ?_)
  refine LM.nil (by kernel_rfl) trivial ?_; refine QE.seq (C.seq (C.seq ?_))
  have hMW : (moveF x a b).ws = (mvW x.ws a b) ++ x.ws.drop a := rfl
  have hMM : (moveF x a b).ms = (mvM x.ms a b) ++ x.ms.drop a := rfl
  have hMw : (moveF x a b).ws.length = (mvW x.ws a b).length + (x.ws.length - a) := by rw [hMW, List.length_append, List.length_drop]
  have hMm : (moveF x a b).ms.length = (mvM x.ms a b).length + (x.ms.length - a) := by rw [hMM, List.length_append, List.length_drop]
  refine C.le (Γ' := [(2, ptrOf A2 0), (3, ptrOf A3 0), (4, ptrOf A4 0), (5, ptrOf A5 0)]) (R' := [Rd A2 [.slice WA x.ws.length wc, .slice MA x.ms.length mc, .slice LA x.ls.length lc], Rd A3 [.int .i64 (a : Int), .int .i64 (b : Int)], Rd WA (N32 x.ws), Rd MA (Bs x.ms), Rd LA (I64 x.ls)]) (H' := [Own 57 3 A4 1 1 [.slice none 0 0, .slice none 0 0, .slice none 0 0], Own 57 3 A5 1 1 [.slice A51 (moveF x a b).ws.length cc51, .slice A60 (moveF x a b).ms.length cc60, .slice none 0 0], Own 73 1 A51 (moveF x a b).ws.length cc51 (N32 (moveF x a b).ws), Own 4 1 A60 (moveF x a b).ms.length cc60 (Bs (moveF x a b).ms)]) (by exact Le.mk' (rs := [0, 1, 2, 3, 4]) (hs := [0, 1, 2, 3]) ⟨rfl, rfl, rfl, rfl, trivial⟩ ⟨rfl, rfl, rfl, rfl, rfl, trivial⟩ ⟨rfl, (congrArg some (own_eq2 rfl (by rw [hMw, hMm]; rfl))), (congrArg some (own_eq2 hMw.symm (by rw [hMW]; simp only [← N32_app]))), (congrArg some (own_eq2 hMm.symm (by rw [hMM]; simp only [← Bs_app2]))), trivial⟩ (by decide)) ?_; refine C.region ?_; refine Lpu rfl rfl ?_; refine L.nil (QE.seq (C.block ?_)); refine C.nil_own 3 1 ?_; refine C.loop (fun q : Nat × Option Addr × Nat => [(2, ptrOf A2 0), (3, ptrOf A3 0), (4, ptrOf A4 0), (5, ptrOf A5 0), (7, .int .i64 (q.1 : Int))]) (fun q : Nat × Option Addr × Nat => [Rd A2 [.slice WA x.ws.length wc, .slice MA x.ms.length mc, .slice LA x.ls.length lc], Rd A3 [.int .i64 (a : Int), .int .i64 (b : Int)], Rd WA (N32 x.ws), Rd MA (Bs x.ms), Rd LA (I64 x.ls)]) (fun q : Nat × Option Addr × Nat => [Own 57 3 A4 1 1 [.slice none 0 0, .slice none 0 0, .slice none 0 0], Own 57 3 A5 1 1 [.slice A51 (moveF x a b).ws.length cc51, .slice A60 (moveF x a b).ms.length cc60, .slice q.2.1 (mvT x.ls a b q.1).length q.2.2], Own 73 1 A51 (moveF x a b).ws.length cc51 (N32 (moveF x a b).ws), Own 4 1 A60 (moveF x a b).ms.length cc60 (Bs (moveF x a b).ms), Own 3 1 q.2.1 (mvT x.ls a b q.1).length q.2.2 (I64 (mvT x.ls a b q.1))]) (fun q : Nat × Option Addr × Nat => q.1 ≤ x.ls.length) (fun q : Nat × Option Addr × Nat => x.ls.length - q.1) (0, none, 0) (Nat.zero_le _) (by exact Le.mk' (rs := [0, 1, 2, 3, 4]) (hs := [0, 1, 2, 3, 4]) ⟨rfl, rfl, rfl, rfl, rfl, trivial⟩ ⟨rfl, rfl, rfl, rfl, rfl, trivial⟩ ⟨rfl, rfl, rfl, rfl, rfl, trivial⟩ (by decide)) ?_
  rintro ⟨i, LA2, l2⟩ hi
  dsimp only at hi ⊢
  have htl := mvT_len hi a b
  refine C.seq (C.seq (C.region ?_)); refine Lpu rfl rfl ?_; refine L.step (Ev.fieldAddr rfl rfl rfl rfl rfl rfl (Src.r 0 rfl) (Nat.zero_lt_succ _) rfl) rfl ?_; refine L.step (Ev.load rfl rfl rfl (Src.r 0 rfl) rfl) rfl ?_; refine Lpu rfl rfl ?_; refine Lpu rfl rfl ?_; refine L.nil (QE.seq ?_)
  refine C.condB 66 rfl (fun hc66 => ?_) (fun hc66 => ?_)
  ·
   replace hc66 := of_decide_eq_true hc66
   have hlr := hlr0 i (by omega)
   refine C.skip (QE.seq (C.seq (C.block (C.seq (C.region ?_))))); refine L.step (Ev.fieldAddr rfl rfl rfl rfl rfl rfl (Src.r 0 rfl) (Nat.zero_lt_succ _) rfl) rfl ?_; refine L.step (Ev.load rfl rfl rfl (Src.r 0 rfl) rfl) rfl ?_; refine Lpu rfl rfl ?_; refine L.step (Ev.idx1 (k := i) rfl rfl rfl rfl rfl rfl rfl (by omega) (Src.r 4 rfl) (by rw [I64_len]; omega)) rfl ?_; refine L.step (Ev.load rfl rfl rfl (Src.r 4 rfl) (I64_get (by omega))) rfl ?_; refine Lpu rfl rfl ?_; refine L.nil (QE.seq ?_); refine C.seqJ (fun n : Int => [(2, ptrOf A2 0), (3, ptrOf A3 0), (4, ptrOf A4 0), (5, ptrOf A5 0), (7, .int .i64 (i : Int)), (8, .int .i64 n)]) (fun n : Int => [Rd A2 [.slice WA x.ws.length wc, .slice MA x.ms.length mc, .slice LA x.ls.length lc], Rd A3 [.int .i64 (a : Int), .int .i64 (b : Int)], Rd WA (N32 x.ws), Rd MA (Bs x.ms), Rd LA (I64 x.ls)]) (fun n : Int => [Own 57 3 A4 1 1 [.slice none 0 0, .slice none 0 0, .slice none 0 0], Own 57 3 A5 1 1 [.slice A51 (moveF x a b).ws.length cc51, .slice A60 (moveF x a b).ms.length cc60, .slice LA2 (mvT x.ls a b i).length l2], Own 73 1 A51 (moveF x a b).ws.length cc51 (N32 (moveF x a b).ws), Own 4 1 A60 (moveF x a b).ms.length cc60 (Bs (moveF x a b).ms), Own 3 1 LA2 (mvT x.ls a b i).length l2 (I64 (mvT x.ls a b i))]) (fun n : Int => n = mvN a b (x.ls.getD i 0)) ?_ ?_
   ·
    refine C.seq (C.region ?_); refine Lpu rfl rfl ?_; refine L.step (Ev.fieldAddr rfl rfl rfl rfl rfl rfl (Src.r 1 rfl) (Nat.zero_lt_succ _) rfl) rfl ?_; refine L.step (Ev.load rfl rfl rfl (Src.r 1 rfl) rfl) rfl ?_; refine L.step (Ev.mul rfl rfl (by omega) (by omega)) rfl ?_; refine Lpu rfl rfl ?_; refine L.nil (QE.seq ?_)
    refine C.condB 78 rfl (fun hc78 => ?_) (fun hc78 => ?_)
    ·
     replace hc78 := of_decide_eq_true hc78
     refine C.region ?_; refine Lpu rfl rfl ?_; refine L.step (Ev.fieldAddr rfl rfl rfl rfl rfl rfl (Src.r 1 rfl) (Nat.zero_lt_succ _) rfl) rfl ?_; refine L.step (Ev.load rfl rfl rfl (Src.r 1 rfl) rfl) rfl ?_; refine L.step (Ev.mul rfl rfl (by omega) (by omega)) rfl ?_; refine L.step (Ev.add rfl rfl (by omega) (by omega)) rfl ?_; refine Lpu rfl rfl ?_; refine L.nil ?_
     refine QE.join (x.ls.getD i 0 + 4 * (b : Int)) (by unfold mvN; rw [if_pos (by omega)]) (by exact Le.mk' (rs := [0, 1, 2, 3, 4]) (hs := [0, 1, 2, 3, 4]) ⟨rfl, rfl, rfl, rfl, rfl, rfl, trivial⟩ ⟨rfl, rfl, rfl, rfl, rfl, trivial⟩ ⟨rfl, rfl, rfl, rfl, rfl, trivial⟩ (by decide))
    ·
     replace hc78 := of_decide_eq_false hc78
     refine C.skip ?_
     refine QE.join (x.ls.getD i 0) (by unfold mvN; rw [if_neg (by omega)]) (by exact Le.mk' (rs := [0, 1, 2, 3, 4]) (hs := [0, 1, 2, 3, 4]) ⟨rfl, rfl, rfl, rfl, rfl, rfl, trivial⟩ ⟨rfl, rfl, rfl, rfl, rfl, trivial⟩ ⟨rfl, rfl, rfl, rfl, rfl, trivial⟩ (by decide))
   ·
    intro n hn
    refine C.region ?_; refine L.step (Ev.fieldAddr rfl rfl rfl rfl rfl rfl (Src.o 1 rfl) (Nat.zero_lt_succ _) rfl) rfl ?_; refine L.step (Ev.load rfl rfl rfl (Src.o 1 rfl) rfl) rfl ?_; refine Lpu rfl rfl ?_
    refine L.lit rfl rfl rfl rfl rfl (by rfl) (by rfl) (by rfl) rfl rfl (fun A87 => ?_)
    refine L.append (j := 4) rfl rfl rfl rfl (by decide) rfl rfl rfl rfl (Src.o 5 rfl) rfl (I64_one [n]) (by omega) (by show _ * 8 ≤ _; omega) rfl (fun A88 cc88 => ?_)
    refine L.step (Ev.fieldAddr rfl rfl rfl rfl rfl rfl (Src.o 1 rfl) (Nat.zero_lt_succ _) rfl) rfl ?_
    first | refine L.store (j := 0) rfl rfl rfl rfl rfl rfl rfl rfl ?_ | refine L.store (j := 1) rfl rfl rfl rfl rfl rfl rfl rfl ?_ | refine L.store (j := 2) rfl rfl rfl rfl rfl rfl rfl rfl ?_ | refine L.store (j := 3) rfl rfl rfl rfl rfl rfl rfl rfl ?_ | refine L.store (j := 4) rfl rfl rfl rfl rfl rfl rfl rfl ?_ | refine L.store (j := 5) rfl rfl rfl rfl rfl rfl rfl rfl ?_
    refine L.nil ?_; refine QE.blkN ?_; refine QE.seq (C.region ?_); refine Lpu rfl rfl ?_; refine L.step (Ev.add rfl rfl (by omega) (by omega)) rfl ?_; refine Lpu rfl rfl ?_; refine L.nil ?_
    have he : (mvT x.ls a b (i + 1)) = (mvT x.ls a b i) ++ [n] := by rw [mvT_succ _ _ _ (by omega), hn]
    have hel : (mvT x.ls a b (i + 1)).length = (mvT x.ls a b i).length + 1 := by rw [he, List.length_append]; rfl
    refine QE.round (i := (i, LA2, l2)) ((i + 1, A88, cc88)) (by dsimp only; omega) (by dsimp only; omega) (by exact Le.mk' (rs := [0, 1, 2, 3, 4]) (hs := [0, 1, 2, 3, 4]) ⟨rfl, rfl, rfl, rfl, rfl, trivial⟩ ⟨rfl, rfl, rfl, rfl, rfl, trivial⟩ ⟨rfl, (congrArg some (own_eq2 rfl (by dsimp only; rw [hel]; rfl))), rfl, rfl, (congrArg some (own_eq2 hel.symm (by dsimp only; rw [he]; simp only [← I64_app]; rfl))), trivial⟩ (by decide))
  ·
   replace hc66 := of_decide_eq_false hc66
   refine C.exit ?_; refine QE.tX ?_; refine QE.tX ?_; refine QE.blk ?_; refine QE.seq (C.seq ?_)
   obtain rfl : i = x.ls.length := by omega
   have hLs : (moveF x a b).ls = mvT x.ls a b x.ls.length := (mvT_all _ _ _).symm
   rw [← hLs] at *
   refine C.region ?_; refine L.step (Ev.loadA (vs := [.slice A51 (moveF x a b).ws.length cc51, .slice A60 (moveF x a b).ms.length cc60, .slice LA2 (moveF x a b).ls.length l2]) rfl rfl rfl (Src.o 1 rfl) rfl rfl (by decide)) rfl ?_; refine L.storeA (j := 0) rfl rfl rfl rfl rfl (Nat.zero_lt_succ _) rfl rfl ?_; refine L.nil (QE.seq (C.ret ?_)); refine QE.ret (js := []) (hs := [2, 3, 4]) (vs := [_]) rfl ⟨⟨_, _, 0, _, rfl, rfl, Src.o 0 rfl, .inl ⟨rfl, by decide, _, rfl, rfl, rfl⟩⟩, trivial⟩ (by decide) ?_
   exact ⟨A51, A60, LA2, cc51, cc60, l2, rfl, rfl, rfl⟩

end Go.Proofs.YtbkmahjhhncfcaaGreat
end
