/-
  The small separation logic: a constant row of bytes, turned to its own type.
-/
import Derived.Test.YtbkmahjhhncfcaaGreatVSlO
import Derived.Test.YtbkmahjhhncfcaaGreatVSlM
import Derived.Test.YtbkmahjhhncfcaaGreatVWMtL
import Derived.Test.YtbkmahjhhncfcaaGreatVWLaT
import Derived.Test.YtbkmahjhhncfcaaGreatVWLaR
import Derived.Test.YtbkmahjhhncfcaaGreatVWLaL
section
namespace Go.Sl

section
variable {X : Cx} {β : Base} {n : Nat} {ds : List Deferred} {ops : Array Oper} {Q : Exit → Act → World → Prop} {rest : List Oper} {Γ : Env} {R H : List Pr}

/-- []byte("..") of a constant: the row is marked behind its end, and only read from then on. -/
theorem L.konst {d s e m c ty j : Nat} {pos : String} {af : Array Edge} {x : Operand} {i ei : Ti} {A : Option Addr} {xs : List Value} (hs : tlook s X.tab = some i) (hdesc : i.desc = .slice e) (he : tlook e X.tab = some ei) (hed : ei.desc = .int .u8)
   (hx : ev Γ x = some (.slice A m c)) (hj : H[j]? = some (Own e 1 A m c xs)) (h0 : Nat.blt 0 xs.length = true) (js : List Nat) (hn : js.Nodup) (hjj : js.contains j = false) (hd : Nat.blt d n = true)
   (k : L X β n ds ops Q rest ((d, .slice A m c) :: Γ) (Rd A xs :: R) (sel H js)) : L X β n ds ops Q (⟨some d, .convert s s x, ty, pos, af, none⟩ :: rest) Γ R H := by
 have hlen : js.Nodup := hn
 have hnj : j ∉ js := by simpa using hjj
 intro a w hf hsat
 refine wpList_plain rfl fun K hK => ?_
 obtain ⟨e1, _⟩ := X.ok _ _ hs
 obtain ⟨e2, _⟩ := X.ok _ _ he
 rw [hdesc] at e1
 rw [hed] at e2
 obtain ⟨g, cur, rfl, hh, _, _, hsz, htk⟩ := Own.form (hsat.own j _ hj) (by simpa [Nat.blt_eq] using h0)
 have hsh : w.shape? g = some (e, cur.size) := by unfold World.shape?; rw [hh]
 have hlt : g < w.heap.size := (Array.getElem?_eq_some_iff.1 hh).1
 have hrun : (execOp a.eval ⟨some d, .convert s s x, ty, pos, af, none⟩).run X.P w = .ok (.value (.slice (some ⟨g, 0, none⟩) m c)) (w.freeze ⟨g, cur.size, none⟩ 1) := by
   simp [execOp, hf.eval hx, convert, run_underlying e1, run_underlying e2, markStringish, hsh]
 have hheap : (w.freeze ⟨g, cur.size, none⟩ 1).heap = w.heap.modify g fun
     | .cells c elem (lo, hi) => .cells c elem (if lo == hi then (cur.size, cur.size + 1) else (min lo cur.size, max hi (cur.size + 1)))
     | o => o := by
   unfold World.freeze
   rw [if_neg (by decide)]
   rfl
 have hat : (w.freeze ⟨g, cur.size, none⟩ 1).heap[g]? = some (.cells cur e (cur.size, cur.size + 1)) := by
   rw [hheap, Array.getElem?_modify, if_pos rfl, hh]
   rfl
 unfold Oper.wp
 rw [hrun]
 refine hK _ _ ((L.freezeAny (β := β) (R := R) (Q := Q) (rest := rest) (ops := ops) (Γ := (d, .slice (some ⟨g, 0, none⟩) m c) :: Γ) (H := H.set j (Rd (some ⟨g, 0, none⟩) xs)) j (c := Rd (some ⟨g, 0, none⟩) xs) ?_ js hn hjj ?_) _ _ (hf.put (by simpa [Nat.blt_eq] using hd) _) ?_)
 · exact List.getElem?_set_self (List.getElem?_eq_some_iff.1 hj).1
 · have hse : sel (H.set j (Rd (some ⟨g, 0, none⟩) xs)) js = sel H js := by
     clear hn hjj hlen k
     induction js with
     | nil => rfl
     | cons q qs ih =>
       have hq : q ≠ j := fun e => hnj (by subst e; simp)
       simp only [sel]
       rw [ih (fun h => hnj (List.mem_cons_of_mem _ h)), List.getElem?_set_ne (Ne.symm hq)]
   rw [hse]
   exact k
 · have hfz : (w.freeze ⟨g, cur.size, none⟩ 1).os = w.os ∧ (w.freeze ⟨g, cur.size, none⟩ 1).tape = w.tape ∧ (w.freeze ⟨g, cur.size, none⟩ 1).output = w.output := by
     unfold World.freeze
     rw [if_neg (by decide)]
     exact ⟨rfl, rfl, rfl⟩
   refine hsat.upd (w' := w.freeze ⟨g, cur.size, none⟩ 1) hj (m := (· = g)) ⟨hfz.1, hfz.2.1, hfz.2.2, ?_, fun b hb hne => ?_⟩ (fun b hb _ => ⟨_, rfl, hb.symm⟩) _ ?_ (fun b hb => ?_)
   · rw [hheap, Array.size_modify]
     exact Nat.le_refl _
   · rw [hheap, Array.getElem?_modify, if_neg (Ne.symm hne)]
   · intro q u hu
     have hql := (List.getElem?_eq_some_iff.1 hu).1
     refine ⟨_, rfl, ?_⟩
     rw [adz, cell_of_row _ g q cur e _ hat]
     rw [← htk, List.getElem?_take] at hu
     split at hu
     · simpa using hu
     · cases hu
   · obtain ⟨_, a', ha, hk⟩ := hb
     injection ha with ha
     subst ha
     refine ⟨?_, .inr ⟨_, rfl, hk⟩⟩
     rw [hheap, Array.size_modify, ← hk]
     exact hlt
end
end Go.Sl
end
/-
  The reference: Plain, Forms, Code.
-/
section
namespace Go.Proofs.YtbkmahjhhncfcaaGreat
open Go.Sl

theorem plain7_c (OB NB : Option Addr) (old new : List UInt8) (oc nc : Nat) (ho : old.length ≤ 65536) (hn : new.length ≤ 65536) (hnc : new.length ≤ nc) :
   Ctr X 37 [.slice OB old.length oc, .slice NB new.length nc] [Rd OB (U8 old), Rd NB (U8 new)] [] (fun v R' H' => v = .agg (List.toArray [.int .i64 (refL old new : Int), .int .i64 0]) ∧ R' = [] ∧ H' = []) := by
 refine Ctr.of (X := X) (fn := Tryz.f37) Tryz.func37 rfl (by kernel_rfl) rfl ?_
 intro β
 refine C.seq (C.region ?_)
 refine L.alloc rfl rfl rfl (fun A4 => ?_)
 refine L.nil (QE.seq (C.seq (C.seq (C.region ?_)))); refine Lpu rfl rfl ?_; refine Lpu rfl rfl ?_; refine Lpu rfl rfl ?_; refine Lpu rfl rfl ?_
 refine L.bool 8 rfl (fun hg8 => ?_) (fun hg8 => ?_)
 ·
  replace hg8 := of_decide_eq_true hg8
  omega
 ·
  replace hg8 := of_decide_eq_false hg8
  refine L.yes rfl ?_; refine Lpu rfl rfl ?_; refine L.yes rfl ?_; refine Lpu rfl rfl ?_; refine L.yes rfl ?_; refine Lpu rfl rfl ?_; refine Lpu rfl rfl ?_; refine L.nil (QE.seq ?_)
  refine C.condB 12 rfl (fun hc12 => ?_) (fun hc12 => ?_)
  ·
   replace hc12 := of_decide_eq_true hc12
   omega
  ·
   replace hc12 := of_decide_eq_false hc12
   refine C.skip (QE.seq (C.seq (C.region ?_))); refine Lpu rfl rfl ?_; refine Lpu rfl rfl ?_; refine L.call (js := []) (js' := [0]) (least7_c OB NB old new oc nc ho hn hnc) rfl rfl rfl (by decide) (Hq [0, 1] rfl) rfl ?_
   rintro _ _ _ ⟨rfl, rfl, rfl⟩
   refine L.norm (H' := [_]) [0] ⟨rfl, trivial⟩ (by decide) ?_; refine L.step (Ev.build rfl rfl rfl rfl rfl rfl rfl) rfl ?_; refine L.storeA (j := 0) rfl rfl rfl rfl rfl (Nat.zero_lt_succ _) rfl rfl ?_; refine L.nil (QE.seq (C.ret ?_)); refine QE.ret (js := []) (hs := []) (vs := [_]) rfl ⟨⟨_, _, 0, _, rfl, rfl, Src.o 0 rfl, .inl ⟨rfl, by decide, _, rfl, rfl, rfl⟩⟩, trivial⟩ (by decide) ?_
   exact ⟨rfl, rfl, rfl⟩

theorem formsE_c (OB NB : Option Addr) (old new : List UInt8) (oc nc : Nat) (ho : old.length ≤ 65536) (hn : new.length ≤ 65536) (hE : liftE old ≠ 0 ∨ liftE new ≠ 0) :
   Ctr X 36 [.slice OB old.length oc, .slice NB new.length nc] [Rd OB (U8 old), Rd NB (U8 new)] [] (fun v R' H' => v = .tuple #[.slice none 0 0, .int .i64 30] ∧ R' = [] ∧ H' = []) := by
 refine Ctr.of (X := X) (fn := Tryz.f36) Tryz.func36 rfl (by kernel_rfl) rfl ?_
 intro β
 refine C.seq (C.region ?_); refine Lpu rfl rfl ?_; refine Lpu rfl rfl ?_; refine L.nil (QE.seq (C.seq (C.region ?_))); refine Lpu rfl rfl ?_; refine L.call (js := []) (js' := []) (lift3_c OB old oc (by omega)) rfl rfl rfl (by decide) (Hq [0] rfl) rfl ?_
 rintro _ _ _ ⟨W1, M1, L1, w1, m1, l1, rfl, rfl, rfl⟩
 refine L.norm (H' := [_, _, _]) [0, 1, 2] ⟨rfl, rfl, rfl, trivial⟩ (by decide) ?_; refine Lpu rfl rfl ?_; refine Lpu rfl rfl ?_; refine Lpu rfl rfl ?_
 refine L.alloc rfl rfl rfl (fun A6 => ?_)
 refine L.storeA (j := 3) rfl rfl rfl rfl rfl (Nat.zero_lt_succ _) rfl rfl ?_; refine Lpu rfl rfl ?_; refine L.nil (QE.seq (C.seq (C.region ?_))); refine Lpu rfl rfl ?_; refine L.call (js := []) (js' := [0, 1, 2, 3]) (lift3_c NB new nc (by omega)) rfl rfl rfl (by decide) (Hq [1] rfl) rfl ?_
 rintro _ _ _ ⟨W2, M2, L2, w2, m2, l2, rfl, rfl, rfl⟩
 refine L.norm (H' := [_, _, _, _, _, _, _]) [0, 1, 2, 3, 4, 5, 6] ⟨rfl, rfl, rfl, rfl, rfl, rfl, rfl, trivial⟩ (by decide) ?_; refine Lpu rfl rfl ?_; refine Lpu rfl rfl ?_; refine Lpu rfl rfl ?_
 refine L.alloc rfl rfl rfl (fun A8 => ?_)
 refine L.storeA (j := 7) rfl rfl rfl rfl rfl (Nat.zero_lt_succ _) rfl rfl ?_; refine Lpu rfl rfl ?_; refine L.nil (QE.seq (C.seq (C.seq (C.region ?_)))); refine Lpu rfl rfl ?_; refine Lpu rfl rfl ?_; refine Lpu rfl rfl ?_
 refine L.bool 22 rfl (fun hg22 => ?_) (fun hg22 => ?_)
 ·
  replace hg22 := b_ne hg22
  refine L.no rfl rfl rfl ?_; refine L.no rfl rfl rfl ?_; refine Lpu rfl rfl ?_; refine L.nil (QE.seq ?_)
  refine C.cond rfl (fun _ => ?_) (fun h => by cases h)
  refine C.seq (C.region ?_); refine Lpu rfl rfl ?_; refine Lpu rfl rfl ?_; refine L.nil (QE.seq (C.ret (QE.tR ?_))); refine QE.ret (js := []) (hs := []) (vs := [_, _]) rfl ⟨rfl, rfl, trivial⟩ (by decide) ?_
  exact ⟨rfl, rfl, rfl⟩
 ·
  replace hg22 := b_eq hg22
  refine L.yes rfl ?_; refine Lpu rfl rfl ?_; refine L.yes rfl ?_; refine Lpu rfl rfl ?_; refine Lpu rfl rfl ?_; refine L.nil (QE.seq ?_)
  refine C.condB 25 rfl (fun hc25 => ?_) (fun hc25 => ?_)
  ·
   replace hc25 := b_ne hc25
   refine C.seq (C.region ?_); refine Lpu rfl rfl ?_; refine Lpu rfl rfl ?_; refine L.nil (QE.seq (C.ret (QE.tR ?_))); refine QE.ret (js := []) (hs := []) (vs := [_, _]) rfl ⟨rfl, rfl, trivial⟩ (by decide) ?_
   exact ⟨rfl, rfl, rfl⟩
  ·
   replace hc25 := b_eq hc25
   omega

theorem formsM_c (OB NB : Option Addr) (old new : List UInt8) (oc nc : Nat) (ho : old.length ≤ 65536) (hn : new.length ≤ 65536) (hE : liftE old = 0 ∧ liftE new = 0) :
   Ctr X 36 [.slice OB old.length oc, .slice NB new.length nc] [Rd OB (U8 old), Rd NB (U8 new)] [] (fun v R' H' => ∃ (T F1 F2 : Option Addr) (f1 f2 : Nat), v = .tuple #[.slice T 2 2, .int .i64 0] ∧ R' = [] ∧ H' = [Own 22 1 T 2 2 [.slice F1 (formF (liftR old)).length f1, .slice F2 (formF (liftR new)).length f2], Own 5 1 F1 (formF (liftR old)).length f1 (U8 (formF (liftR old))), Own 5 1 F2 (formF (liftR new)).length f2 (U8 (formF (liftR new)))]) := by
 refine Ctr.of (X := X) (fn := Tryz.f36) Tryz.func36 rfl (by kernel_rfl) rfl ?_
 intro β
 refine C.seq (C.region ?_); refine Lpu rfl rfl ?_; refine Lpu rfl rfl ?_; refine L.nil (QE.seq (C.seq (C.region ?_))); refine Lpu rfl rfl ?_; refine L.call (js := []) (js' := []) (lift3_c OB old oc (by omega)) rfl rfl rfl (by decide) (Hq [0] rfl) rfl ?_
 rintro _ _ _ ⟨W1, M1, L1, w1, m1, l1, rfl, rfl, rfl⟩
 refine L.norm (H' := [_, _, _]) [0, 1, 2] ⟨rfl, rfl, rfl, trivial⟩ (by decide) ?_; refine Lpu rfl rfl ?_; refine Lpu rfl rfl ?_; refine Lpu rfl rfl ?_
 refine L.alloc rfl rfl rfl (fun A6 => ?_)
 refine L.storeA (j := 3) rfl rfl rfl rfl rfl (Nat.zero_lt_succ _) rfl rfl ?_; refine Lpu rfl rfl ?_; refine L.nil (QE.seq (C.seq ?_)); refine C.freeze 0 rfl [1, 2, 3] (by decide) (by decide) ?_; refine C.norm (H' := [_, _, _]) [0, 1, 2] ⟨rfl, rfl, rfl, trivial⟩ (by decide) ?_; refine C.freeze 0 rfl [1, 2] (by decide) (by decide) ?_; refine C.norm (H' := [_, _]) [0, 1] ⟨rfl, rfl, trivial⟩ (by decide) ?_; refine C.freeze 0 rfl [1] (by decide) (by decide) ?_; refine C.norm (H' := [_]) [0] ⟨rfl, trivial⟩ (by decide) ?_; refine C.region ?_; refine Lpu rfl rfl ?_; refine L.call (js := []) (js' := [0]) (lift3_c NB new nc (by omega)) rfl rfl rfl (by decide) (Hq [4] rfl) rfl ?_
 rintro _ _ _ ⟨W2, M2, L2, w2, m2, l2, rfl, rfl, rfl⟩
 refine L.norm (H' := [_, _, _, _]) [0, 1, 2, 3] ⟨rfl, rfl, rfl, rfl, trivial⟩ (by decide) ?_; refine Lpu rfl rfl ?_; refine Lpu rfl rfl ?_; refine Lpu rfl rfl ?_
 refine L.alloc rfl rfl rfl (fun A8 => ?_)
 refine L.storeA (j := 4) rfl rfl rfl rfl rfl (Nat.zero_lt_succ _) rfl rfl ?_; refine Lpu rfl rfl ?_; refine L.nil (QE.seq (C.seq (C.seq ?_))); refine C.freeze 0 rfl [1, 2, 3, 4] (by decide) (by decide) ?_; refine C.norm (H' := [_, _, _, _]) [0, 1, 2, 3] ⟨rfl, rfl, rfl, rfl, trivial⟩ (by decide) ?_; refine C.freeze 0 rfl [1, 2, 3] (by decide) (by decide) ?_; refine C.norm (H' := [_, _, _]) [0, 1, 2] ⟨rfl, rfl, rfl, trivial⟩ (by decide) ?_; refine C.freeze 0 rfl [1, 2] (by decide) (by decide) ?_; refine C.norm (H' := [_, _]) [0, 1] ⟨rfl, rfl, trivial⟩ (by decide) ?_; refine C.region ?_; refine Lpu rfl rfl ?_; refine Lpu rfl rfl ?_; refine Lpu rfl rfl ?_
 refine L.bool 22 rfl (fun hg22 => ?_) (fun hg22 => ?_)
 ·
  replace hg22 := b_ne hg22
  omega
 ·
  replace hg22 := b_eq hg22
  refine L.yes rfl ?_; refine Lpu rfl rfl ?_; refine L.yes rfl ?_; refine Lpu rfl rfl ?_; refine Lpu rfl rfl ?_; refine L.nil (QE.seq ?_)
  refine C.condB 25 rfl (fun hc25 => ?_) (fun hc25 => ?_)
  ·
   replace hc25 := b_ne hc25
   omega
  ·
   replace hc25 := b_eq hc25
   refine C.skip (QE.seq (C.seq ?_)); refine C.regionM [Rd A6 [.slice W1 (liftR old).ws.length w1, .slice M1 (liftR old).ms.length m1, .slice L1 (liftR old).ls.length l1], Rd A8 [.slice W2 (liftR new).ws.length w2, .slice M2 (liftR new).ms.length m2, .slice L2 (liftR new).ls.length l2]] ⟨Has.o 0 rfl, Has.o 1 rfl, trivial⟩ ?_; refine LM.q 0 rfl (by kernel_rfl) (Ev.loadA (vs := [.slice W1 (liftR old).ws.length w1, .slice M1 (liftR old).ms.length m1, .slice L1 (liftR old).ls.length l1]) rfl rfl rfl (Src.r 0 rfl) rfl rfl (by decide)) rfl ⟨Has.o 0 rfl, Has.o 1 rfl, trivial⟩ ?_; refine LM.q 2 rfl (by kernel_rfl) (Ev.loadA (vs := [.slice W2 (liftR new).ws.length w2, .slice M2 (liftR new).ms.length m2, .slice L2 (liftR new).ls.length l2]) rfl rfl rfl (Src.r 1 rfl) rfl rfl (by decide)) rfl ⟨Has.o 0 rfl, Has.o 1 rfl, trivial⟩ ?_; refine LM.f 1 rfl (by kernel_rfl) ⟨Has.o 0 rfl, Has.o 1 rfl, trivial⟩ ?_; refine L.call (js := []) (js' := [0, 1]) (form3_c W1 M1 L1 w1 m1 l1 (liftR old) (by have := (liftR_lens old).1; omega) (by have := (liftR_lens old).2.1; omega) (by have := (liftR_lens old).2.2; omega) (liftR_w32 old) (liftR_marks old) liftR_asc) rfl rfl rfl (by decide) (Hq [5, 4, 3] rfl) rfl ?_
   rintro _ _ _ ⟨F1, f1, rfl, rfl, rfl⟩
   refine L.norm (H' := [_, _, _]) [0, 1, 2] ⟨rfl, rfl, rfl, trivial⟩ (by decide) ?_
   refine L.nil (QE.m (by kernel_rfl) ?_)
   refine LM.cut [] (by kernel_rfl) ⟨Has.o 1 rfl, Has.o 2 rfl, trivial⟩ ?_; refine LM.f 3 rfl (by kernel_rfl) trivial ?_; refine L.call (js := []) (js' := [0, 1, 2]) (form3_c W2 M2 L2 w2 m2 l2 (liftR new) (by have := (liftR_lens new).1; omega) (by have := (liftR_lens new).2.1; omega) (by have := (liftR_lens new).2.2; omega) (liftR_w32 new) (liftR_marks new) liftR_asc) rfl rfl rfl (by decide) (Hq [2, 1, 0] rfl) rfl ?_
   rintro _ _ _ ⟨F2, f2, rfl, rfl, rfl⟩
   refine L.norm (H' := [_, _, _, _]) [0, 1, 2, 3] ⟨rfl, rfl, rfl, rfl, trivial⟩ (by decide) ?_
   refine L.nil (QE.m (by kernel_rfl) ?_)
   refine LM.f 4 rfl (by kernel_rfl) trivial ?_
   refine L.lit rfl rfl rfl rfl rfl (by rfl) (by rfl) (by rfl) rfl rfl (fun A30 => ?_)
   refine L.nil (QE.m (by kernel_rfl) ?_)
   refine LM.f 5 rfl (by kernel_rfl) trivial ?_; refine Lpu rfl rfl ?_
   refine L.nil (QE.m (by kernel_rfl) ?_)
   refine LM.f 6 rfl (by kernel_rfl) trivial ?_; refine Lpu rfl rfl ?_
   refine L.nil (QE.m (by kernel_rfl) ?_)
   refine LM.nil (by kernel_rfl) trivial ?_; refine QE.seq (C.ret ?_); refine QE.ret (js := []) (hs := [4, 1, 0]) (vs := [_, _]) rfl ⟨rfl, rfl, trivial⟩ (by decide) ?_
   exact ⟨A30, F1, F2, f1, f2, rfl, rfl, rfl⟩

theorem code7E_c (OB NB : Option Addr) (old new : List UInt8) (oc nc : Nat) (ho : old.length ≤ 65536) (hn : new.length ≤ 65536) (hE : liftE old ≠ 0 ∨ liftE new ≠ 0) :
   Ctr X 14 [.slice OB old.length oc, .slice NB new.length nc] [Rd OB (U8 old), Rd NB (U8 new)] [] (fun v R' H' => v = .agg (List.toArray [.int .i64 0, .int .i64 30]) ∧ R' = [] ∧ H' = []) := by
 refine Ctr.of (X := X) (fn := Tryz.f14) Tryz.func14 rfl (by kernel_rfl) rfl ?_
 intro β
 refine C.seq (C.region ?_)
 refine L.alloc rfl rfl rfl (fun A4 => ?_)
 refine L.nil (QE.seq (C.seq (C.region ?_))); refine Lpu rfl rfl ?_; refine Lpu rfl rfl ?_; refine L.call (js := []) (js' := [0]) (formsE_c OB NB old new oc nc ho hn hE) rfl rfl rfl (by decide) (Hq [0, 1] rfl) rfl ?_
 rintro _ _ _ ⟨rfl, rfl, rfl⟩
 refine L.norm (H' := [_]) [0] ⟨rfl, trivial⟩ (by decide) ?_; refine Lpu rfl rfl ?_; refine Lpu rfl rfl ?_; refine Lpu rfl rfl ?_; refine Lpu rfl rfl ?_; refine Lpu rfl rfl ?_; refine L.nil (QE.seq (C.seq (C.seq (C.region ?_)))); refine Lpu rfl rfl ?_; refine Lpu rfl rfl ?_; refine L.nil (QE.seq ?_)
 refine C.condB 14 rfl (fun hc14 => ?_) (fun hc14 => ?_)
 ·
  replace hc14 := b_ne hc14
  refine C.seq (C.region ?_); refine Lpu rfl rfl ?_; refine L.step (Ev.build rfl rfl rfl rfl rfl rfl rfl) rfl ?_; refine L.storeA (j := 0) rfl rfl rfl rfl rfl (Nat.zero_lt_succ _) rfl rfl ?_; refine L.nil (QE.seq (C.ret (QE.tR ?_))); refine QE.ret (js := []) (hs := []) (vs := [_]) rfl ⟨⟨_, _, 0, _, rfl, rfl, Src.o 0 rfl, .inl ⟨rfl, by decide, _, rfl, rfl, rfl⟩⟩, trivial⟩ (by decide) ?_
  exact ⟨rfl, rfl, rfl⟩
 ·
  replace hc14 := b_eq hc14
  cases hc14

theorem code7M_c (OB NB : Option Addr) (old new : List UInt8) (oc nc : Nat) (ho : old.length ≤ 65536) (hn : new.length ≤ 65536) (hE : liftE old = 0 ∧ liftE new = 0) (hfo : (formF (liftR old)).length ≤ 65536) (hfn : (formF (liftR new)).length ≤ 65536) :
   Ctr X 14 [.slice OB old.length oc, .slice NB new.length nc] [Rd OB (U8 old), Rd NB (U8 new)] [] (fun v R' H' => v = .agg (List.toArray [.int .i64 (refL (formF (liftR old)) (formF (liftR new)) : Int), .int .i64 0]) ∧ R' = [] ∧ H' = []) := by
 refine Ctr.of (X := X) (fn := Tryz.f14) Tryz.func14 rfl (by kernel_rfl) rfl ?_
 intro β
 refine C.seq (C.region ?_)
 refine L.alloc rfl rfl rfl (fun A4 => ?_)
 refine L.nil (QE.seq (C.seq (C.region ?_))); refine Lpu rfl rfl ?_; refine Lpu rfl rfl ?_; refine L.call (js := []) (js' := [0]) (formsM_c OB NB old new oc nc ho hn hE) rfl rfl rfl (by decide) (Hq [0, 1] rfl) rfl ?_
 rintro _ _ _ ⟨T, F1, F2, f1, f2, rfl, rfl, rfl⟩
 refine L.norm (H' := [_, _, _, _]) [0, 1, 2, 3] ⟨rfl, rfl, rfl, rfl, trivial⟩ (by decide) ?_; refine Lpu rfl rfl ?_; refine Lpu rfl rfl ?_; refine Lpu rfl rfl ?_; refine Lpu rfl rfl ?_; refine Lpu rfl rfl ?_; refine L.nil (QE.seq (C.seq (C.seq (C.region ?_)))); refine Lpu rfl rfl ?_; refine Lpu rfl rfl ?_; refine L.nil (QE.seq ?_)
 refine C.condB 14 rfl (fun hc14 => ?_) (fun hc14 => ?_)
 ·
  replace hc14 := b_ne hc14
  exact absurd rfl hc14
 ·
  replace hc14 := b_eq hc14
  refine C.skip (QE.seq (C.seq ?_))
  refine C.capO 2 rfl (fun hf2 => ?_)
  refine C.regionM [Rd T [.slice F1 (formF (liftR old)).length f1, .slice F2 (formF (liftR new)).length f2]] ⟨Has.o 0 rfl, trivial⟩ ?_; refine LM.q 0 rfl (by kernel_rfl) (Ev.pure rfl) rfl ⟨Has.o 0 rfl, trivial⟩ ?_; refine LM.q 1 rfl (by kernel_rfl) (Ev.idx1 (k := 0) rfl rfl rfl rfl rfl rfl rfl (by decide) (Src.r 0 rfl) (Nat.zero_lt_succ _)) rfl ⟨Has.o 0 rfl, trivial⟩ ?_; refine LM.q 2 rfl (by kernel_rfl) (Ev.load rfl rfl rfl (Src.r 0 rfl) rfl) rfl ⟨Has.o 0 rfl, trivial⟩ ?_; refine LM.f 3 rfl (by kernel_rfl) ⟨Has.o 0 rfl, trivial⟩ ?_; refine Lpu rfl rfl ?_
  refine L.nil (QE.m (by kernel_rfl) ?_)
  refine LM.f 4 rfl (by kernel_rfl) ⟨Has.o 0 rfl, trivial⟩ ?_; refine L.step (Ev.idx1 (k := 1) rfl rfl rfl rfl rfl rfl rfl (by decide) (Src.o 0 rfl) (Nat.zero_lt_succ _)) rfl ?_
  refine L.nil (QE.m (by kernel_rfl) ?_)
  refine LM.f 5 rfl (by kernel_rfl) ⟨Has.o 0 rfl, trivial⟩ ?_; refine L.step (Ev.load rfl rfl rfl (Src.o 0 rfl) rfl) rfl ?_
  refine L.nil (QE.m (by kernel_rfl) ?_)
  refine LM.cut [] (by kernel_rfl) ⟨Has.o 0 rfl, trivial⟩ ?_; refine LM.f 6 rfl (by kernel_rfl) trivial ?_; refine L.call (js := []) (js' := [0, 1, 2, 3]) (plain7_c F1 F2 (formF (liftR old)) (formF (liftR new)) f1 f2 hfo hfn hf2) rfl rfl rfl (by decide) ⟨(Has.o 1 rfl), (Has.o 2 rfl), trivial⟩ rfl ?_
  rintro _ _ _ ⟨rfl, rfl, rfl⟩
  refine L.norm (H' := [_, _, _, _]) [0, 1, 2, 3] ⟨rfl, rfl, rfl, rfl, trivial⟩ (by decide) ?_
  refine L.nil (QE.m (by kernel_rfl) ?_)
  refine LM.f 7 rfl (by kernel_rfl) trivial ?_; refine L.storeA (j := 3) rfl rfl rfl rfl rfl (Nat.zero_lt_succ _) rfl rfl ?_
  refine L.nil (QE.m (by kernel_rfl) ?_)
  refine LM.nil (by kernel_rfl) trivial ?_; refine QE.seq (C.ret ?_); refine QE.ret (js := []) (hs := []) (vs := [_]) rfl ⟨⟨_, _, 0, _, rfl, rfl, Src.o 3 rfl, .inl ⟨rfl, by decide, _, rfl, rfl, rfl⟩⟩, trivial⟩ (by decide) ?_
  exact ⟨rfl, rfl, rfl⟩

end Go.Proofs.YtbkmahjhhncfcaaGreat
end
/-
  Moved code of the reference, and code that is made of descriptions, as plain lists.
-/
section
namespace Go.Sl

/-! ### Rows of four bytes -/
def r4 (r : List UInt8) : List UInt8 := [r.getD 0 0, r.getD 1 0, r.getD 2 0, r.getD 3 0]
def u4 (r : List UInt8) : List Value := U8 (r4 r)
theorem u4_len (r : List UInt8) : (u4 r).length = 4 := rfl
theorem u4_get (r : List UInt8) {q : Nat} (h : q < 4) : (u4 r)[q]? = some (.int .u8 ((r.getD q 0).toNat : Int)) := by
 match q, h with
 | 0, _ => rfl
 | 1, _ => rfl
 | 2, _ => rfl
 | 3, _ => rfl
def frV (l : List (List UInt8)) : List Value := l.flatMap u4
theorem frV_len (l : List (List UInt8)) : (frV l).length = l.length * 4 := by
 induction l with
 | nil => rfl
 | cons x l ih =>
   unfold frV at ih ⊢
   rw [List.flatMap_cons, List.length_append, ih, u4_len, List.length_cons]
   omega
theorem frV_at (l : List (List UInt8)) (k : Nat) (hk : k < l.length) : ((frV l).drop (k * 4)).take 4 = u4 (l.getD k []) := by
 induction l generalizing k with
 | nil => cases hk
 | cons x l ih =>
   have e : frV (x :: l) = u4 x ++ frV l := rfl
   rw [e]
   cases k with
   | zero =>
     rw [Nat.zero_mul, List.drop_zero, List.take_append_of_le_length (by rw [u4_len]; decide), List.take_of_length_le (by rw [u4_len]; decide)]
     rfl
   | succ k =>
     have hd : (u4 x ++ frV l).drop ((k + 1) * 4) = (frV l).drop (k * 4) := by
       rw [show (k + 1) * 4 = (u4 x).length + k * 4 by rw [u4_len]; omega, ← List.drop_drop, List.drop_left]
     rw [hd, ih k (by simpa using hk)]
     rfl
theorem frV_get (l : List (List UInt8)) {k q : Nat} (hk : k < l.length) (hq : q < 4) : (frV l)[k * 4 + q]? = some (.int .u8 (((l.getD k []).getD q 0).toNat : Int)) := by
 have h : (frV l)[k * 4 + q]? = (u4 (l.getD k []))[q]? := by rw [← frV_at l k hk, List.getElem?_take, if_pos hq, List.getElem?_drop]
 rw [h, u4_get _ hq]

/-! ### Code of descriptions -/
def cdO (r : List UInt8) : Nat := (r.getD 0 0).toNat % 16
def cdA (r : List UInt8) : Nat := if 7 ≤ cdO r then (r.getD 1 0).toNat % 16 else 0
def cdN (r : List UInt8) (z : Nat) : Int := 4 * ((((r.getD 2 0).toNat % (z + 2) : Nat) : Int) - 1)
def codW (z i : Nat) (r : List UInt8) : Nat :=
 if 5 ≤ cdO r ∧ cdO r ≤ 8 ∧ (encR (insT (cdO r) (cdA r) (cdN r z)) (4 * (i : Int))).2 = 0 then (encR (insT (cdO r) (cdA r) (cdN r z)) (4 * (i : Int))).1 else madeW r
def codN (l : List (List UInt8)) (z k : Nat) : List Nat := (List.range k).map fun i => codW z i (l.getD i [])
def codZ (l : List (List UInt8)) (n : Nat) : Nat := min l.length n
def codL (l : List (List UInt8)) (n : Nat) : List Nat := codN l (codZ l n) (codZ l n)
def codB (l : List (List UInt8)) (n : Nat) : List UInt8 := bytesF (codL l n)
theorem codN_succ (l : List (List UInt8)) (z k : Nat) : codN l z (k + 1) = codN l z k ++ [codW z k (l.getD k [])] := by simp [codN, List.range_succ]
theorem codN_len (l : List (List UInt8)) (z k : Nat) : (codN l z k).length = k := by simp [codN]
theorem codW_lt (z i : Nat) (r : List UInt8) : codW z i r < 4294967296 := by
 unfold codW
 split
 · exact encR_lt
 · exact madeW_lt r
theorem codL_w32 (l : List (List UInt8)) (n : Nat) : W32 (codL l n) := W32.of fun x hx => by
 obtain ⟨i, _, rfl⟩ := List.mem_map.1 hx
 exact codW_lt _ _ _
theorem codL_len (l : List (List UInt8)) (n : Nat) : (codL l n).length ≤ n := by
 unfold codL
 rw [codN_len]
 exact Nat.min_le_right _ _
end Go.Sl
end
