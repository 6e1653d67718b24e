/-
  A flash whose first bytes of a sector are others; two elements of some cells.
-/
import Derived.Test.YthfjkdgopkmgoaaUPx
namespace Go.Sl

section
variable {X : Cx} {β : Base} {n : Nat} {ds : List Deferred} {ops : Array Oper} {Q : Exit → Act → World → Prop} {Γ : Env} {R H : List Pr} {rest : List Oper}
/-- []T{x, y}, elements of some cells. -/
theorem L.lit2A {d t e ty sz : Nat} {pos : String} {af : Array Edge} {x y : Operand} {cs cs' : List Value} {i ei : Ti} (ht : tlook t X.tab = some i) (hdesc : i.desc = .slice e) (he : tlook e X.tab = some ei) (hsz : ei.size = sz) (h1 : cs.length = sz) (h2 : cs'.length = sz) (hpos : 0 < sz) (hsmall : Nat.ble sz 1000 = true)
    (hx : ev Γ x = some (.agg (List.toArray cs))) (hy : ev Γ y = some (.agg (List.toArray cs'))) (hd : Nat.blt d n = true) (k : ∀ A, L X β n ds ops Q rest ((d, .slice A 2 2) :: Γ) R (H ++ [Own e sz A 2 2 (cs ++ cs')])) :
    L X β n ds ops Q (⟨some d, .buildSlice t 2 #[(0, x), (1, y)], ty, pos, af, none⟩ :: rest) Γ R H := by
  have hsm : sz ≤ 1000 := by simpa using hsmall
  refine L.mk hd e sz 2 (cs ++ cs') (by unfold maxLen; omega) (by rw [List.length_append]; omega) (fun A => .slice A 2 2) ?_ k
  intro ρ w hρ hs o ho
  obtain ⟨e1, _⟩ := X.ok _ _ ht
  rw [hdesc] at e1
  have hS := run_sizeOf' (P := X.P) w (X.ok _ _ he)
  obtain ⟨_, j, hj, q1, q2, q3⟩ := X.ok _ _ he
  have hz : (zeroValue e).run X.P w = .ok ei.zero w := by simp [zeroValue, typeInfo, hj, q3]
  have hbig : ¬ (2 * sz > 2 ^ 24) := by omega
  have hz1 : ¬ (2 * sz = 0) := by omega
  have hf : Instr.fill (fun i => some (i * sz, sz)) ((Array.range (2 * sz)).map (ei.zero.cells[· % ei.zero.cells.size]!)) [(0, .agg (List.toArray cs)), (1, .agg (List.toArray cs'))] = some (List.toArray (cs ++ cs')) := by
    have hZ : ((Array.range (2 * sz)).map (ei.zero.cells[· % ei.zero.cells.size]!)).toList.length = 2 * sz := by simp
    generalize (Array.range (2 * sz)).map (ei.zero.cells[· % ei.zero.cells.size]!) = Z at hZ
    rw [show Z = List.toArray Z.toList from by simp]
    refine bfill_ok _ _ _ ?_
    obtain ⟨ls, hls⟩ : ∃ ls, ls = Z.toList := ⟨_, rfl⟩
    rw [← hls] at hZ ⊢
    simp [bfill, putCells, h1, h2, hZ]
    refine ⟨by omega, by omega, ?_⟩
    omega
  have hp : (#[(0, x), (1, y)] : Array (Nat × Operand)).map (fun (i, x) => (i, ρ x)) = #[(0, .agg (List.toArray cs)), (1, .agg (List.toArray cs'))] := by simp [hρ _ _ hx, hρ _ _ hy]
  simp only [execOp, ho, Instr.buildSlice, Sem.run_bind, run_underlying e1, Result.andThen_ok, hS, hsz, if_neg hbig, if_neg hz1, hz, Sem.run_pure, hp, hf]
  simp [newRow]
end

/-- The first bytes of a sector are others. -/
def fillB (f : Fl) (u : Nat) (b : List UInt8) (k : Nat) : Fl := ⟨f.size, f.data.set u (b.take k ++ (f.data.getD u []).drop k), f.wear, f.limit, f.dead⟩
theorem fillB_zero (f : Fl) (u : Nat) (b : List UInt8) : (fillB f u b 0).data = f.data := by
  unfold fillB
  dsimp only
  rw [List.take_zero, List.nil_append, List.drop_zero, set_getD]
theorem fillB_row {f : Fl} {u k : Nat} {b : List UInt8} (hu : u < f.data.length) : (fillB f u b k).data.getD u [] = b.take k ++ (f.data.getD u []).drop k := getD_set_eq hu _ _
theorem fillB_row_len {f : Fl} {u k : Nat} {b : List UInt8} (hb : k ≤ b.length) (hk : k ≤ (f.data.getD u []).length) : (b.take k ++ (f.data.getD u []).drop k).length = (f.data.getD u []).length := by
  rw [List.length_append, List.length_take, List.length_drop]
  omega
theorem fillB_dl {f : Fl} {u k : Nat} {b : List UInt8} : (fillB f u b k).data.length = f.data.length := List.length_set
theorem fillB_ok {f : Fl} {u k : Nat} {b : List UInt8} (ok : f.Ok) (hu : u < f.data.length) (hb : k ≤ b.length) (hk : k ≤ f.size) : (fillB f u b k).Ok := by
  have hr := ok.rows u hu
  refine ⟨ok.s1, ok.s2, by rw [fillB_dl]; exact ok.n1, by rw [fillB_dl]; exact ok.n2, by rw [fillB_dl]; exact ok.wl, by rw [fillB_dl]; exact ok.dl, fun i hi => ?_, ok.l1, ok.l2, fun i hi => ok.wear i (by rwa [fillB_dl] at hi)⟩
  rw [fillB_dl] at hi
  by_cases h : u = i
  · subst h
    rw [fillB_row hu, fillB_row_len hb (by omega)]
    exact hr
  · show ((f.data.set u _).getD i []).length = f.size
    rw [getD_set_ne h]
    exact ok.rows i hi
theorem fillB_rows {hs : List Hd} {f : Fl} {u k : Nat} {b : List UInt8} (h : hs.length = f.data.length) (hu : u < f.data.length) (hb : k ≤ b.length) (hk : k ≤ (f.data.getD u []).length) : rowsV hs (B8 (fillB f u b k).data) = rowsV hs (B8 f.data) :=
  rowsV_set h hu (fillB_row_len hb hk)
theorem fillB_step {b r : List UInt8} {k : Nat} (hb : k < b.length) (hr : k < r.length) : (b.take k ++ r.drop k).set k (b.getD k 0) = b.take (k + 1) ++ r.drop (k + 1) := by
  rw [List.set_append_right _ _ (by rw [List.length_take]; omega), List.length_take, show k - min k b.length = 0 from by omega, List.drop_eq_getElem_cons hr, List.set_cons_zero, take_snoc' b 0 k hb]
  simp
theorem fillB_next {f : Fl} {u k : Nat} {b : List UInt8} (hu : u < f.data.length) (hb : k < b.length) (hr : k < (f.data.getD u []).length) : (B8 (fillB f u b k).data).set u (((B8 (fillB f u b k).data).getD u []).set k (.int .u8 ((b.getD k 0).toNat : Int))) = B8 (fillB f u b (k + 1)).data := by
  rw [B8_get, U8_set, B8_set, fillB_row hu, fillB_step hb hr]
  unfold fillB
  dsimp only
  rw [List.set_set]
theorem UOk.of {f g : Fl} {us : List Int} (h : UOk f us) (hl : g.data.length = f.data.length) : UOk g us := ⟨h.l, fun s hs => by rw [hl]; exact h.r s hs⟩
theorem Caps.of {f g : Fl} {a : Fa} (h : Caps f a) (hl : g.data.length = f.data.length) (hz : g.size = f.size) : Caps g a := fun i hi => by rw [hz]; exact h i (by rwa [hl] at hi)
end Go.Sl
