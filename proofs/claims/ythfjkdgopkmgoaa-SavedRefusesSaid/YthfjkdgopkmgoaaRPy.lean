/-
  A flash whose first bytes of a sector are others; two elements of some cells.
-/
import Derived.Test.YthfjkdgopkmgoaaRPx
namespace Go.Sl

section
variable {X : Cx} {β : Base} {n : Nat} {ds : List Deferred} {ops : Array Oper} {Q : Exit → Act → World → Prop} {Γ : Env} {R H : List Pr} {rest : List Oper}
/-- []T{x, y}, elements of some cells. -/
theorem L.lit2A {d t e ty sz : Nat} {pos : String} {af : Array Edge} {x y : Operand} {cs cs' : List Value} {i ei : Ti} (ht : tlook t X.tab = some i) (hdesc : i.desc = .slice e) (he : tlook e X.tab = some ei) (hsz : ei.size = sz) (h1 : cs.length = sz) (h2 : cs'.length = sz) (hpos : 0 < sz) (hsmall : Nat.ble sz 1000 = true)
    (hx : ev Γ x = some (.agg (List.toArray cs))) (hy : ev Γ y = some (.agg (List.toArray cs'))) (hd : Nat.blt d n = true) (k : ∀ A, L X β n ds ops Q rest ((d, .slice A 2 2) :: Γ) R (H ++ [Own e sz A 2 2 (cs ++ cs')])) :
    L X β n ds ops Q (⟨some d, .buildSlice t 2 #[(0, x), (1, y)], ty, pos, af, none⟩ :: rest) Γ R H := by
  have hsm : sz ≤ 1000 := by simpa using hsmall
  refine L.mk hd e sz 2 (cs ++ cs') (by unfold maxLen; omega) (by rw [List.length_append]; omega) (fun A => .slice A 2 2) ?_ k
  intro ρ w hρ hs o ho
  obtain ⟨e1, _⟩ := X.ok _ _ ht
  rw [hdesc] at e1
  have hS := run_sizeOf' (P := X.P) w (X.ok _ _ he)
  obtain ⟨_, j, hj, q1, q2, q3⟩ := X.ok _ _ he
  have hz : (zeroValue e).run X.P w = .ok ei.zero w := by simp [zeroValue, typeInfo, hj, q3]
  have hbig : ¬ (2 * sz > 2 ^ 24) := by omega
  have hz1 : ¬ (2 * sz = 0) := by omega
  have hf : Instr.fill (fun i => some (i * sz, sz)) ((Array.range (2 * sz)).map (ei.zero.cells[· % ei.zero.cells.size]!)) [(0, .agg (List.toArray cs)), (1, .agg (List.toArray cs'))] = some (List.toArray (cs ++ cs')) := by
    have hZ : ((Array.range (2 * sz)).map (ei.zero.cells[· % ei.zero.cells.size]!)).toList.length = 2 * sz := by simp
    generalize (Array.range (2 * sz)).map (ei.zero.cells[· % ei.zero.cells.size]!) = Z at hZ
    rw [show Z = List.toArray Z.toList from by simp]
    refine bfill_ok _ _ _ ?_
    obtain ⟨ls, hls⟩ : ∃ ls, ls = Z.toList := ⟨_, rfl⟩
    rw [← hls] at hZ ⊢
    simp [bfill, putCells, h1, h2, hZ]
    refine ⟨by omega, by omega, ?_⟩
    omega
  have hp : (#[(0, x), (1, y)] : Array (Nat × Operand)).map (fun (i, x) => (i, ρ x)) = #[(0, .agg (List.toArray cs)), (1, .agg (List.toArray cs'))] := by simp [hρ _ _ hx, hρ _ _ hy]
  simp only [execOp, ho, Instr.buildSlice, Sem.run_bind, run_underlying e1, Result.andThen_ok, hS, hsz, if_neg hbig, if_neg hz1, hz, Sem.run_pure, hp, hf]
  simp [newRow]
end

theorem UOk.of {f g : Fl} {us : List Int} (h : UOk f us) (hl : g.data.length = f.data.length) : UOk g us := ⟨h.l, fun s hs => by rw [hl]; exact h.r s hs⟩
theorem Caps.of {f g : Fl} {a : Fa} (h : Caps f a) (hl : g.data.length = f.data.length) (hz : g.size = f.size) : Caps g a := fun i hi => by rw [hz]; exact h i (by rwa [hl] at hi)
end Go.Sl
