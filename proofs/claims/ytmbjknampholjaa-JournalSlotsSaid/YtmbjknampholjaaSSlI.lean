/-
  The small separation logic: new bytes of no given content; slices with a given room; lists of rows that grow.
-/
import Derived.Lib.MakeNoZero
import Derived.Laws.Externs
import Derived.Test.YtmbjknampholjaaSSlH
namespace Go.Sl
section
variable {X : Cx} {β : Base} {n : Nat} {ds : List Deferred} {ops : Array Oper} {Q : Exit → Act → World → Prop} {rest : List Oper} {Γ : Env} {R H : List Pr}

/-- s[:h:z] -/
theorem Ev.sliceHM {t e n c h m : Nat} {x y z : Operand} {kd kd' : IntKind} {q q' : Int} {i ei : Ti} {A : Option Addr} (ht : tlook t X.tab = some i) (hd : i.desc = .slice e) (he : tlook e X.tab = some ei) (hx : ev Γ x = some (.slice A n c))
    (hy : ev Γ y = some (.int kd q)) (hz : ev Γ z = some (.int kd' q')) (hq : q = (h : Int)) (hq' : q' = (m : Int)) (hh : h ≤ m) (hm : m ≤ c) : Ev X β Γ R H (.slice t x none (some y) (some z)) (.slice A h m) := by
  intro ρ w hρ hw o ho
  have e1 := (X.ok _ _ ht).und
  rw [hd] at e1
  have hS := run_sizeOf' (P := X.P) w (X.ok _ _ he)
  subst hq hq'
  have hA' : A.map (fun a => a.add 0) = A := by cases A <;> simp [Addr.add]
  simp [execOp, ho, hρ _ _ hx, hρ _ _ hy, hρ _ _ hz, Instr.sliceAt, Instr.slice, Instr.sliceBounds, Instr.sliceBound, asIntOf, run_underlying e1, hS, hh, hm, hA']

theorem digits_bytes : ∀ (n t : Nat) (acc : Array Value) (ys : List UInt8), acc.toList = U8 ys → ∃ zs : List UInt8, (Extern.BytealgMakeNoZero.digits n t acc).toList = U8 zs
  | 0, _, acc, ys, h => ⟨ys, h⟩
  | n + 1, t, acc, ys, h => by
    rw [Extern.BytealgMakeNoZero.digits]
    refine digits_bytes n (t / 256) _ (ys ++ [UInt8.ofNat (t % 256)]) ?_
    rw [Array.toList_push, h, ← U8_app]
    congr 1
    simp [U8]

theorem run_makeNoZero8 {P : Program} (w : World) (ps : Array TypeId) (t e : TypeId) (ht : P.underlying t = some (.slice e)) (m : Nat) (hm : m ≤ 1099511627776) :
    ∃ (c : Nat) (zs : List UInt8), (Extern.BytealgMakeNoZero.makeNoZero ps #[t] #[.int .i64 m]).run P w = .ok (.slice (some ⟨w.heap.size, 0, none⟩) m c) (w.drew.drew.alloc (.cells (List.toArray (U8 zs)) e)) ∧ m ≤ c ∧ c ≤ maxLen ∧ zs.length = c := by
  have h1 : ¬ (m : Int) < 0 := by omega
  have h2 : ¬ (281474976710656 : Int) < (m : Int) := by omega
  obtain ⟨qn, s1, s2, hqf, hdef⟩ : ∃ (qn : Question) (s1 s2 : String), qn.forced = false ∧ Extern.BytealgMakeNoZero.makeNoZero ps #[t] #[.int .i64 m] =
      (do
        let .slice elem ← underlying t | stuck s1
        if (m : Int) < 0 || (m : Int) > 2 ^ 48 then runtimePanic (.error s2)
        let cap ← choose (.appendCap (m : Int).toNat 0 elem)
        askRoom cap
        let bytes ← choose qn
        let a ← newRow elem (Extern.BytealgMakeNoZero.digits cap bytes #[])
        pure (.slice (some a) (m : Int).toNat cap)) := ⟨_, _, _, rfl, rfl⟩
  obtain ⟨q, hq⟩ : ∃ q : Nat, (Extern.BytealgMakeNoZero.makeNoZero ps #[t] #[.int .i64 m]).run P w = .ok (.slice (some ⟨w.heap.size, 0, none⟩) m (grownCap w m 0 e)) (w.drew.drew.alloc (.cells (Extern.BytealgMakeNoZero.digits (grownCap w m 0 e) q #[]) e)) := by
    refine ⟨qn.cut (w.tape (w.drawn + 1) qn), ?_⟩
    rw [hdef]
    have hfa : (Question.appendCap m 0 e).forced = false := rfl
    simp [run_underlying ht, h1, h2, hqf, hfa, newRow, grownCap]
  obtain ⟨zs, hz⟩ := digits_bytes (grownCap w m 0 e) q #[] [] rfl
  have hsz := Lib.size_digits (grownCap w m 0 e) q #[]
  have hzl : zs.length = grownCap w m 0 e := by
    have := congrArg List.length hz
    rw [Array.length_toList, hsz, U8_len] at this
    simpa using this.symm
  exact ⟨grownCap w m 0 e, zs, by rw [← hz, hq], by simpa using grownCap_ge w m 0 e, grownCap_le_maxLen w m 0 e (by unfold maxLen; omega), hzl⟩

/-- bytealg.MakeNoZero(m): bytes of no given content. -/
theorem L.makeNoZero {d t e ty f m : Nat} {pos : String} {af : Array Edge} {x : Operand} {q : Int} {i : Ti} {fn : Func} {tys ps : Array TypeId} (hf : X.P.funcs[f]? = some fn) (hname : (fn.name == "runtime.NumGoroutine") = false) (hb : fn.body.isNone = true) (hn : Extern.findNext fn = none)
    (hex : Extern.find fn = some (Extern.BytealgMakeNoZero.makeNoZero ps #[t])) (ht : tlook t X.tab = some i) (hdesc : i.desc = .slice e) (hx : ev Γ x = some (.int .i64 q)) (hq : q = (m : Int)) (hm : m ≤ 1099511627776) (hd : Nat.blt d n = true)
    (k : ∀ A c (ys : List UInt8), m ≤ c → ys.length = m → L X β n ds ops Q rest ((d, .slice A m c) :: Γ) R (H ++ [Own e 1 A m c (U8 ys)])) :
    L X β n ds ops Q (⟨some d, .call ⟨.value (.func f), #[x], tys⟩, ty, pos, af, none⟩ :: rest) Γ R H := by
  intro a w hfr hs
  refine wpList_plain rfl fun K hK => ?_
  unfold Oper.wp
  obtain ⟨e1, _⟩ := X.ok _ _ ht
  rw [hdesc] at e1
  subst hq
  obtain ⟨c, zs, hr, h1, h2, h3⟩ := run_makeNoZero8 (P := X.P) w ps t e e1 m hm
  have hex' : (execOp a.eval ⟨some d, .call ⟨.value (.func f), #[x], tys⟩, ty, pos, af, none⟩).run X.P w = .ok (.value (.slice (some ⟨w.heap.size, 0, none⟩) m c)) (w.drew.drew.alloc (.cells (List.toArray (U8 zs)) e)) := by
    have hev := hfr.agree x _ hx
    have hfv := hfr.agree (.func f) (.func (.func f) #[] #[]) rfl
    have e2 : (#[x] : Array Operand).map a.eval = #[.int .i64 (m : Int)] := by simp [hev]
    have hc := run_callFunc_extern hf hname hb hn hex #[.int .i64 (m : Int)] w
    rw [hr] at hc
    simp only [execOp, resolve, hfv, Deferred.ofValue, invoke, Sem.run_bind, Sem.run_pure, Result.andThen_ok, e2]
    simpa using hc
  rw [hex']
  have hst : Stp w (w.drew.drew.alloc (.cells (List.toArray (U8 zs)) e)) (fun _ => False) :=
    (((Stp.drew w _).trans (Stp.drew _ _)).trans (Stp.alloc _ _ _))
  refine hK _ _ (k (some ⟨w.heap.size, 0, none⟩) c (zs.take m) h1 (by rw [List.length_take]; omega) _ _ (hfr.put (by simpa [Nat.blt_eq] using hd) _) (hs.snoc hst (fun _ h _ => h) _ ?_ ?_))
  · refine ⟨by rw [U8_len, List.length_take]; omega, .inr ⟨w.heap.size, c, List.toArray (U8 zs), rfl, Nat.zero_le _, ?_, h1, h2, by simp [U8_len, h3], ?_⟩⟩
    · show (w.drew.drew.heap.push _)[w.drew.drew.heap.size]? = _
      exact Array.getElem?_push_size
    · simp [U8, List.map_take]
  · intro k hk
    have := own_fp hk
    subst this
    exact ⟨by simp, Nat.le_refl _⟩

end
end Go.Sl
