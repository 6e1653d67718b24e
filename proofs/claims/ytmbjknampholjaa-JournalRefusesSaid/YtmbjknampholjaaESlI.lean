/-
  The small separation logic: new bytes of no given content; slices with a given room; lists of rows that grow.
-/
import Derived.Lib.MakeNoZero
import Derived.Laws.Externs
import Derived.Scope
import Derived.Test.YtmbjknampholjaaESlN
section
namespace Go.Sl
section
variable {X : Cx} {β : Base} {n : Nat} {ds : List Deferred} {ops : Array Oper} {Q : Exit → Act → World → Prop} {rest : List Oper} {Γ : Env} {R H : List Pr}

/-- s[:h:z] -/
theorem Ev.sliceHM {t e n c h m : Nat} {x y z : Operand} {kd kd' : IntKind} {q q' : Int} {i ei : Ti} {A : Option Addr} (ht : tlook t X.tab = some i) (hd : i.desc = .slice e) (he : tlook e X.tab = some ei) (hx : ev Γ x = some (.slice A n c))
   (hy : ev Γ y = some (.int kd q)) (hz : ev Γ z = some (.int kd' q')) (hq : q = (h : Int)) (hq' : q' = (m : Int)) (hh : h ≤ m) (hm : m ≤ c) : Ev X β Γ R H (.slice t x none (some y) (some z)) (.slice A h m) := by
 intro ρ w hρ hw o ho
 have e1 := (X.ok _ _ ht).und
 rw [hd] at e1
 have hS := run_sizeOf' (P := X.P) w (X.ok _ _ he)
 subst hq hq'
 have hA' : A.map (fun a => a.add 0) = A := by cases A <;> simp [Addr.add]
 simp [execOp, ho, hρ _ _ hx, hρ _ _ hy, hρ _ _ hz, Instr.sliceAt, Instr.slice, Instr.sliceBounds, Instr.sliceBound, asIntOf, run_underlying e1, hS, hh, hm, hA']

theorem digits_bytes : ∀ (n t : Nat) (acc : Array Value) (ys : List UInt8), acc.toList = U8 ys → ∃ zs : List UInt8, (Extern.BytealgMakeNoZero.digits n t acc).toList = U8 zs
 | 0, _, acc, ys, h => ⟨ys, h⟩
 | n + 1, t, acc, ys, h => by
   rw [Extern.BytealgMakeNoZero.digits]
   refine digits_bytes n (t / 256) _ (ys ++ [UInt8.ofNat (t % 256)]) ?_
   rw [Array.toList_push, h, ← U8_app]
   congr 1
   simp [U8]

theorem run_makeNoZero8 {P : Program} (w : World) (ps : Array TypeId) (t e : TypeId) (ht : P.underlying t = some (.slice e)) (m : Nat) (hm : m ≤ 1099511627776) :
   ∃ (c : Nat) (zs : List UInt8), (Extern.BytealgMakeNoZero.makeNoZero ps #[t] #[.int .i64 m]).run P w = .ok (.slice (some ⟨w.heap.size, 0, none⟩) m c) (w.drew.drew.alloc (.cells (List.toArray (U8 zs)) e)) ∧ m ≤ c ∧ c ≤ maxLen ∧ zs.length = c := by
 have h1 : ¬ (m : Int) < 0 := by omega
 have h2 : ¬ (281474976710656 : Int) < (m : Int) := by omega
 obtain ⟨qn, s1, s2, hqf, hdef⟩ : ∃ (qn : Question) (s1 s2 : String), qn.forced = false ∧ Extern.BytealgMakeNoZero.makeNoZero ps #[t] #[.int .i64 m] =
     (do
       let .slice elem ← underlying t | stuck s1
       if (m : Int) < 0 || (m : Int) > 2 ^ 48 then runtimePanic (.error s2)
       let cap ← choose (.appendCap (m : Int).toNat 0 elem)
       askRoom cap
       let bytes ← choose qn
       let a ← newRow elem (Extern.BytealgMakeNoZero.digits cap bytes #[])
       pure (.slice (some a) (m : Int).toNat cap)) := ⟨_, _, _, rfl, rfl⟩
 obtain ⟨q, hq⟩ : ∃ q : Nat, (Extern.BytealgMakeNoZero.makeNoZero ps #[t] #[.int .i64 m]).run P w = .ok (.slice (some ⟨w.heap.size, 0, none⟩) m (grownCap w m 0 e)) (w.drew.drew.alloc (.cells (Extern.BytealgMakeNoZero.digits (grownCap w m 0 e) q #[]) e)) := by
   refine ⟨qn.cut (w.tape (w.drawn + 1) qn), ?_⟩
   rw [hdef]
   have hfa : (Question.appendCap m 0 e).forced = false := rfl
   simp [run_underlying ht, h1, h2, hqf, hfa, newRow, grownCap]
 obtain ⟨zs, hz⟩ := digits_bytes (grownCap w m 0 e) q #[] [] rfl
 have hsz := Lib.size_digits (grownCap w m 0 e) q #[]
 have hzl : zs.length = grownCap w m 0 e := by
   have := congrArg List.length hz
   rw [Array.length_toList, hsz, U8_len] at this
   simpa using this.symm
 exact ⟨grownCap w m 0 e, zs, by rw [← hz, hq], by simpa using grownCap_ge w m 0 e, grownCap_le_maxLen w m 0 e (by unfold maxLen; omega), hzl⟩

/-- bytealg.MakeNoZero(m): bytes of no given content. -/
theorem L.makeNoZero {d t e ty f m : Nat} {pos : String} {af : Array Edge} {x : Operand} {q : Int} {i : Ti} {fn : Func} {tys ps : Array TypeId} (hf : X.P.funcs[f]? = some fn) (hname : (fn.name == "runtime.NumGoroutine") = false) (hb : fn.body.isNone = true) (hn : Extern.findNext fn = none)
   (hex : Extern.find fn = some (Extern.BytealgMakeNoZero.makeNoZero ps #[t])) (ht : tlook t X.tab = some i) (hdesc : i.desc = .slice e) (hx : ev Γ x = some (.int .i64 q)) (hq : q = (m : Int)) (hm : m ≤ 1099511627776) (hd : Nat.blt d n = true)
   (k : ∀ A c (ys : List UInt8), m ≤ c → ys.length = m → L X β n ds ops Q rest ((d, .slice A m c) :: Γ) R (H ++ [Own e 1 A m c (U8 ys)])) :
   L X β n ds ops Q (⟨some d, .call ⟨.value (.func f), #[x], tys⟩, ty, pos, af, none⟩ :: rest) Γ R H := by
 intro a w hfr hs
 refine wpList_plain rfl fun K hK => ?_
 unfold Oper.wp
 obtain ⟨e1, _⟩ := X.ok _ _ ht
 rw [hdesc] at e1
 subst hq
 obtain ⟨c, zs, hr, h1, h2, h3⟩ := run_makeNoZero8 (P := X.P) w ps t e e1 m hm
 have hex' : (execOp a.eval ⟨some d, .call ⟨.value (.func f), #[x], tys⟩, ty, pos, af, none⟩).run X.P w = .ok (.value (.slice (some ⟨w.heap.size, 0, none⟩) m c)) (w.drew.drew.alloc (.cells (List.toArray (U8 zs)) e)) := by
   have hev := hfr.agree x _ hx
   have hfv := hfr.agree (.func f) (.func (.func f) #[] #[]) rfl
   have e2 : (#[x] : Array Operand).map a.eval = #[.int .i64 (m : Int)] := by simp [hev]
   have hc := run_callFunc_extern hf hname hb hn hex #[.int .i64 (m : Int)] w
   rw [hr] at hc
   simp only [execOp, resolve, hfv, Deferred.ofValue, invoke, Sem.run_bind, Sem.run_pure, Result.andThen_ok, e2]
   simpa using hc
 rw [hex']
 have hst : Stp w (w.drew.drew.alloc (.cells (List.toArray (U8 zs)) e)) (fun _ => False) :=
   (((Stp.drew w _).trans (Stp.drew _ _)).trans (Stp.alloc _ _ _))
 refine hK _ _ (k (some ⟨w.heap.size, 0, none⟩) c (zs.take m) h1 (by rw [List.length_take]; omega) _ _ (hfr.put (by simpa [Nat.blt_eq] using hd) _) (hs.snoc hst (fun _ h _ => h) _ ?_ ?_))
 · refine ⟨by rw [U8_len, List.length_take]; omega, .inr ⟨w.heap.size, c, List.toArray (U8 zs), rfl, Nat.zero_le _, ?_, h1, h2, by simp [U8_len, h3], ?_⟩⟩
   · show (w.drew.drew.heap.push _)[w.drew.drew.heap.size]? = _
     exact Array.getElem?_push_size
   · simp [U8, List.map_take]
 · intro k hk
   have := own_fp hk
   subst this
   exact ⟨by simp, Nat.le_refl _⟩

end
end Go.Sl
end
/-
  The small separation logic: one inner slice is taken out of the owned ones; rows of structs; contracts whose results are only read.
-/
section
namespace Go.Sl

section
variable {X : Cx} {β : Base} {n : Nat} {ds : List Deferred} {ops : Array Oper} {Q : Exit → Act → World → Prop} {rest : List Oper} {Γ : Env} {R H : List Pr}

theorem Own.none (e : TypeId) (w : World) : (Own e 1 none 0 0 []).p w := World.ownsRow_nil w 0 e 1

theorem C.cap {x : Code} (j : Nat) {e sz m c : Nat} {A : Option Addr} {xs : List Value} (hj : H[j]? = some (Own e sz A m c xs)) (h : m ≤ c → C X β n ds Q x Γ R H) : C X β n ds Q x Γ R H :=
 fun a w hf hs => h (Own.cap (hs.own j _ hj)).1 a w hf hs
theorem U8_drop (l : List UInt8) (k : Nat) : (U8 l).drop k = U8 (l.drop k) := by simp [U8, List.map_drop]
/-- The cells of a step of a script: the fields and where the bytes lie. -/
structure Stp6 where
 er : Bool
 se : UInt8
 at_ : UInt8
 data : List UInt8
 yA : Option Addr
 yc : Nat
 torn : Bool
 mask : List UInt8
 mA : Option Addr
 mc : Nat
def Stp6.cells (s : Stp6) : List Value := [.bool s.er, .int .u8 (s.se.toNat : Int), .int .u8 (s.at_.toNat : Int), .slice s.yA s.data.length s.yc, .bool s.torn, .slice s.mA s.mask.length s.mc]
def Stp6.zero : Stp6 := ⟨false, 0, 0, [], none, 0, false, [], none, 0⟩
end
end Go.Sl
end
/-
  The small separation logic: methods behind interface values; numbers of 64 bits as sets.
-/
section
namespace Go.Sl

section
variable {X : Cx} {β : Base} {n : Nat} {ds : List Deferred} {ops : Array Oper} {Q : Exit → Act → World → Prop} {Γ : Env} {R H : List Pr} {rest : List Oper}

end

section
variable {X : Cx} {β : Base} {Γ : Env} {R H : List Pr}
theorem wrap_u64 {m : Nat} (h : m < 18446744073709551616) : IntKind.u64.wrap (m : Int) = (m : Int) := by
 unfold IntKind.wrap
 simp [IntKind.bits, IntKind.signed]
 omega
end

section
variable {X : Cx} {β : Base} {n : Nat} {ds : List Deferred} {Q : Exit → Act → World → Prop} {Γ : Env} {R H : List Pr}
end

section
variable {X : Cx} {β : Base} {n : Nat} {ds : List Deferred} {Q : Exit → Act → World → Prop} {Γ : Env} {R H : List Pr}
theorem C.someI {c : Code} (j : Nat) {e sz m cc : Nat} {A : Option Addr} {xs : List Value} (hj : H[j]? = some (Own e sz A m cc xs)) (h : (0 < xs.length → A.isSome = true) → C X β n ds Q c Γ R H) : C X β n ds Q c Γ R H := by
 intro a w hf hs
 refine h (fun h0 => ?_) a w hf hs
 obtain ⟨g, cur, rfl, _⟩ := Own.form (hs.own j _ hj) h0
 rfl
end

/-! ### An inner slice is put where none was -/
section
variable {X : Cx} {β : Base} {n : Nat} {ds : List Deferred} {ops : Array Oper} {Q : Exit → Act → World → Prop} {Γ : Env} {R H : List Pr} {rest : List Oper}
/-- The last inner slice goes to a place where none was. -/
theorem OwnKids.move {w : World} {e i : Nat} {hs : List Hd} {vss : List (List Value)} {g : Hd} {v : List Value} (hl : hs.length = vss.length) (hi : i < vss.length) (h : (OwnKids e (hs ++ [g]) (vss ++ [v])).p w) : (OwnKids e (hs.set i g) (vss.set i v)).p w := by
 have gl : (hs ++ [g])[hs.length]? = some g := by simp
 have vl : (vss ++ [v])[hs.length]? = some v := by rw [hl]; simp
 have low : ∀ {q : Nat} {x : Hd}, hs[q]? = some x → (hs ++ [g])[q]? = some x := fun {q x} hq => by
   rw [List.getElem?_append_left (List.getElem?_eq_some_iff.1 hq).1]; exact hq
 have lov : ∀ {q : Nat} {x : List Value}, vss[q]? = some x → (vss ++ [v])[q]? = some x := fun {q x} hq => by
   rw [List.getElem?_append_left (List.getElem?_eq_some_iff.1 hq).1]; exact hq
 have src : ∀ (q : Nat) (x : Hd), (hs.set i g)[q]? = some x → ∃ q', (hs ++ [g])[q']? = some x ∧ (q' = hs.length ↔ q = i) ∧ (q ≠ i → q' = q) := by
   intro q x hx
   rw [List.getElem?_set] at hx
   by_cases hq : i = q
   · rw [if_pos hq, if_pos (by omega)] at hx
     injection hx with hx
     subst hx
     exact ⟨hs.length, gl, ⟨fun _ => hq.symm, fun _ => rfl⟩, fun h => absurd hq.symm h⟩
   · rw [if_neg hq] at hx
     have := (List.getElem?_eq_some_iff.1 hx).1
     exact ⟨q, low hx, ⟨fun h => by omega, fun h => absurd h.symm hq⟩, fun _ => rfl⟩
 refine ⟨by simp [hl], fun q x y hx hy => ?_, fun a b x y hx hy hab => ?_⟩
 · rw [List.getElem?_set] at hx hy
   by_cases hq : i = q
   · rw [if_pos hq, if_pos (by omega)] at hx
     rw [if_pos hq, if_pos hi] at hy
     injection hx with hx
     injection hy with hy
     subst hx hy
     exact h.2.1 _ _ _ gl vl
   · rw [if_neg hq] at hx hy
     exact h.2.1 _ _ _ (low hx) (lov hy)
 · obtain ⟨a', ha, ha2, ha3⟩ := src a x hx
   obtain ⟨b', hb, hb2, hb3⟩ := src b y hy
   refine h.2.2 a' b' x y ha hb (fun e => ?_)
   by_cases h1 : a = i
   · exact hab (h1.trans (hb2.1 (e ▸ ha2.2 h1)).symm)
   · by_cases h2 : b = i
     · exact h1 (ha2.1 (e ▸ hb2.2 h2))
     · rw [ha3 h1, hb3 h2] at e
       exact hab e
end

section
variable {X : Cx} {β : Base} {n : Nat} {ds : List Deferred} {ops : Array Oper} {Q : Exit → Act → World → Prop} {Γ : Env} {R H : List Pr} {rest : List Oper}
end

section
variable {X : Cx} {β : Base} {n : Nat} {ds : List Deferred} {ops : Array Oper} {Q : Exit → Act → World → Prop} {Γ : Env} {R H : List Pr} {rest : List Oper}
end
end Go.Sl
end
