/-
  The small separation logic: new bytes of no given content; slices with a given room; lists of rows that grow.
-/
import Derived.Lib.MakeNoZero
import Derived.Laws.Externs
import Derived.Recover
import Derived.Test.YtbkmahjhhncfcaaGreatQSlG
section
namespace Go.Sl
section
variable {X : Cx} {β : Base} {n : Nat} {ds : List Deferred} {ops : Array Oper} {Q : Exit → Act → World → Prop} {rest : List Oper} {Γ : Env} {R H : List Pr}

end
end Go.Sl
end
/-
  The small separation logic: one inner slice is taken out of the owned ones; rows of structs; contracts whose results are only read.
-/
section
namespace Go.Sl

section
variable {X : Cx} {β : Base} {n : Nat} {ds : List Deferred} {ops : Array Oper} {Q : Exit → Act → World → Prop} {rest : List Oper} {Γ : Env} {R H : List Pr}

theorem Own.none (e : TypeId) (w : World) : (Own e 1 none 0 0 []).p w := World.ownsRow_nil w 0 e 1

theorem C.cap {x : Code} (j : Nat) {e sz m c : Nat} {A : Option Addr} {xs : List Value} (hj : H[j]? = some (Own e sz A m c xs)) (h : m ≤ c → C X β n ds Q x Γ R H) : C X β n ds Q x Γ R H :=
 fun a w hf hs => h (Own.cap (hs.own j _ hj)).1 a w hf hs
theorem U8_drop (l : List UInt8) (k : Nat) : (U8 l).drop k = U8 (l.drop k) := by simp [U8, List.map_drop]
/-- The cells of a step of a script: the fields and where the bytes lie. -/
structure Stp6 where
 er : Bool
 se : UInt8
 at_ : UInt8
 data : List UInt8
 yA : Option Addr
 yc : Nat
 torn : Bool
 mask : List UInt8
 mA : Option Addr
 mc : Nat
def Stp6.cells (s : Stp6) : List Value := [.bool s.er, .int .u8 (s.se.toNat : Int), .int .u8 (s.at_.toNat : Int), .slice s.yA s.data.length s.yc, .bool s.torn, .slice s.mA s.mask.length s.mc]
def Stp6.zero : Stp6 := ⟨false, 0, 0, [], none, 0, false, [], none, 0⟩
end
end Go.Sl
end
/-
  The small separation logic: calls that may panic, panics, deferred calls that recover.
-/
section
namespace Go.Sl

section
variable {X : Cx} {β : Base} {n : Nat} {ds : List Deferred} {ops : Array Oper} {Q : Exit → Act → World → Prop} {rest : List Oper} {Γ : Env} {R H : List Pr}

/-- A contract on how a call ends: it returns, or it panics. -/
def CtrE (X : Cx) (f : FuncId) (args : List Value) (R H : List Pr) (Φ : Ending → List Pr → List Pr → Prop) : Prop :=
 FnOk X.P f ∧ ∀ w, Sat (ownBase w R H) w R H → Calls X.P f (List.toArray args) w fun e w' => ∃ R' H', Φ e R' H' ∧ Sat (ownBase w R H) w' R' H'

theorem CtrE.mono {f : FuncId} {args : List Value} {Φ Ψ : Ending → List Pr → List Pr → Prop} (h : CtrE X f args R H Φ) (hi : ∀ e R' H', Φ e R' H' → Ψ e R' H') : CtrE X f args R H Ψ :=
 ⟨h.1, fun w hs => (h.2 w hs).mono fun _ _ ⟨R', H', hv, r⟩ => ⟨R', H', hi _ _ _ hv, r⟩⟩
/-- A contract, used in a larger state. -/
theorem CtrE.use {f : FuncId} {args : List Value} {Rf Hf Hr : List Pr} {Φ : Ending → List Pr → List Pr → Prop} (h : CtrE X f args Rf Hf Φ) {js js' : List Nat} (hj : sel H js = Hf) (hj' : sel H js' = Hr) (hn : (js ++ js').Nodup)
   (hR : Hass R Hr Rf) {w : World} (hs : Sat β w R H) : Calls X.P f (List.toArray args) w fun e w' => ∃ R' H', Φ e R' H' ∧ Sat β w' R (H' ++ Hr) := by
 subst hj hj'
 have nj := (List.nodup_append.1 hn).1
 have nj' := (List.nodup_append.1 hn).2.1
 have njj : ∀ p ∈ js, ∀ q ∈ js', p ≠ q := fun p hp q hq => (List.nodup_append.1 hn).2.2 p hp q hq
 have hx : ∀ c ∈ sel H js, ∀ d ∈ sel H js', ∀ k, c.fp k → ¬ d.fp k := by
   intro c hc d hd k hk hk'
   obtain ⟨p, hp, hpc⟩ := sel_mem hc
   obtain ⟨q, hq, hqd⟩ := sel_mem hd
   exact hs.dis p q c d hpc hqd (njj p hp q hq) k hk hk'
 have hfp : ∀ r ∈ Rf, ∀ k, r.fp k → k < w.heap.size ∧ (∀ c ∈ sel H js, ¬ c.fp k) := by
   intro r hr k hk
   rcases (hR.all r hr).2 k hk with ⟨r', hr', hk'⟩ | ⟨i, d, hd, hk'⟩
   · refine ⟨(hs.rfp r' hr' k hk').1, fun c hc => ?_⟩
     obtain ⟨p, _, hpc⟩ := sel_mem hc
     exact hs.sep r' hr' p c hpc k hk'
   · have hmd := List.mem_of_getElem? hd
     obtain ⟨q, _, hqd⟩ := sel_mem hmd
     exact ⟨(hs.ofp q d hqd k hk').1, fun c hc hck => hx c hc d hmd k hck hk'⟩
 have hsr : Sat β w R (sel H js') := hs.sel nj'
 have hsf : Sat β w R (sel H js) := hs.sel nj
 have h0 : Sat (ownBase w Rf (sel H js)) w Rf (sel H js) := by
   refine ⟨⟨rfl, rfl, rfl, Nat.le_refl _, fun _ _ _ => rfl⟩, fun r hr => (hR.all r hr).1 β w hsr, fun r hr k hk => ⟨(hfp r hr k hk).1, .inr (.inr ⟨r, hr, hk⟩)⟩, hsf.own, ?_, hsf.dis, ?_⟩
   · intro i c hc k hk
     exact ⟨(hsf.ofp i c hc k hk).1, .inr ⟨i, c, hc, hk⟩⟩
   · intro r hr j c hc k hk hk'
     exact (hfp r hr k hk).2 c (List.mem_of_getElem? hc) hk'
 refine (h.2 w h0).mono ?_
 rintro e w' ⟨R', H', hΦ, hs'⟩
 refine ⟨R', H', hΦ, ?_⟩
 have hst : Stp w w' (fun k => ∃ (i : Nat) (c : Pr), (sel H js)[i]? = some c ∧ c.fp k) := ⟨hs'.ext.os, hs'.ext.tape, hs'.ext.output, hs'.ext.size, hs'.ext.block⟩
 have hmt : ∀ k, (∃ (i : Nat) (c : Pr), (sel H js)[i]? = some c ∧ c.fp k) → ∃ (i : Nat) (c : Pr), H[i]? = some c ∧ c.fp k := by
   rintro k ⟨i, c, hc, hk⟩
   obtain ⟨p, _, hp⟩ := sel_mem (List.mem_of_getElem? hc)
   exact ⟨p, c, hp, hk⟩
 have hget : ∀ (i : Nat) (c : Pr), (H' ++ sel H js')[i]? = some c → (i < H'.length ∧ H'[i]? = some c) ∨ (H'.length ≤ i ∧ (sel H js')[i - H'.length]? = some c) := by
   intro i c hc
   rw [List.getElem?_append] at hc
   split at hc
   · rename_i hlt; exact .inl ⟨hlt, hc⟩
   · rename_i hge; exact .inr ⟨by omega, hc⟩
 have cross : ∀ (i : Nat) (c : Pr), H'[i]? = some c → ∀ (j : Nat) (d : Pr), (sel H js')[j]? = some d → ∀ k, c.fp k → ¬ d.fp k := by
   intro i c hc j d hd k hk hk'
   have hlt := (hsr.ofp j d hd k hk').1
   rcases (hs'.ofp i c hc k hk).2 with y | ⟨p, x, hx1, hx2⟩
   · have y' : w.heap.size ≤ k := y; omega
   · exact hx x (List.mem_of_getElem? hx1) d (List.mem_of_getElem? hd) k hx2 hk'
 refine hs.put hst (fun k hk _ => hmt k hk) R (H' ++ sel H js') (fun r hr => .inl hr) ?_ ?_ ?_
 · intro i c hc
   rcases hget i c hc with ⟨_, hc⟩ | ⟨_, hc⟩
   · refine ⟨hs'.own i c hc, fun k hk => ⟨(hs'.ofp i c hc k hk).1, ?_⟩⟩
     rcases (hs'.ofp i c hc k hk).2 with y | y
     · exact .inl y
     · exact .inr (hmt k y)
   · refine ⟨c.st w w' (fun k hk => hst.block k (hsr.ofp _ c hc k hk).1 ?_) (hsr.own _ c hc), fun k hk => ⟨Nat.lt_of_lt_of_le (hsr.ofp _ c hc k hk).1 hst.size, .inr ?_⟩⟩
     · rintro ⟨p, x, hx1, hx2⟩
       exact hx x (List.mem_of_getElem? hx1) c (List.mem_of_getElem? hc) k hx2 hk
     · obtain ⟨q, _, hq⟩ := sel_mem (List.mem_of_getElem? hc)
       exact ⟨q, c, hq, hk⟩
 · intro i j c d hc hd hne k hk hk'
   rcases hget i c hc with ⟨_, hc⟩ | ⟨hi, hc⟩ <;> rcases hget j d hd with ⟨_, hd⟩ | ⟨hj, hd⟩
   · exact hs'.dis i j c d hc hd hne k hk hk'
   · exact cross i c hc _ d hd k hk hk'
   · exact cross j d hd _ c hc k hk' hk
   · exact hsr.dis _ _ c d hc hd (by omega) k hk hk'
 · intro r hr j c hc k hk hk'
   rcases hget j c hc with ⟨_, hc⟩ | ⟨_, hc⟩
   · have hlt := (hs.rfp r hr k hk).1
     rcases (hs'.ofp j c hc k hk').2 with y | ⟨p, x, hx1, hx2⟩
     · have y' : w.heap.size ≤ k := y; omega
     · obtain ⟨q, _, hq⟩ := sel_mem (List.mem_of_getElem? hx1)
       exact hs.sep r hr q x hq k hk hx2
   · exact hsr.sep r hr _ c hc k hk hk'

/-- The same, the read facts of the result kept: all that it reads is not owned here. -/
theorem CtrE.useR {f : FuncId} {args : List Value} {Rf Hf Hr : List Pr} {Φ : Ending → List Pr → List Pr → Prop} (h : CtrE X f args Rf Hf Φ) {js js' : List Nat} (hj : sel H js = Hf) (hj' : sel H js' = Hr) (hn : (js ++ js').Nodup)
   (hR : Hass R [] Rf) {w : World} (hs : Sat β w R H) : Calls X.P f (List.toArray args) w fun e w' => ∃ R' H', Φ e R' H' ∧ Sat β w' (R' ++ R) (H' ++ Hr) := by
 subst hj hj'
 have nj := (List.nodup_append.1 hn).1
 have nj' := (List.nodup_append.1 hn).2.1
 have njj : ∀ p ∈ js, ∀ q ∈ js', p ≠ q := fun p hp q hq => (List.nodup_append.1 hn).2.2 p hp q hq
 have hx : ∀ c ∈ sel H js, ∀ d ∈ sel H js', ∀ k, c.fp k → ¬ d.fp k := by
   intro c hc d hd k hk hk'
   obtain ⟨p, hp, hpc⟩ := sel_mem hc
   obtain ⟨q, hq, hqd⟩ := sel_mem hd
   exact hs.dis p q c d hpc hqd (njj p hp q hq) k hk hk'
 have hin : ∀ r ∈ Rf, ∀ k, r.fp k → ∃ r' ∈ R, r'.fp k := by
   intro r hr k hk
   rcases (hR.all r hr).2 k hk with x | ⟨i, d, hd, _⟩
   · exact x
   · simp at hd
 have hsr : Sat β w R (sel H js') := hs.sel nj'
 have hsf : Sat β w R (sel H js) := hs.sel nj
 have h0 : Sat (ownBase w Rf (sel H js)) w Rf (sel H js) := by
   refine ⟨⟨rfl, rfl, rfl, Nat.le_refl _, fun _ _ _ => rfl⟩, fun r hr => (hR.all r hr).1 β w (by
     have := hs.sel (js := []) (by simp)
     exact this), fun r hr k hk => ?_, hsf.own, ?_, hsf.dis, ?_⟩
   · obtain ⟨r', hr', hk'⟩ := hin r hr k hk
     exact ⟨(hs.rfp r' hr' k hk').1, .inr (.inr ⟨r, hr, hk⟩)⟩
   · intro i c hc k hk
     exact ⟨(hsf.ofp i c hc k hk).1, .inr ⟨i, c, hc, hk⟩⟩
   · intro r hr j c hc k hk hk'
     obtain ⟨r', hr', hk2⟩ := hin r hr k hk
     exact hsf.sep r' hr' j c hc k hk2 hk'
 refine (h.2 w h0).mono ?_
 rintro e w' ⟨R', H', hΦ, hs'⟩
 refine ⟨R', H', hΦ, ?_⟩
 have hst : Stp w w' (fun k => ∃ (i : Nat) (c : Pr), (sel H js)[i]? = some c ∧ c.fp k) := ⟨hs'.ext.os, hs'.ext.tape, hs'.ext.output, hs'.ext.size, hs'.ext.block⟩
 have hmt : ∀ k, (∃ (i : Nat) (c : Pr), (sel H js)[i]? = some c ∧ c.fp k) → ∃ (i : Nat) (c : Pr), H[i]? = some c ∧ c.fp k := by
   rintro k ⟨i, c, hc, hk⟩
   obtain ⟨p, _, hp⟩ := sel_mem (List.mem_of_getElem? hc)
   exact ⟨p, c, hp, hk⟩
 have hget : ∀ (i : Nat) (c : Pr), (H' ++ sel H js')[i]? = some c → (i < H'.length ∧ H'[i]? = some c) ∨ (H'.length ≤ i ∧ (sel H js')[i - H'.length]? = some c) := by
   intro i c hc
   rw [List.getElem?_append] at hc
   split at hc
   · rename_i hlt; exact .inl ⟨hlt, hc⟩
   · rename_i hge; exact .inr ⟨by omega, hc⟩
 have cross : ∀ (i : Nat) (c : Pr), H'[i]? = some c → ∀ (j : Nat) (d : Pr), (sel H js')[j]? = some d → ∀ k, c.fp k → ¬ d.fp k := by
   intro i c hc j d hd k hk hk'
   have hlt := (hsr.ofp j d hd k hk').1
   rcases (hs'.ofp i c hc k hk).2 with y | ⟨p, x, hx1, hx2⟩
   · have y' : w.heap.size ≤ k := y; omega
   · exact hx x (List.mem_of_getElem? hx1) d (List.mem_of_getElem? hd) k hx2 hk'
 refine hs.put hst (fun k hk _ => hmt k hk) (R' ++ R) (H' ++ sel H js') ?_ ?_ ?_ ?_
 · intro r hr
   rcases List.mem_append.1 hr with hr | hr
   · refine .inr ⟨hs'.rd r hr, fun k hk => ⟨(hs'.rfp r hr k hk).1, ?_⟩⟩
     rcases (hs'.rfp r hr k hk).2 with y | y | ⟨r0, hr0, hk0⟩
     · exact .inl y
     · exact .inr (.inl (hmt k y))
     · exact .inr (.inr (hin r0 hr0 k hk0))
   · exact .inl hr
 · intro i c hc
   rcases hget i c hc with ⟨_, hc⟩ | ⟨_, hc⟩
   · refine ⟨hs'.own i c hc, fun k hk => ⟨(hs'.ofp i c hc k hk).1, ?_⟩⟩
     rcases (hs'.ofp i c hc k hk).2 with y | y
     · exact .inl y
     · exact .inr (hmt k y)
   · refine ⟨c.st w w' (fun k hk => hst.block k (hsr.ofp _ c hc k hk).1 ?_) (hsr.own _ c hc), fun k hk => ⟨Nat.lt_of_lt_of_le (hsr.ofp _ c hc k hk).1 hst.size, .inr ?_⟩⟩
     · rintro ⟨p, x, hx1, hx2⟩
       exact hx x (List.mem_of_getElem? hx1) c (List.mem_of_getElem? hc) k hx2 hk
     · obtain ⟨q, _, hq⟩ := sel_mem (List.mem_of_getElem? hc)
       exact ⟨q, c, hq, hk⟩
 · intro i j c d hc hd hne k hk hk'
   rcases hget i c hc with ⟨_, hc⟩ | ⟨hi, hc⟩ <;> rcases hget j d hd with ⟨_, hd⟩ | ⟨hj, hd⟩
   · exact hs'.dis i j c d hc hd hne k hk hk'
   · exact cross i c hc _ d hd k hk hk'
   · exact cross j d hd _ c hc k hk' hk
   · exact hsr.dis _ _ c d hc hd (by omega) k hk hk'
 · intro r hr j c hc k hk hk'
   rcases List.mem_append.1 hr with hr | hr <;> rcases hget j c hc with ⟨_, hc⟩ | ⟨_, hc⟩
   · exact hs'.sep r hr j c hc k hk hk'
   · have hlt := (hsr.ofp _ c hc k hk').1
     rcases (hs'.rfp r hr k hk).2 with y | ⟨p, x, hx1, hx2⟩ | ⟨r0, hr0, hk0⟩
     · have y' : w.heap.size ≤ k := y; omega
     · exact hx x (List.mem_of_getElem? hx1) c (List.mem_of_getElem? hc) k hx2 hk'
     · obtain ⟨r', hr', hk2⟩ := hin r0 hr0 k hk0
       exact hsr.sep r' hr' _ c hc k hk2 hk'
   · have hlt := (hs.rfp r hr k hk).1
     rcases (hs'.ofp j c hc k hk').2 with y | ⟨p, x, hx1, hx2⟩
     · have y' : w.heap.size ≤ k := y; omega
     · obtain ⟨q, _, hq⟩ := sel_mem (List.mem_of_getElem? hx1)
       exact hs.sep r hr q x hq k hk hx2
   · exact hsr.sep r hr _ c hc k hk hk'

/-- What the body's end must be. -/
def postE (X : Cx) (β : Base) (fn : Func) (Φ : Ending → List Pr → List Pr → Prop) : Exit → Act → World → Prop :=
 bodyPost X.P fn fun e w' => ∃ R' H', Φ e R' H' ∧ Sat β w' R' H'

theorem CtrE.of {f : FuncId} {fn : Func} {c : Code} {args : List Value} {Φ : Ending → List Pr → List Pr → Prop} (hf : X.P.funcs[f]? = some fn) (hb : fn.body = some c) (hname : (fn.name == "runtime.NumGoroutine") = false)
   (hn : Nat.ble args.length fn.ntmps = true) (h : ∀ β, C X β fn.ntmps [] (postE X β fn Φ) c (params 0 args) R H) : CtrE X f args R H Φ := by
 have hn : args.length ≤ fn.ntmps := by simpa using hn
 refine ⟨⟨fn, hf, by rw [hb]; rfl, hname⟩, fun w hs => ?_⟩
 refine calls_of_wp hf hb (h _ _ w ⟨by simp; omega, rfl, fun s v hv => ?_⟩ hs)
 obtain ⟨_, h2⟩ := look_params args 0 s v hv
 have hlt := (List.getElem?_eq_some_iff.1 h2).1
 simp only [Nat.sub_zero] at h2 hlt
 rw [Array.getElem?_append_left (by simpa using hlt)]
 simpa using h2

theorem run_results {fn : Func} {rs : List ResultVar} {vs : List Value} {a : Act} {w : World} (hrs : fn.results = List.toArray rs) (hf : Fr n ds a Γ) (hsat : Sat β w R H) (hr : Ress X Γ R H rs vs) : (results fn a.tmps).run X.P w = .ok (tup vs) w := by
 rw [results_eq, hrs, Sem.run_bind, Array.mapM_eq_mapM_toList, Sem.run_map]
 have e : (List.mapM (resOne a.tmps) (List.toArray rs).toList).run X.P w = .ok vs w := run_ress (X := X) hf hsat hr
 rw [e]
 simp only [Result.andThen_ok, Sem.run_pure]
 cases vs with
 | nil => rfl
 | cons v vs =>
   cases vs with
   | nil => rfl
   | cons u us => simp [tup]
/-- panic(v), v in an interface. -/
theorem L.panic {ty : Nat} {pos : String} {af : Array Edge} {x : Operand} {t : TypeId} {v : Value} (hx : ev Γ x = some (.iface t v)) (h : QE β n ds Q (.panic [{ v := .iface t v, recovered := false }]) Γ R H) :
   L X β n ds ops Q (⟨none, .panic x, ty, pos, af, none⟩ :: rest) Γ R H := by
 intro a w hf hs
 refine wpList_plain rfl fun K hK => ?_
 unfold Oper.wp
 have e : (execOp a.eval ⟨none, .panic x, ty, pos, af, none⟩).run X.P w = .halt (.panic (.iface t v)) w := by
   have hp : (Instr.panic (.iface t v)).run X.P w = .halt (.panic (.iface t v)) w := rfl
   simp [execOp, hf.agree x _ hx, hp]
 rw [e]
 exact h a w hf hs

/-! ### Interfaces -/
/-! ### Deferred calls -/
/-- A deferred function without arguments that recovers the panic ch1 (which is then ch2), and does nothing else. -/
structure RecOk (P : Program) (f : FuncId) (v : Value) : Prop where
 fn : ∀ w, (invoke (.fn (.func f) #[]) #[]).run P w = .ok (.enter f #[]) w
 idle : ∀ w, CallsD P f #[] .returning w fun e u' w' => e = .returned (.tuple #[]) ∧ u' = .returning ∧ Stp w w' (fun _ => False)
 caught : ∀ w, CallsD P f #[] (.panicking [{ v := v, recovered := false }]) w fun e u' w' => e = .returned (.tuple #[]) ∧ u' = .panicking [{ v := v, recovered := true }] ∧ Stp w w' (fun _ => False)
def dfn (f : FuncId) : Deferred := { target := .fn (.func f) #[], args := #[] }
theorem L.defer {ty f : Nat} {pos : String} {af : Array Edge} {tys : Array TypeId} {rest : List Oper} (h : L X β n (dfn f :: ds) ops Q rest Γ R H) : L X β n ds ops Q (⟨none, .defer ⟨.value (.func f), #[], tys⟩, ty, pos, af, none⟩ :: rest) Γ R H := by
 intro a w hf hs
 refine wpList_plain rfl fun K hK => ?_
 unfold Oper.wp
 have e : (execOp a.eval ⟨none, .defer ⟨.value (.func f), #[], tys⟩, ty, pos, af, none⟩).run X.P w = .ok (.defer (dfn f)) w := by
   simp [execOp, resolve, hf.agree (.func f) _ rfl, Deferred.ofValue, dfn]
 rw [e]
 refine hK _ _ (h _ _ ?_ hs)
 exact ⟨hf.size, by simp [Act.put, hf.dfs], fun s v hv => hf.vals s v hv⟩
/-! ### Regions that draw their order, in which an operation may panic: all orders, one by one -/
def QA (X : Cx) (ops : Array Oper) (Q : Exit → Act → World → Prop) (fuel : Nat) (listed : Array Bool) : Exit → Act → World → Prop
 | .normal, a, w => wpAny X.P .any ops Q fuel listed a w
 | e, a, w => Q e a w
theorem letsOut_QA {fuel : Nat} {listed : Array Bool} (h : LetsOut (QA X ops Q fuel listed)) : LetsOut Q := h
theorem wpOp_of_L {fuel : Nat} {listed : Array Bool} {i : Nat} {o : Oper} (hi : ops[i]? = some o) {a : Act} {w : World} (this : wpList X.P ops (QA X ops Q fuel listed) [o] a w) : wpOp X.P ops Q i (wpAny X.P .any ops Q fuel listed) a w := by
 unfold wpOp
 simp only [hi]
 simp only [wpList] at this
 split
 · rename_i hw
   simp only [hw, if_true] at this
   rcases this with h1 | ⟨h0, h1⟩
   · refine .inl ?_
     unfold Oper.wp at *
     generalize (execOp a.eval o).run X.P w = r at *
     cases r with
     | ok nx w' =>
       cases nx <;> simp only [Oper.upon] at h1 ⊢ <;>
         first
           | exact h1
           | exact h1.elim
           | exact Calls.mono h1 (fun e w'' he => by cases e <;> exact he)
     | halt x w' => cases x <;> simp only [Oper.upon] at h1 ⊢ <;> first | exact h1 | exact h1.elim
   · exact .inr ⟨h0, letsOut_QA h1⟩
 · rename_i hw
   simp only [hw] at this
   exact this
def LA (X : Cx) (β : Base) (n : Nat) (ds : List Deferred) (ops : Array Oper) (Q : Exit → Act → World → Prop) (fuel : Nat) (listed : Array Bool) (Γ : Env) (R H : List Pr) : Prop :=
 ∀ a w, listed.size = ops.size → Fr n ds a Γ → Sat β w R H → wpAny X.P .any ops Q fuel listed a w
theorem LA.alt {fuel : Nat} {listed : Array Bool} (l : List Nat) (hr : Region.ready .any ops listed = l) (hl : l ≠ []) (h : Alls l fun i => ∃ o, ops[i]? = some o ∧ L X β n ds ops (QA X ops Q fuel (listed.setIfInBounds i true)) [o] Γ R H) : LA X β n ds ops Q (fuel + 1) listed Γ R H := by
 intro a w _ hf hs
 refine ⟨fun h0 => absurd (hr ▸ h0) hl, fun i hi => ?_⟩
 rw [hr] at hi
 obtain ⟨o, ho, hL⟩ := h.mem i hi
 exact wpOp_of_L ho (hL a w hf hs)
theorem LA.nil {fuel : Nat} {listed : Array Bool} (hr : Region.ready .any ops listed = []) (h : QE β n ds Q .normal Γ R H) : LA X β n ds ops Q fuel listed Γ R H := by
 intro a w _ hf hs
 cases fuel with
 | zero => exact ⟨hr, h a w hf hs⟩
 | succ fuel => exact ⟨fun _ => h a w hf hs, fun i hi => by rw [hr] at hi; cases hi⟩
theorem QE.a {fuel : Nat} {listed : Array Bool} (hz : (listed.size == ops.size) = true) (h : LA X β n ds ops Q fuel listed Γ R H) : QE β n ds (QA X ops Q fuel listed) .normal Γ R H := fun a w hf hs => h a w (by simpa using hz) hf hs
end
end Go.Sl
end
