/-
  Lists of records in memory; the states of the automaton, what is found.
-/
import Derived.Test.YtbkmahjhhncfcaaGreatQSlU
section
namespace Go.Sl

section
variable {α : Type} {f : α → List Value} {s : Nat}
theorem flat_len (hf : ∀ x, (f x).length = s) (l : List α) : (l.flatMap f).length = l.length * s := by
 induction l with
 | nil => simp
 | cons x l ih => rw [List.flatMap_cons, List.length_append, ih, hf, List.length_cons, Nat.succ_mul, Nat.add_comm]
theorem flat_at (hf : ∀ x, (f x).length = s) (d : α) : ∀ (l : List α) (k : Nat), k < l.length → ((l.flatMap f).drop (k * s)).take s = f (l.getD k d)
 | [], _, h => absurd h (Nat.not_lt_zero _)
 | x :: l, 0, _ => by
   rw [List.flatMap_cons, Nat.zero_mul, List.drop_zero, List.take_left' (hf x)]
   rfl
 | x :: l, k + 1, h => by
   have ih := flat_at hf d l k (by simpa using h)
   rw [List.flatMap_cons, show (k + 1) * s = (f x).length + k * s from by rw [hf, Nat.succ_mul, Nat.add_comm], List.drop_append]
   rw [show (f x).length + k * s - (f x).length = k * s from by omega, List.drop_eq_nil_of_le (by omega), List.nil_append]
   exact ih
theorem flat_get (hf : ∀ x, (f x).length = s) (d : α) (l : List α) {k q : Nat} (hk : k < l.length) (hq : q < s) : (l.flatMap f)[k * s + q]? = (f (l.getD k d))[q]? := by
 rw [← flat_at hf d l k hk, List.getElem?_take, if_pos hq, List.getElem?_drop]
theorem flat_set (hf : ∀ x, (f x).length = s) (d : α) : ∀ (l : List α) (k q : Nat) (v : Value) (y : α), k < l.length → q < s → f y = (f (l.getD k d)).set q v → (l.flatMap f).set (k * s + q) v = (l.set k y).flatMap f
 | [], _, _, _, _, h, _, _ => absurd h (Nat.not_lt_zero _)
 | x :: l, 0, q, v, y, _, hq, hy => by
   rw [List.set_cons_zero, List.flatMap_cons, List.flatMap_cons, Nat.zero_mul, Nat.zero_add, List.set_append_left _ _ (by rw [hf]; exact hq), hy]
   rfl
 | x :: l, k + 1, q, v, y, h, hq, hy => by
   have ih := flat_set hf d l k q v y (by simpa using h) hq hy
   rw [List.set_cons_succ, List.flatMap_cons, List.flatMap_cons, List.set_append_right _ _ (by rw [hf, Nat.succ_mul]; omega), ← ih, show (k + 1) * s + q - (f x).length = k * s + q from by rw [hf, Nat.succ_mul]; omega]
theorem flat_put (hf : ∀ x, (f x).length = s) : ∀ (l : List α) (k : Nat) (y : α), k < l.length → (l.flatMap f).take (k * s) ++ f y ++ (l.flatMap f).drop (k * s + (f y).length) = (l.set k y).flatMap f
 | [], _, _, h => absurd h (Nat.not_lt_zero _)
 | x :: l, 0, y, _ => by
   rw [List.set_cons_zero, List.flatMap_cons, List.flatMap_cons, Nat.zero_mul, List.take_zero, List.nil_append, Nat.zero_add, hf, ← hf x, List.drop_left]
 | x :: l, k + 1, y, h => by
   have ih := flat_put hf l k y (by simpa using h)
   rw [List.set_cons_succ, List.flatMap_cons, List.flatMap_cons, ← ih, show (k + 1) * s = (f x).length + k * s from by rw [hf, Nat.succ_mul, Nat.add_comm], List.take_append, show (f x).length + k * s - (f x).length = k * s from by omega, List.take_of_length_le (by omega), Nat.add_assoc, List.drop_append, show (f x).length + (k * s + (f y).length) - (f x).length = k * s + (f y).length from by omega, List.drop_eq_nil_of_le (by omega)]
   simp
theorem flat_pos (hf : ∀ x, (f x).length = s) (hs : 0 < s) {l : List α} {k : Nat} (hk : k < l.length) : 0 < (l.flatMap f).length := by
 rw [flat_len hf]
 exact Nat.mul_pos (by omega) hs
theorem flat_rep (f : α → List Value) (m : Nat) (x : α) : (List.replicate m x).flatMap f = (List.replicate m (f x)).flatten := by
 induction m with
 | zero => rfl
 | succ m ih => rw [List.replicate_succ, List.replicate_succ, List.flatMap_cons, List.flatten_cons, ih]
end
section
variable {X : Cx} {β : Base} {n : Nat} {ds : List Deferred} {ops : Array Oper} {Q : Exit → Act → World → Prop} {rest : List Oper} {Γ : Env} {R H : List Pr}
theorem toList_madeCells (cs : List Value) {sz : Nat} (hs : cs.length = sz) (h0 : 0 < sz) (m : Nat) : (madeCells (List.toArray cs) (m * sz)).toList = (List.replicate m cs).flatten := by
 have e1 : (List.replicate m cs).flatten = (List.replicate m ()).flatMap fun _ => cs := by
   rw [flat_rep (fun _ : Unit => cs)]
 rw [e1]
 have hl := flat_len (f := fun _ : Unit => cs) (s := sz) (fun _ => hs) (List.replicate m ())
 rw [List.length_replicate] at hl
 apply List.ext_getElem?
 intro j
 by_cases hj : j < m * sz
 · have h1 : j / sz < m := (Nat.div_lt_iff_lt_mul h0).2 hj
   have h2 : j % sz < sz := Nat.mod_lt _ h0
   have := flat_get (f := fun _ : Unit => cs) (s := sz) (fun _ => hs) () (List.replicate m ()) (k := j / sz) (q := j % sz) (by rw [List.length_replicate]; exact h1) h2
   rw [Nat.div_add_mod'] at this
   rw [this]
   simp [madeCells, hj, hs, h2]
 · rw [List.getElem?_eq_none (by simp [madeCells]; omega), List.getElem?_eq_none (by rw [hl]; omega)]
/-- make of a row of structs -/
theorem L.makeSt {d t e ty m sz : Nat} {pos : String} {af : Array Edge} {x y : Operand} {kl kc : IntKind} {q : Int} {i ei : Ti} {cs : List Value} (ht : tlook t X.tab = some i) (hdesc : i.desc = .slice e) (he : tlook e X.tab = some ei) (hzc : ei.zero.cells = List.toArray cs) (hcs : cs.length = sz) (hsz : ei.size = sz) (hpos : Nat.blt 0 sz = true)
   (hx : ev Γ x = some (.int kl q)) (hy : ev Γ y = some (.int kc q)) (hq : q = (m : Int)) (hb : ei.bytes * m ≤ 281474976710656) (hm : m ≤ 9223372036854775807) (hd : Nat.blt d n = true)
   (k : ∀ A, L X β n ds ops Q rest ((d, .slice A m m) :: Γ) R (H ++ [Own e sz A m m (List.replicate m cs).flatten])) : L X β n ds ops Q (⟨some d, .makeSlice t x y, ty, pos, af, none⟩ :: rest) Γ R H := by
 have h0 : 0 < sz := by simpa using hpos
 have hfl := toList_madeCells cs hcs h0 m
 refine L.mk hd e sz m (List.replicate m cs).flatten (by unfold maxLen; omega) (by rw [← hfl]; simp [madeCells]) (fun A => .slice A m m) ?_ k
 intro ρ w hρ hs o ho
 obtain ⟨e1, _⟩ := X.ok _ _ ht
 rw [hdesc] at e1
 obtain ⟨_, j, hj, h1, h2, h3⟩ := X.ok _ _ he
 subst hq
 have hr := run_make (P := X.P) w t e j ei.zero e1 hj h3 kl kc (m : Int) (m : Int) (by omega) (Int.le_refl _) (by
   rw [h2]
   have : ((ei.bytes * m : Nat) : Int) ≤ 281474976710656 := by omega
   rwa [Int.natCast_mul] at this) (by omega)
 have hmc : madeCells ei.zero.cells (m * j.size) = List.toArray (List.replicate m cs).flatten := by
   apply Array.ext'
   rw [h1, hsz, hzc, hfl]
 simp only [Int.toNat_natCast, hmc] at hr
 simp only [execOp, ho, hρ _ _ hx, hρ _ _ hy, Sem.run_bind, hr, Result.andThen_ok, Sem.run_pure]
theorem Ev.lenF {t kt et g clock : Nat} {es : Array MapEntry} {x : Operand} {i : Ti} (ri : Nat) (ht : tlook t X.tab = some i) (hdesc : i.desc = .map kt et) (hx : ev Γ x = some (.map (some g))) (hm : R[ri]? = some (MapE g es clock)) : Ev X β Γ R H (.call ⟨.builtin .len, #[x], #[t]⟩) (.int .i64 (es.size : Int)) := by
 intro ρ w hρ hw o ho
 have e1 := (X.ok _ _ ht).und
 rw [hdesc] at e1
 have hh : w.heap[g]? = some (.map es clock) := hw.rd _ (List.mem_of_getElem? hm)
 simp [execOp, ho, resolve, invoke, builtin, hρ _ _ hx, Builtin.len_, run_underlying e1, MapKept.run_getObj_map hh]
 rfl
end
/-! ### The states -/
def auC (g : Nat) (x : Au) : List Value := [.map (some g), .int .i64 x.lk, .int .i64 (x.ln : Int), .int .i64 (x.en : Int)]
def auP (p : Nat × Au) : List Value := auC p.1 p.2
def auV (gs : List Nat) (z : List Au) : List Value := (gs.zip z).flatMap auP
theorem auP_len (p : Nat × Au) : (auP p).length = 4 := rfl
section
variable {gs : List Nat} {z : List Au}
theorem zip_len' (h : gs.length = z.length) : (gs.zip z).length = z.length := by rw [List.length_zip, h, Nat.min_self]
theorem zip_getD (h : gs.length = z.length) {k : Nat} (hk : k < z.length) : (gs.zip z).getD k (0, Au.zero) = (gs.getD k 0, Ag z k) := by
 have h1 : k < gs.length := by omega
 have h2 : (gs.zip z)[k]? = some (gs[k], z[k]) := List.getElem?_zip_eq_some.2 ⟨List.getElem?_eq_getElem h1, List.getElem?_eq_getElem hk⟩
 unfold Ag
 rw [List.getD_eq_getElem?_getD, h2, List.getD_eq_getElem?_getD, List.getD_eq_getElem?_getD, List.getElem?_eq_getElem h1, List.getElem?_eq_getElem hk]
 rfl
theorem auV_len (h : gs.length = z.length) : (auV gs z).length = z.length * 4 := by
 unfold auV
 rw [flat_len auP_len, zip_len' h]
theorem auV_get (h : gs.length = z.length) {k q : Nat} (hk : k < z.length) (hq : q < 4) : (auV gs z)[k * 4 + q]? = (auC (gs.getD k 0) (Ag z k))[q]? := by
 unfold auV
 rw [flat_get auP_len (0, Au.zero) _ (by rw [zip_len' h]; exact hk) hq, zip_getD h hk]
 rfl
theorem auV_app (h : gs.length = z.length) (g : Nat) (x : Au) : auV gs z ++ auC g x = auV (gs ++ [g]) (z ++ [x]) := by
 unfold auV
 rw [List.zip_append h]
 simp [auP]
theorem zip_set (h : gs.length = z.length) {k : Nat} (hk : k < z.length) (x : Au) : gs.zip (z.set k x) = (gs.zip z).set k (gs.getD k 0, x) := by
 apply List.ext_getElem?
 intro i
 by_cases e : k = i
 · subst e
   simp [List.getElem?_zip_eq_some, zip_len' h, hk, show k < gs.length by omega]
 · rw [List.getElem?_set_ne e]
   simp only [List.zip, List.getElem?_zipWith, List.getElem?_set_ne e]
theorem auV_nx (h : gs.length = z.length) {k : Nat} (hk : k < z.length) (f : UInt8 → Option Nat) : auV gs (z.set k { Ag z k with nx := f }) = auV gs z := by
 unfold auV
 rw [zip_set h hk]
 have := flat_put auP_len (gs.zip z) k (gs.getD k 0, Ag z k) (by rw [zip_len' h]; exact hk)
 have e1 : (gs.zip z).set k (gs.getD k 0, Ag z k) = gs.zip z := by
   rw [← zip_getD h hk]
   apply List.ext_getElem?
   intro i
   rw [List.getElem?_set]
   split
   · rename_i e
     subst e
     rw [if_pos (by rw [zip_len' h]; exact hk), List.getD_eq_getElem?_getD, List.getElem?_eq_getElem (by rw [zip_len' h]; exact hk)]
     rfl
   · rfl
 have e2 := flat_put auP_len (gs.zip z) k (gs.getD k 0, { Ag z k with nx := f }) (by rw [zip_len' h]; exact hk)
 rw [e1] at this
 rw [← e2]
 exact this
theorem auV_lk (h : gs.length = z.length) {k : Nat} (hk : k < z.length) (l : Int) : (auV gs z).set (k * 4 + 1) (.int .i64 l) = auV gs (z.set k { Ag z k with lk := l }) := by
 unfold auV
 rw [zip_set h hk]
 exact flat_set auP_len (0, Au.zero) _ k 1 _ _ (by rw [zip_len' h]; exact hk) (by decide) (by rw [zip_getD h hk]; rfl)
theorem auV_pos (h : gs.length = z.length) {k : Nat} (hk : k < z.length) : 0 < (auV gs z).length := by rw [auV_len h]; omega
theorem nxs_set (z : List Au) (k : Nat) (x : Au) : (z.set k x).map Au.nx = (z.map Au.nx).set k x.nx := List.map_set
theorem nxs_get {k : Nat} (hk : k < z.length) : (z.map Au.nx).getD k (fun _ => none) = (Ag z k).nx := by
 unfold Ag
 simp [List.getD_eq_getElem?_getD, hk]
theorem nxs_lk (z : List Au) {k : Nat} (hk : k < z.length) (l : Int) : (z.set k { Ag z k with lk := l }).map Au.nx = z.map Au.nx := by
 rw [nxs_set]
 apply List.ext_getElem?
 intro i
 rw [List.getElem?_set]
 split
 · rename_i e
   subst e
   rw [if_pos (by simpa using hk), List.getElem?_map]
   unfold Ag
   simp [hk]
 · rfl
end
/-! ### What is found -/
def fdC (p : Nat × Nat) : List Value := [.int .i64 (p.1 : Int), .int .i64 (p.2 : Int)]
def fdV (l : List (Nat × Nat)) : List Value := l.flatMap fdC
theorem fdC_len (p : Nat × Nat) : (fdC p).length = 2 := rfl
/-- The longest end of the first i bytes that stands in the old image ends there. -/
def FdOk (old new : List UInt8) (i : Nat) (p : Nat × Nat) : Prop := ∃ x, Lng old (new.take i) x ∧ p.2 = x.length ∧ p.1 ≤ old.length ∧ x.length ≤ p.1 ∧ (old.take p.1).drop (p.1 - x.length) = x
theorem fd_set {w b : List UInt8} {fs : List (Nat × Nat)} {i n : Nat} {p : Nat × Nat} (hl : fs.length = n + 1) (hi : i + 1 ≤ n) (h : ∀ j, j ≤ i → FdOk w b j (fs.getD j (0, 0))) (hp : FdOk w b (i + 1) p) (j : Nat) (hj : j ≤ i + 1) : FdOk w b j ((fs.set (i + 1) p).getD j (0, 0)) := by
 rw [List.getD_eq_getElem?_getD, List.getElem?_set]
 by_cases e : i + 1 = j
 · subst e
   rw [if_pos rfl, if_pos (by omega)]
   exact hp
 · rw [if_neg e, ← List.getD_eq_getElem?_getD]
   exact h j (by omega)
theorem fd_start {w b : List UInt8} {fs : List (Nat × Nat)} {n : Nat} (h : ∀ i, i ≤ n → FdOk w b i (fs.getD i (0, 0))) : 0 + (fs.getD 0 (0, 0)).2 ≤ 0 := by
 obtain ⟨x, h1, h2, _⟩ := h 0 (Nat.zero_le _)
 have := h1.1.length_le
 rw [List.take_zero] at this
 rw [h2]
 simpa using this
end Go.Sl
end
/-
  The automaton's steps as its loops take them.
-/
section
namespace Go.Sl

section
variable {w : List UInt8} {a b : List Au} {L : Nat → List UInt8} {last : Nat} {c : UInt8}
/-- At the first loop's head: the path has been followed down to p. -/
def PhI (w : List UInt8) (a : List Au) (L : Nat → List UInt8) (c : UInt8) (b : List Au) (p : Int) : Prop :=
 (p = -1 ∧ Ph1 w a L c 0 b) ∨ ∃ v : Nat, p = (v : Int) ∧ Trm w (Dn a) L v ∧ Ph1 w a L c ((L v).length + 1) b
def PhM (L : Nat → List UInt8) (p : Int) : Nat := if p < 0 then 0 else (L p.toNat).length + 1
theorem PhI.start (h : AuOk w (Dn a) (Ag a) L last) : PhI w a L c (a ++ [⟨fun _ => none, 0, w.length + 1, w.length + 1⟩]) (last : Int) := by
 refine .inr ⟨last, rfl, ⟨h.last.1, by rw [h.last.2]; exact List.suffix_refl _⟩, ?_⟩
 rw [h.last.2]
 exact Ph1.start h
theorem PhI.pos {p : Int} (h : PhI w a L c b p) (hp : 0 ≤ p) : ∃ v : Nat, p = (v : Int) ∧ Trm w (Dn a) L v ∧ Ph1 w a L c ((L v).length + 1) b := by
 rcases h with ⟨h, _⟩ | h
 · omega
 · exact h
theorem PhI.neg {p : Int} (h : PhI w a L c b p) (hp : p < 0) : p = -1 ∧ Ph1 w a L c 0 b := by
 rcases h with h | ⟨v, h, _⟩
 · exact h
 · omega
theorem PhI.next (h : AuOk w (Dn a) (Ag a) L last) {v : Nat} (hp : Ph1 w a L c ((L v).length + 1) b) (hv : Trm w (Dn a) L v) (hn : (Ag b v).nx c = none) :
   PhI w a L c (b.set v { Ag b v with nx := updA (Ag b v).nx c a.length }) (Ag b v).lk ∧ PhM L (Ag b v).lk < PhM L (v : Int) := by
 have hs := hp.step h hv hn
 have ho := (hp.old v hv.1).1
 unfold PhM
 rw [if_neg (by omega : ¬ ((v : Int) < 0)), Int.toNat_natCast]
 rcases Nat.eq_zero_or_pos v with rfl | h0
 · rw [ho, h.root.2.2, if_pos (by omega)]
   exact ⟨.inl ⟨rfl, hs.root h.root.2.1⟩, by omega⟩
 · obtain ⟨u, h1, h2, h3, h4⟩ := h.lnk v h0 hv.1
   have ht := h.trm_link hv h0 h2
   rw [ho, h2, if_neg (by omega), Int.toNat_natCast]
   exact ⟨.inr ⟨u, rfl, ht.1, hs.link h hv h0 h2⟩, by omega⟩
/-- Behind the first loop. -/
def PhX (w : List UInt8) (a : List Au) (L : Nat → List UInt8) (c : UInt8) (b : List Au) (p : Int) : Prop :=
 (p = -1 ∧ Ph1 w a L c 0 b) ∨ ∃ v u : Nat, p = (v : Int) ∧ Trm w (Dn a) L v ∧ Ph1 w a L c ((L v).length + 1) b ∧ (Ag b v).nx c = some u
theorem PhX.pos {p : Int} (h : PhX w a L c b p) (hp : ¬ p < 0) : ∃ v u : Nat, p = (v : Int) ∧ Trm w (Dn a) L v ∧ Ph1 w a L c ((L v).length + 1) b ∧ (Ag b v).nx c = some u := by
 rcases h with ⟨h, _⟩ | h
 · omega
 · exact h
theorem PhX.neg {p : Int} (h : PhX w a L c b p) (hp : p < 0) : Ph1 w a L c 0 b := by
 rcases h with h | ⟨v, _, h, _⟩
 · exact h.2
 · omega
theorem Ph1.target (h : AuOk w (Dn a) (Ag a) L last) {v q : Nat} (hp : Ph1 w a L c ((L v).length + 1) b) (hv : Trm w (Dn a) L v) (hq : (Ag b v).nx c = some q) : q < a.length ∧ 0 < q ∧ (Ag b q).ln = (L q).length ∧ (Ag b v).ln = (L v).length := by
 obtain ⟨_, h2, _⟩ := hp.found h hv hq
 have hqn : q < a.length := h2.1
 refine ⟨hqn, ?_, ?_, ?_⟩
 · rcases Nat.eq_zero_or_pos q with e | e
   · subst e
     have := h2.2.1.length_le
     rw [h.root.2.1, List.length_append] at this
     exact absurd this (by simp)
   · exact e
 · rw [(hp.old q hqn).2.1, h.len q hqn]
 · rw [(hp.old v hv.1).2.1, h.len v hv.1]
/-- At the second loop's head. -/
def PhJ (w : List UInt8) (a : List Au) (L : Nat → List UInt8) (c : UInt8) (v q : Nat) (f : UInt8 → Option Nat) (b : List Au) (p : Int) : Prop :=
 (p = -1 ∧ Ph2 w a L c v q f 0 b) ∨ ∃ u : Nat, p = (u : Int) ∧ Trm w (Dn a) L u ∧ (L u).length ≤ (L v).length ∧ Ph2 w a L c v q f ((L u).length + 1) b
/-- Behind it. -/
def PhK (w : List UInt8) (a : List Au) (L : Nat → List UInt8) (c : UInt8) (v q : Nat) (f : UInt8 → Option Nat) (b : List Au) : Prop :=
 ∃ t, Ph2 w a L c v q f t b ∧ ∀ x, Trm w (Dn a) L x → (L x).length < t → (L x).length ≤ (L v).length → (Ag a x).nx c ≠ some q
theorem PhJ.pos {v q : Nat} {f : UInt8 → Option Nat} {p : Int} (h : PhJ w a L c v q f b p) (hp : 0 ≤ p) : ∃ u : Nat, p = (u : Int) ∧ Trm w (Dn a) L u ∧ (L u).length ≤ (L v).length ∧ Ph2 w a L c v q f ((L u).length + 1) b := by
 rcases h with ⟨h, _⟩ | h
 · omega
 · exact h
theorem PhJ.neg {v q : Nat} {f : UInt8 → Option Nat} {p : Int} (h : PhJ w a L c v q f b p) (hp : ¬ 0 ≤ p) : PhK w a L c v q f b := by
 rcases h with ⟨_, h⟩ | ⟨v, h, _⟩
 · exact ⟨0, h, fun _ _ h => by omega⟩
 · omega
theorem PhJ.start (h : AuOk w (Dn a) (Ag a) L last) {v q : Nat} (hp : Ph1 w a L c ((L v).length + 1) b) (hv : Trm w (Dn a) L v) (hq : (Ag b v).nx c = some q) : PhJ w a L c v q (Ag b q).nx (b ++ [⟨(Ag b q).nx, (Ag b q).lk, (Ag b v).ln + 1, (Ag b q).en⟩]) (v : Int) :=
 .inr ⟨v, rfl, hv, Nat.le_refl _, Ph2.start h hp hv hq⟩
theorem Ph2.nx_old {v q t : Nat} {f : UInt8 → Option Nat} (hp : Ph2 w a L c v q f t b) {u : Nat} (hu : u < a.length) (ht : (L u).length < t) : (Ag b u).nx c = (Ag a u).nx c := (hp.old u hu).2.2.2.2.2.2 fun g => by omega
theorem PhJ.stop (h : AuOk w (Dn a) (Ag a) L last) {v q u : Nat} {f : UInt8 → Option Nat} (hv : Trm w (Dn a) L v) (hq : (Ag a v).nx c = some q) (hu : Trm w (Dn a) L u) (hle : (L u).length ≤ (L v).length) (hp : Ph2 w a L c v q f ((L u).length + 1) b) (hn : (Ag b u).nx c ≠ some q) : PhK w a L c v q f b := by
 refine ⟨_, hp, fun x hx hlt _ => ?_⟩
 rw [hp.nx_old hu.1 (Nat.lt_succ_self _)] at hn
 exact h.apart hv hq hu hle hn hx (by omega)
theorem PhJ.next (h : AuOk w (Dn a) (Ag a) L last) {v q u : Nat} {f : UInt8 → Option Nat} (hu : Trm w (Dn a) L u) (hle : (L u).length ≤ (L v).length) (hp : Ph2 w a L c v q f ((L u).length + 1) b) (hn : (Ag b u).nx c = some q) :
   PhJ w a L c v q f (b.set u { Ag b u with nx := updA (Ag b u).nx c (a.length + 1) }) (Ag b u).lk ∧ PhM L (Ag b u).lk < PhM L (u : Int) := by
 have hs := hp.step h hu hle hn
 have hlk := (hp.old u hu.1).1
 unfold PhM
 rw [if_neg (by omega : ¬ ((u : Int) < 0)), Int.toNat_natCast]
 rcases Nat.eq_zero_or_pos u with rfl | h0
 · rw [hlk, h.root.2.2, if_pos (by omega)]
   refine ⟨.inl ⟨rfl, ?_⟩, by omega⟩
   have e : (L 0).length = 0 := by rw [h.root.2.1]; rfl
   rw [e] at hs
   exact hs
 · obtain ⟨x, h1, h2, h3, h4⟩ := h.lnk u h0 hu.1
   have ht := h.trm_link hu h0 h2
   rw [hlk, h2, if_neg (by omega), Int.toNat_natCast]
   exact ⟨.inr ⟨x, rfl, ht.1, by omega, hs.link h hu h0 h2⟩, by omega⟩
theorem au_start : AuOk [] (Dn [⟨fun _ => none, -1, 0, 0⟩]) (Ag [⟨fun _ => none, -1, 0, 0⟩]) (fun _ => []) 0 :=
 cup (fun v => ⟨fun h => by subst h; exact Nat.zero_lt_one, fun h => by have : v < 1 := h; omega⟩) (AuOk.nil (A := Ag [⟨fun _ => none, -1, 0, 0⟩]) rfl)
theorem optD {o : Option Nat} {q : Nat} (h : o.getD 0 = q) (h0 : 0 < q) : o = some q := by
 cases o with
 | none => simp at h; omega
 | some u => simp at h; rw [h]
theorem Ph2.done' {v q t : Nat} {f : UInt8 → Option Nat} {b0 : List Au} (h : AuOk w (Dn a) (Ag a) L last) (hp : Ph2 w a L c v q f t b) (hv : Trm w (Dn a) L v) (hq : (Ag a v).nx c = some q) (hno : ∀ x, Trm w (Dn a) L x → (L x).length < t → (L x).length ≤ (L v).length → (Ag a x).nx c ≠ some q) (h1 : Ph1 w a L c ((L v).length + 1) b0) (hf : f = (Ag b0 q).nx) (hl : (L q).length ≠ (L v).length + 1) (hqa : q < a.length) :
   ∃ L', AuOk (w ++ [c]) (Dn ((b.set q { Ag b q with lk := ((a.length + 1 : Nat) : Int) }).set a.length { Ag (b.set q { Ag b q with lk := ((a.length + 1 : Nat) : Int) }) a.length with lk := ((a.length + 1 : Nat) : Int) })) (Ag ((b.set q { Ag b q with lk := ((a.length + 1 : Nat) : Int) }).set a.length { Ag (b.set q { Ag b q with lk := ((a.length + 1 : Nat) : Int) }) a.length with lk := ((a.length + 1 : Nat) : Int) })) L' a.length := by
 have hlen := hp.len
 rw [Ag_set (v := q) (by omega), if_neg (by omega)]
 exact hp.done h hv hq hno h1 hf hl
/-- At the head of the loop over the new image: where the automaton stands. -/
def EnI (w s : List UInt8) (z : List Au) (L : Nat → List UInt8) (v n : Nat) : Prop := ∃ x, Pc (Dn z) (Ag z) L v x ∧ Lng w s x ∧ n = x.length
theorem EnI.start {z : List Au} (h : AuOk w (Dn z) (Ag z) L last) : EnI w [] z L 0 0 := by
 refine ⟨[], ?_, ⟨List.nil_suffix, List.nil_infix, fun y hy _ => ?_⟩, rfl⟩
 · have := h.self h.root.1
   rw [h.root.2.1] at this
   exact this
 · rw [List.suffix_nil.1 hy]
   exact Nat.le_refl _
def SkI (w s : List UInt8) (z : List Au) (L : Nat → List UInt8) (c : UInt8) (v n : Nat) : Prop := ∃ x, Seek w (Dn z) (Ag z) L s c v x ∧ n = x.length
theorem EnI.seek {s : List UInt8} {z : List Au} {v n : Nat} (h : EnI w s z L v n) (c : UInt8) : SkI w s z L c v n := by
 obtain ⟨x, h1, h2, h3⟩ := h
 exact ⟨x, h2.seek h1 c, h3⟩
theorem SkI.lt {s : List UInt8} {z : List Au} {v n : Nat} (h : SkI w s z L c v n) : v < z.length ∧ n ≤ s.length := by
 obtain ⟨x, h1, h2⟩ := h
 exact ⟨h1.1.1, by rw [h2]; exact h1.2.1.length_le⟩
theorem SkI.back {s : List UInt8} {z : List Au} {v n : Nat} (hA : AuOk w (Dn z) (Ag z) L last) (h : SkI w s z L c v n) (hn : (Ag z v).nx c = none) (hv : 0 < v) : ∃ u : Nat, (Ag z v).lk = (u : Int) ∧ u < z.length ∧ SkI w s z L c u (Ag z u).ln ∧ (L u).length < (L v).length := by
 obtain ⟨x, h1, h2⟩ := h
 obtain ⟨u, k1, k2, k3, k4⟩ := hA.lnk v hv h1.1.1
 obtain ⟨g1, g2⟩ := h1.back hA hn k2 hv
 exact ⟨u, k2, k1, ⟨L u, g1, hA.len u k1⟩, g2⟩
theorem SkI.yes {s : List UInt8} {z : List Au} {v n u : Nat} (hA : AuOk w (Dn z) (Ag z) L last) (h : SkI w s z L c v n) (hn : (Ag z v).nx c = some u) : EnI w (s ++ [c]) z L u (n + 1) := by
 obtain ⟨x, h1, h2⟩ := h
 obtain ⟨g1, g2⟩ := h1.yes hA hn
 exact ⟨_, g1, g2, by rw [List.length_append, h2]; rfl⟩
theorem SkI.none {s : List UInt8} {z : List Au} {n : Nat} (hA : AuOk w (Dn z) (Ag z) L last) (h : SkI w s z L c 0 n) (hn : (Ag z 0).nx c = none) : EnI w (s ++ [c]) z L 0 n := by
 obtain ⟨x, h1, h2⟩ := h
 obtain ⟨g1, g2, g3⟩ := h1.none hA hn
 subst g1
 exact ⟨[], g2, g3, h2⟩
theorem EnI.lt {s : List UInt8} {z : List Au} {v n : Nat} (h : EnI w s z L v n) : v < z.length ∧ n ≤ s.length := by
 obtain ⟨x, h1, h2, h3⟩ := h
 exact ⟨h1.1, by rw [h3]; exact h2.1.length_le⟩
theorem EnI.fd {new : List UInt8} {i : Nat} {z : List Au} {v n : Nat} (hA : AuOk w (Dn z) (Ag z) L last) (h : EnI w (new.take i) z L v n) : FdOk w new i ((Ag z v).en, n) := by
 obtain ⟨x, h1, h2, h3⟩ := h
 obtain ⟨g1, g2, g3⟩ := hA.stands h1
 exact ⟨x, h2, h3, g1, g2, g3⟩
theorem FdOk.zero (w new : List UInt8) : FdOk w new 0 (0, 0) := ⟨[], Lng.start, rfl, Nat.zero_le _, Nat.le_refl _, rfl⟩
end
end Go.Sl
end
