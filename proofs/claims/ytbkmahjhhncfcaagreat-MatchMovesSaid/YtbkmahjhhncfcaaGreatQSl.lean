/-
  A small separation logic over the kit's Code.wp: states are known slots, facts on memory that is only read, and rows that the call owns. Plain lemmas; no Go function is named here.
-/
import Derived.WalkKit
namespace Go.Sl

/-! ### Predicates on memory with the blocks on which they rest -/
structure Pr where
 fp : Nat → Prop
 p : World → Prop
 st : ∀ w w' : World, (∀ k, fp k → w'.heap[k]? = w.heap[k]?) → p w → p w'

structure Base where
 w0 : World
 mt : Nat → Prop
 ro : Nat → Prop

structure Ext (β : Base) (w : World) : Prop where
 os : w.os = β.w0.os
 tape : w.tape = β.w0.tape
 output : w.output = β.w0.output
 size : β.w0.heap.size ≤ w.heap.size
 block : ∀ k, k < β.w0.heap.size → ¬ β.mt k → w.heap[k]? = β.w0.heap[k]?

structure Sat (β : Base) (w : World) (R H : List Pr) : Prop where
 ext : Ext β w
 rd : ∀ r ∈ R, r.p w
 rfp : ∀ r ∈ R, ∀ k, r.fp k → k < w.heap.size ∧ (β.w0.heap.size ≤ k ∨ β.mt k ∨ β.ro k)
 own : ∀ (i : Nat) (c : Pr), H[i]? = some c → c.p w
 ofp : ∀ (i : Nat) (c : Pr), H[i]? = some c → ∀ k, c.fp k → k < w.heap.size ∧ (β.w0.heap.size ≤ k ∨ β.mt k)
 dis : ∀ (i j : Nat) (c d : Pr), H[i]? = some c → H[j]? = some d → i ≠ j → ∀ k, c.fp k → ¬ d.fp k
 sep : ∀ r ∈ R, ∀ (j : Nat) (c : Pr), H[j]? = some c → ∀ k, r.fp k → ¬ c.fp k

/-- One step of the world: the streams stay; no block goes; blocks outside 'm' stay. -/
structure Stp (w w' : World) (m : Nat → Prop) : Prop where
 os : w'.os = w.os
 tape : w'.tape = w.tape
 output : w'.output = w.output
 size : w.heap.size ≤ w'.heap.size
 block : ∀ k, k < w.heap.size → ¬ m k → w'.heap[k]? = w.heap[k]?

section
variable {β : Base} {w w' : World} {R H : List Pr}

theorem Stp.refl (w : World) (m : Nat → Prop) : Stp w w m := ⟨rfl, rfl, rfl, Nat.le_refl _, fun _ _ _ => rfl⟩
theorem Stp.drew (w : World) (m : Nat → Prop) : Stp w w.drew m := ⟨rfl, rfl, rfl, Nat.le_refl _, fun _ _ _ => rfl⟩
theorem Stp.alloc (w : World) (o : Obj) (m : Nat → Prop) : Stp w (w.alloc o) m := ⟨rfl, rfl, rfl, by simp, fun k hk _ => RowKit.Below.heap_alloc w o k hk⟩
theorem Stp.setCell (w : World) (a : Addr) (u : Value) : Stp w (w.setCell a u) (· = a.block) :=
 ⟨rfl, rfl, rfl, by simp, fun k _ hk => heap_setCell_other w a k u hk⟩
theorem Stp.trans {w1 w2 w3 : World} {m : Nat → Prop} (h : Stp w1 w2 m) (k : Stp w2 w3 (fun b => m b ∨ w1.heap.size ≤ b)) : Stp w1 w3 m :=
 ⟨k.os.trans h.os, k.tape.trans h.tape, k.output.trans h.output, Nat.le_trans h.size k.size,
  fun b hb hm => (k.block b (Nat.lt_of_lt_of_le hb h.size) (by rintro (x | x); exact hm x; omega)).trans (h.block b hb hm)⟩
theorem Stp.mono {m m' : Nat → Prop} (h : Stp w w' m) (hm : ∀ k, m k → m' k) : Stp w w' m' :=
 ⟨h.os, h.tape, h.output, h.size, fun k hk hn => h.block k hk fun x => hn (hm k x)⟩
theorem Stp.grown {row : Option Nat} (h : w.grownBy w' row) : Stp w w' (fun k => row = some k) :=
 ⟨h.os, h.tape, h.output, h.size, fun k hk hn => h.block k hk fun e => hn e.symm⟩

/-- The general step: what is owned at place j turns into what is asked. -/
theorem Sat.put (h : Sat β w R H) {m : Nat → Prop} (s : Stp w w' m) (hm : ∀ k, m k → k < w.heap.size → ∃ (i : Nat) (c : Pr), H[i]? = some c ∧ c.fp k)
   (R' H' : List Pr)
   (hR : ∀ r ∈ R', r ∈ R ∨ (r.p w' ∧ (∀ k, r.fp k → k < w'.heap.size ∧ (w.heap.size ≤ k ∨ (∃ (i : Nat) (c : Pr), H[i]? = some c ∧ c.fp k) ∨ ∃ r' ∈ R, r'.fp k))))
   (hH : ∀ (j : Nat) (c : Pr), H'[j]? = some c → c.p w' ∧ (∀ k, c.fp k → k < w'.heap.size ∧ (w.heap.size ≤ k ∨ ∃ (i : Nat) (d : Pr), H[i]? = some d ∧ d.fp k)))
   (hd : ∀ (i j : Nat) (c d : Pr), H'[i]? = some c → H'[j]? = some d → i ≠ j → ∀ k, c.fp k → ¬ d.fp k)
   (hs : ∀ r ∈ R', ∀ (j : Nat) (c : Pr), H'[j]? = some c → ∀ k, r.fp k → ¬ c.fp k) : Sat β w' R' H' := by
 have hn : ∀ k, (∃ (i : Nat) (c : Pr), H[i]? = some c ∧ c.fp k) → k < w.heap.size ∧ (β.w0.heap.size ≤ k ∨ β.mt k) := fun k ⟨i, c, hc, hk⟩ => h.ofp i c hc k hk
 refine ⟨⟨s.os.trans h.ext.os, s.tape.trans h.ext.tape, s.output.trans h.ext.output, Nat.le_trans h.ext.size s.size, fun k hk hmt => ?_⟩, ?_, ?_, fun i c hc => (hH i c hc).1, ?_, hd, hs⟩
 · refine (s.block k (Nat.lt_of_lt_of_le hk h.ext.size) fun hmk => ?_).trans (h.ext.block k hk hmt)
   rcases (hn k (hm k hmk (Nat.lt_of_lt_of_le hk h.ext.size))).2 with x | x
   · omega
   · exact hmt x
 · intro r hr
   rcases hR r hr with h1 | h1
   · refine r.st w w' (fun k hk => s.block k (h.rfp r h1 k hk).1 fun hmk => ?_) (h.rd r h1)
     obtain ⟨i, c, hc, hck⟩ := hm k hmk (h.rfp r h1 k hk).1
     exact h.sep r h1 i c hc k hk hck
   · exact h1.1
 · intro r hr k hk
   rcases hR r hr with h1 | h1
   · exact ⟨Nat.lt_of_lt_of_le (h.rfp r h1 k hk).1 s.size, (h.rfp r h1 k hk).2⟩
   · refine ⟨(h1.2 k hk).1, ?_⟩
     rcases (h1.2 k hk).2 with x | x | ⟨r', hr', x⟩
     · exact .inl (Nat.le_trans h.ext.size x)
     · rcases (hn k x).2 with y | y
       · exact .inl y
       · exact .inr (.inl y)
     · exact (h.rfp r' hr' k x).2
 · intro i c hc k hk
   refine ⟨((hH i c hc).2 k hk).1, ?_⟩
   rcases ((hH i c hc).2 k hk).2 with x | x
   · exact .inl (Nat.le_trans h.ext.size x)
   · exact (hn k x).2

/-- What is owned at place j turns. -/
theorem Sat.upd (h : Sat β w R H) {j : Nat} {c : Pr} (hj : H[j]? = some c) {m : Nat → Prop} (s : Stp w w' m) (hm : ∀ k, m k → k < w.heap.size → c.fp k) (c' : Pr)
   (hp : c'.p w') (hf : ∀ k, c'.fp k → k < w'.heap.size ∧ (w.heap.size ≤ k ∨ c.fp k)) : Sat β w' R (H.set j c') := by
 have hget : ∀ (i : Nat) (x : Pr), (H.set j c')[i]? = some x → (i = j ∧ x = c') ∨ (i ≠ j ∧ H[i]? = some x) := by
   intro i x hx
   rw [List.getElem?_set] at hx
   split at hx
   · rename_i e
     split at hx
     · exact .inl ⟨e.symm, (by injection hx with hx; exact hx.symm)⟩
     · cases hx
   · rename_i e
     exact .inr ⟨fun h => e h.symm, hx⟩
 have old : ∀ (i : Nat) (x : Pr), i ≠ j → H[i]? = some x → ∀ k, x.fp k → ¬ c'.fp k := by
   intro i x hi hx k hk hck
   rcases (hf k hck).2 with y | y
   · have := (h.ofp i x hx k hk).1; omega
   · exact h.dis i j x c hx hj hi k hk y
 refine h.put s (fun k hk hlt => ⟨j, c, hj, hm k hk hlt⟩) R (H.set j c') (fun r hr => .inl hr) ?_ ?_ ?_
 · intro i x hx
   rcases hget i x hx with ⟨_, rfl⟩ | ⟨hi, hx'⟩
   · refine ⟨hp, fun k hk => ⟨(hf k hk).1, ?_⟩⟩
     rcases (hf k hk).2 with y | y
     · exact .inl y
     · exact .inr ⟨j, c, hj, y⟩
   · refine ⟨x.st w w' (fun k hk => s.block k (h.ofp i x hx' k hk).1 fun hmk => h.dis i j x c hx' hj hi k hk (hm k hmk (h.ofp i x hx' k hk).1)) (h.own i x hx'), fun k hk => ⟨Nat.lt_of_lt_of_le (h.ofp i x hx' k hk).1 s.size, .inr ⟨i, x, hx', hk⟩⟩⟩
 · intro i i' x y hx hy hne k hk hk'
   rcases hget i x hx with ⟨e, rfl⟩ | ⟨hi, hx'⟩ <;> rcases hget i' y hy with ⟨e', rfl⟩ | ⟨hi', hy'⟩
   · omega
   · exact old i' y hi' hy' k hk' hk
   · exact old i x hi hx' k hk hk'
   · exact h.dis i i' x y hx' hy' hne k hk hk'
 · intro r hr i x hx k hk hk'
   rcases hget i x hx with ⟨_, rfl⟩ | ⟨hi, hx'⟩
   · rcases (hf k hk').2 with y | y
     · have := (h.rfp r hr k hk).1; omega
     · exact h.sep r hr j c hj k hk y
   · exact h.sep r hr i x hx' k hk hk'

/-- A new owned thing, in new blocks. -/
theorem Sat.snoc (h : Sat β w R H) {m : Nat → Prop} (s : Stp w w' m) (hm : ∀ k, m k → k < w.heap.size → False) (c' : Pr)
   (hp : c'.p w') (hf : ∀ k, c'.fp k → k < w'.heap.size ∧ w.heap.size ≤ k) : Sat β w' R (H ++ [c']) := by
 have hget : ∀ (i : Nat) (x : Pr), (H ++ [c'])[i]? = some x → (i = H.length ∧ x = c') ∨ (H[i]? = some x) := by
   intro i x hx
   rw [List.getElem?_append] at hx
   split at hx
   · exact .inr hx
   · rename_i hge
     by_cases e : i = H.length
     · subst e; simp at hx; exact .inl ⟨rfl, hx.symm⟩
     · rw [List.getElem?_eq_none (by simp; omega)] at hx; cases hx
 have lt : ∀ (i : Nat) (x : Pr), H[i]? = some x → i < H.length := fun i x hx => (List.getElem?_eq_some_iff.1 hx).1
 refine h.put s (fun k hk hlt => (hm k hk hlt).elim) R (H ++ [c']) (fun r hr => .inl hr) ?_ ?_ ?_
 · intro i x hx
   rcases hget i x hx with ⟨_, rfl⟩ | hx'
   · exact ⟨hp, fun k hk => ⟨(hf k hk).1, .inl (hf k hk).2⟩⟩
   · exact ⟨x.st w w' (fun k hk => s.block k (h.ofp i x hx' k hk).1 fun hmk => hm k hmk (h.ofp i x hx' k hk).1) (h.own i x hx'), fun k hk => ⟨Nat.lt_of_lt_of_le (h.ofp i x hx' k hk).1 s.size, .inr ⟨i, x, hx', hk⟩⟩⟩
 · intro i i' x y hx hy hne k hk hk'
   rcases hget i x hx with ⟨e, rfl⟩ | hx' <;> rcases hget i' y hy with ⟨e', rfl⟩ | hy'
   · omega
   · have := (h.ofp i' y hy' k hk').1; have := (hf k hk).2; omega
   · have := (h.ofp i x hx' k hk).1; have := (hf k hk').2; omega
   · exact h.dis i i' x y hx' hy' hne k hk hk'
 · intro r hr i x hx k hk hk'
   rcases hget i x hx with ⟨_, rfl⟩ | hx'
   · have := (h.rfp r hr k hk).1; have := (hf k hk').2; omega
   · exact h.sep r hr i x hx' k hk hk'

/-- Nothing but draws. -/
theorem Sat.same (h : Sat β w R H) (s : Stp w w' (fun _ => False)) : Sat β w' R H :=
 h.put s (fun _ hk => hk.elim) R H (fun _ hr => .inl hr)
   (fun i x hx => ⟨x.st w w' (fun k hk => s.block k (h.ofp i x hx k hk).1 id) (h.own i x hx), fun k hk => ⟨Nat.lt_of_lt_of_le (h.ofp i x hx k hk).1 s.size, .inr ⟨i, x, hx, hk⟩⟩⟩)
   h.dis h.sep

/-- Fewer read facts, or facts that follow. -/
theorem Sat.reads (h : Sat β w R H) (R' : List Pr) (hR : ∀ r ∈ R', r ∈ R ∨ (r.p w ∧ ∀ k, r.fp k → ∃ r' ∈ R, r'.fp k)) : Sat β w R' H := by
 refine h.put (Stp.refl w fun _ => False) (fun _ hk => hk.elim) R' H ?_ (fun i x hx => ⟨h.own i x hx, fun k hk => ⟨(h.ofp i x hx k hk).1, .inr ⟨i, x, hx, hk⟩⟩⟩) h.dis ?_
 · intro r hr
   rcases hR r hr with x | ⟨x, y⟩
   · exact .inl x
   · exact .inr ⟨x, fun k hk => by obtain ⟨r', hr', hk'⟩ := y k hk; exact ⟨(h.rfp r' hr' k hk').1, .inr (.inr ⟨r', hr', hk'⟩)⟩⟩
 · intro r hr j c hc k hk hck
   rcases hR r hr with x | ⟨_, y⟩
   · exact h.sep r x j c hc k hk hck
   · obtain ⟨r', hr', hk'⟩ := y k hk
     exact h.sep r' hr' j c hc k hk' hck

/-- Some of the owned things, in another order. -/
theorem Sat.pick (h : Sat β w R H) (H' : List Pr) (f : Nat → Nat) (hf : ∀ (i : Nat) (c : Pr), H'[i]? = some c → H[f i]? = some c) (hi : ∀ i j, i < H'.length → j < H'.length → f i = f j → i = j) : Sat β w R H' := by
 refine h.put (Stp.refl w fun _ => False) (fun _ hk => hk.elim) R H' (fun r hr => .inl hr) (fun i x hx => ⟨h.own _ x (hf i x hx), fun k hk => ⟨(h.ofp _ x (hf i x hx) k hk).1, .inr ⟨_, x, hf i x hx, hk⟩⟩⟩) ?_ ?_
 · intro i j c d hc hd hne k hk hk'
   have li := (List.getElem?_eq_some_iff.1 hc).1
   have lj := (List.getElem?_eq_some_iff.1 hd).1
   exact h.dis (f i) (f j) c d (hf i c hc) (hf j d hd) (fun e => hne (hi i j li lj e)) k hk hk'
 · intro r hr j c hc k hk hk'
   exact h.sep r hr _ c (hf j c hc) k hk hk'

end

/-! ### Owned rows, rows that are read -/
theorem adz (g k : Nat) : (⟨g, 0, none⟩ : Addr).add k = ⟨g, k, none⟩ := by
 unfold Addr.add
 split
 · rename_i h; subst h; rfl
 · simp

theorem addadd (a : Addr) (i j : Nat) : (a.add i).add j = a.add (i + j) := by
 unfold Addr.add
 by_cases hi : i = 0 <;> by_cases hj : j = 0 <;> simp [hi, hj, Nat.add_assoc]

theorem addblock (a : Addr) (n : Nat) : (a.add n).block = a.block := by unfold Addr.add; split <;> rfl

/-- The slice at A (nil if none), of n elements of type e, sz cells each, with capacity c, is owned; its cells are xs. -/
def Own (e : TypeId) (sz : Nat) (A : Option Addr) (n c : Nat) (xs : List Value) : Pr where
 fp k := ∃ a, A = some a ∧ a.block = k
 p w := w.ownsRow 0 e sz (.slice A n c) n xs
 st := by
   intro w w' hk h
   refine ⟨h.1, ?_⟩
   rcases h.2 with h2 | ⟨g, cap, cur, hv, hg, hh, r⟩
   · exact .inl h2
   · refine .inr ⟨g, cap, cur, hv, hg, ?_, r⟩
     rw [hk g ⟨_, by injection hv, rfl⟩]
     exact hh

/-- The cells from A on read as xs. -/
def Rd (A : Option Addr) (xs : List Value) : Pr where
 fp k := xs ≠ [] ∧ ∃ a, A = some a ∧ a.block = k
 p w := ∀ (j : Nat) u, xs[j]? = some u → ∃ a, A = some a ∧ w.cell? (a.add j) = some u
 st := by
   intro w w' hk h j u hu
   obtain ⟨a, ha, hc⟩ := h j u hu
   refine ⟨a, ha, ?_⟩
   rw [← hc]
   exact World.cell?_of_block (hk _ ⟨(by intro e; subst e; simp at hu), a, ha, by rw [addblock]⟩)

def ptrOf (A : Option Addr) (k : Nat) : Value := .pointer (A.map (·.add k))

section
variable {w : World} {e : TypeId} {sz n c : Nat} {A : Option Addr} {xs : List Value}

theorem Own.len (h : (Own e sz A n c xs).p w) : xs.length = n * sz := h.1

theorem Own.form (h : (Own e sz A n c xs).p w) (hx : 0 < xs.length) : ∃ g cur, A = some ⟨g, 0, none⟩ ∧ w.heap[g]? = some (.cells cur e (0, 0)) ∧ n ≤ c ∧ c ≤ maxLen ∧ cur.size = c * sz ∧ cur.toList.take (n * sz) = xs := by
 rcases h.2 with ⟨_, h2⟩ | ⟨g, cap, cur, hv, _, hh, h3, h4, h5, h6⟩
 · have := h.1; subst h2; omega
 · injection hv with h7 h8 h9
   subst h7 h9
   exact ⟨g, cur, rfl, hh, h3, h4, h5, h6⟩

theorem Own.cell (h : (Own e sz A n c xs).p w) {k : Nat} {v : Value} (hk : xs[k]? = some v) : ∃ g, A = some ⟨g, 0, none⟩ ∧ w.cell? ⟨g, k, none⟩ = some v ∧ w.frozen? ⟨g, k, none⟩ = false := by
 have hlt := (List.getElem?_eq_some_iff.1 hk).1
 obtain ⟨g, cur, rfl, hh, _, _, _, h6⟩ := Own.form h (by omega)
 refine ⟨g, rfl, ?_, frozen_of_row w g k cur e hh⟩
 rw [cell_of_row w g k cur e (0, 0) hh]
 rw [← h6, List.getElem?_take] at hk
 split at hk
 · simpa using hk
 · cases hk

theorem Own.cap (h : (Own e sz A n c xs).p w) : n ≤ c ∧ c ≤ maxLen := by
 rcases h.2 with ⟨hv, h2⟩ | ⟨g, cap, cur, hv, _, hh, h3, h4, h5, h6⟩
 · injection hv with _ h3 h4
   subst h2 h4
   exact ⟨Nat.zero_le _, Nat.zero_le _⟩
 · injection hv with _ _ h9
   subst h9
   exact ⟨h3, h4⟩

theorem Rd.cell (h : (Rd A xs).p w) {k : Nat} {v : Value} (hk : xs[k]? = some v) : ∃ a, A = some a ∧ w.cell? (a.add k) = some v := h k v hk
end

/-! ### The frame -/
abbrev Env := List (Nat × Value)

def look (s : Nat) : Env → Option Value
 | [] => none
 | (k, v) :: Γ => bif Nat.beq s k then some v else look s Γ

def ev (Γ : Env) : Operand → Option Value
 | .tmp t => look t Γ
 | .const v => some v
 | .global g => some (.pointer (some ⟨g, 0, none⟩))
 | .func f => some (.func (.func f) #[] #[])

def evs (Γ : Env) : List Operand → Option (List Value)
 | [] => some []
 | x :: xs => match ev Γ x, evs Γ xs with
   | some v, some vs => some (v :: vs)
   | _, _ => none

structure Fr (n : Nat) (ds : List Deferred) (a : Act) (Γ : Env) : Prop where
 size : a.tmps.size = n
 dfs : a.defers = ds
 vals : ∀ s v, look s Γ = some v → a.tmps[s]? = some v

section
variable {n : Nat} {ds : List Deferred} {a : Act} {Γ : Env}

theorem Fr.eval (h : Fr n ds a Γ) {x : Operand} {v : Value} (hx : ev Γ x = some v) : a.eval x = v := by
 cases x with
 | tmp t =>
   have := h.vals t v hx
   simp [Act.eval, this]
 | const u => injection hx
 | global g => injection hx
 | func f => injection hx

theorem Fr.put (h : Fr n ds a Γ) {d : Nat} (hd : d < n) (v : Value) : Fr n ds (a.put (some d) v) ((d, v) :: Γ) := by
 refine ⟨by simp [Act.put, h.size], h.dfs, ?_⟩
 intro s u hs
 simp only [look] at hs
 cases hb : Nat.beq s d with
 | true =>
   rw [hb] at hs
   obtain rfl := Nat.eq_of_beq_eq_true hb
   simp only [cond_true, Option.some.injEq] at hs
   subst hs
   simp [Act.put, h.size, hd]
 | false =>
   rw [hb] at hs
   have hne : d ≠ s := fun e => by subst e; simp at hb
   simp only [cond_false] at hs
   have := h.vals s u hs
   simp only [Act.put]
   rw [Array.getElem?_setIfInBounds_ne hne]
   exact this

theorem Fr.put_none (h : Fr n ds a Γ) (v : Value) : Fr n ds (a.put none v) Γ := h

/-- Fewer facts. -/
def EnvLe (Γ : Env) : Env → Prop
 | [] => True
 | (s, v) :: Γ' => look s Γ = some v ∧ EnvLe Γ Γ'

theorem EnvLe.look {Γ : Env} : ∀ {Γ' : Env}, EnvLe Γ Γ' → ∀ s v, look s Γ' = some v → look s Γ = some v
 | [], _, s, v, h => by cases h
 | (k, u) :: Γ', hl, s, v, h => by
   simp only [Sl.look] at h
   cases hb : Nat.beq s k with
   | true =>
     rw [hb] at h
     obtain rfl := Nat.eq_of_beq_eq_true hb
     simp only [cond_true, Option.some.injEq] at h
     subst h
     exact hl.1
   | false =>
     rw [hb] at h
     exact EnvLe.look hl.2 s v h

theorem Fr.le (h : Fr n ds a Γ) {Γ' : Env} (hl : EnvLe Γ Γ') : Fr n ds a Γ' := ⟨h.size, h.dfs, fun s v hs => h.vals s v (hl.look s v hs)⟩
end

/-! ### The types -/
structure Ti where
 desc : TypeDesc
 size : Nat
 bytes : Nat
 zero : Value

def tlook (t : Nat) : List (Nat × Ti) → Option Ti
 | [] => none
 | (k, i) :: l => bif Nat.beq t k then some i else tlook t l

structure TiOk (P : Program) (t : Nat) (i : Ti) : Prop where
 und : P.underlying t = some i.desc
 inf : ∃ j, P.info? t = some j ∧ j.size = i.size ∧ j.bytes = i.bytes ∧ j.zero = some i.zero

structure Cx where
 P : Program
 tab : List (Nat × Ti)
 ok : ∀ t i, tlook t tab = some i → TiOk P t i
 mixed : P.follows .mixedOrders = true

theorem tab_ok_cons {P : Program} {t : Nat} {i : Ti} {l : List (Nat × Ti)} (h : TiOk P t i) (hl : ∀ t i, tlook t l = some i → TiOk P t i) : ∀ u j, tlook u ((t, i) :: l) = some j → TiOk P u j := by
 intro u j hu
 simp only [tlook] at hu
 cases hb : Nat.beq u t with
 | true =>
   rw [hb] at hu
   obtain rfl := Nat.eq_of_beq_eq_true hb
   simp only [cond_true, Option.some.injEq] at hu
   subst hu
   exact h
 | false =>
   rw [hb] at hu
   exact hl u j hu

theorem tab_ok_nil {P : Program} : ∀ t i, tlook t [] = some i → TiOk P t i := by intro t i h; cases h

/-! ### Judgements -/
def QE (β : Base) (n : Nat) (ds : List Deferred) (Q : Exit → Act → World → Prop) (e : Exit) (Γ : Env) (R H : List Pr) : Prop :=
 ∀ a w, Fr n ds a Γ → Sat β w R H → Q e a w

def C (X : Cx) (β : Base) (n : Nat) (ds : List Deferred) (Q : Exit → Act → World → Prop) (c : Code) (Γ : Env) (R H : List Pr) : Prop :=
 ∀ a w, Fr n ds a Γ → Sat β w R H → c.wp X.P Q a w

def L (X : Cx) (β : Base) (n : Nat) (ds : List Deferred) (ops : Array Oper) (Q : Exit → Act → World → Prop) (rest : List Oper) (Γ : Env) (R H : List Pr) : Prop :=
 ∀ a w, Fr n ds a Γ → Sat β w R H → wpList X.P ops Q rest a w

/-- The operation hands back v in every such state, and leaves the world alone. -/
def Ev (X : Cx) (β : Base) (Γ : Env) (R H : List Pr) (op : Op) (v : Value) : Prop :=
 ∀ (ρ : Operand → Value) (w : World), (∀ x u, ev Γ x = some u → ρ x = u) → Sat β w R H → ∀ o : Oper, o.op = op → (execOp ρ o).run X.P w = .ok (.value v) w

/-- The operation hands back v and leaves a world of (R', H'). -/
def Dv (X : Cx) (β : Base) (Γ : Env) (R H : List Pr) (op : Op) (Φ : Next → List Pr → List Pr → Prop) : Prop :=
 ∀ (ρ : Operand → Value) (w : World), (∀ x u, ev Γ x = some u → ρ x = u) → Sat β w R H → ∀ o : Oper, o.op = op → ∃ v w' R' H', (execOp ρ o).run X.P w = .ok v w' ∧ Φ v R' H' ∧ Sat β w' R' H'

section
variable {X : Cx} {β : Base} {n : Nat} {ds : List Deferred} {ops : Array Oper} {Q : Exit → Act → World → Prop} {rest : List Oper} {Γ : Env} {R H : List Pr}

theorem Fr.agree {a : Act} (h : Fr n ds a Γ) : ∀ x u, ev Γ x = some u → a.eval x = u := fun _ _ hx => h.eval hx

theorem L.nil (h : QE β n ds Q .normal Γ R H) : L X β n ds ops Q [] Γ R H := fun a w hf hs => h a w hf hs

theorem L.step {op : Op} {v : Value} {d ty : Nat} {pos : String} {af : Array Edge} (h : Ev X β Γ R H op v) (hd : Nat.blt d n = true) (k : L X β n ds ops Q rest ((d, v) :: Γ) R H) :
   L X β n ds ops Q (⟨some d, op, ty, pos, af, none⟩ :: rest) Γ R H := by
 intro a w hf hs
 refine wpList_plain rfl fun K hK => ?_
 unfold Oper.wp
 rw [h a.eval w hf.agree hs _ rfl]
 exact hK _ _ (k _ _ (hf.put (by simpa [Nat.blt_eq] using hd) v) hs)

/-- An operation whose result nobody keeps. -/
theorem L.dv {op : Op} {Φ : Next → List Pr → List Pr → Prop} {dst : Option Nat} {ty : Nat} {pos : String} {af : Array Edge} (h : Dv X β Γ R H op Φ)
   (k : ∀ v R' H', Φ v R' H' → (∃ u, v = .value u ∧ ∃ d, dst = some d ∧ Nat.blt d n = true ∧ L X β n ds ops Q rest ((d, u) :: Γ) R' H') ∨ (v = .skip ∧ dst = none ∧ L X β n ds ops Q rest Γ R' H')) :
   L X β n ds ops Q (⟨dst, op, ty, pos, af, none⟩ :: rest) Γ R H := by
 intro a w hf hs
 refine wpList_plain rfl fun K hK => ?_
 unfold Oper.wp
 obtain ⟨v, w', R', H', hr, hΦ, hs'⟩ := h a.eval w hf.agree hs ⟨dst, op, ty, pos, af, none⟩ rfl
 rw [hr]
 rcases k v R' H' hΦ with ⟨u, rfl, d, rfl, hd, hl⟩ | ⟨rfl, rfl, hl⟩
 · exact hK _ _ (hl _ _ (hf.put (by simpa [Nat.blt_eq] using hd) u) hs')
 · exact hK _ _ (hl _ _ (hf.put_none _) hs')

end
end Go.Sl
