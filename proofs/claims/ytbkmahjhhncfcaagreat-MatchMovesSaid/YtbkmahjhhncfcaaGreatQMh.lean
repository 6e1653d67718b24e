/-
  From the cheapest steps to a patch; no right patch costs less.
-/
import Derived.Test.YtbkmahjhhncfcaaGreatQMb
import Derived.Test.YtbkmahjhhncfcaaGreatQPl
section
namespace Go.Sl

theorem list_eq {a b : List UInt8} (hl : a.length = b.length) (h : ∀ j, j < a.length → a.getD j 0 = b.getD j 0) : a = b := by
 apply List.ext_getElem hl
 intro j h1 h2
 have := h j h1
 simpa [List.getD_eq_getElem?_getD, h1, h2] using this
theorem segN_get {new : List UInt8} {k i j : Nat} (hj : j < i - k) : (segN new k i).getD j 0 = new.getD (k + j) 0 := by
 unfold segN
 rw [List.getD_eq_getElem?_getD, List.getElem?_drop, List.getElem?_take, if_pos (by omega), ← List.getD_eq_getElem?_getD]
theorem segN_drop {new : List UInt8} {k i : Nat} (h : k ≤ i) : segN new k i ++ new.drop i = new.drop k := by
 unfold segN
 by_cases g : i ≤ new.length
 · conv => rhs; rw [← List.take_append_drop i new]
   rw [List.drop_append_of_le_length (by rw [List.length_take]; omega)]
 · rw [List.take_of_length_le (by omega), show new.drop i = [] from List.drop_eq_nil_of_le (by omega), List.append_nil]
theorem outQ_get {old : List UInt8} {x : Pq} {j : Nat} (h : j < x.ln.toNat) : (outQ old x).getD j 0 = symB old (symQ x j) := by
 unfold outQ runB syxQ
 simp [List.getD_eq_getElem?_getD, h]
theorem symB_lit {old : List UInt8} {x : Pq} {j : Nat} (h : x.k = 4) : symB old (symQ x j) = x.d.getD j 0 := by
 unfold symQ
 rw [if_neg (by omega), if_neg (by omega), if_neg (by omega)]
 rfl
theorem symB_run {old : List UInt8} {x : Pq} {j : Nat} (h : x.k = 3) : symB old (symQ x j) = x.b := by
 unfold symQ
 rw [if_neg (by omega), if_neg (by omega), if_pos h]
 rfl
theorem symB_copy {old : List UInt8} {x : Pq} {j : Nat} (h : x.k = 1) : symB old (symQ x j) = old.getD (x.fr + (j : Int)).toNat 0 := by
 unfold symQ symB
 rw [if_pos h, if_pos rfl]
 exact UInt8.zero_add _
/-- The operation of a step, with its bytes. -/
def opS (new : List UInt8) (i : Nat) (s : Sp) (A : Option Addr) (c : Nat) : Pq := ⟨(s.k : Int), (s.a : Int), (s.l : Int), s.b, if s.k = 4 then segN new s.f i else [], A, c⟩
theorem opS_ok {old new : List UInt8} {D : Nat → Nat} {i : Nat} {s : Sp} (h : StOk old new D i s) (hi : i ≤ new.length) (A : Option Addr) (c : Nat) :
   GoodQ (opS new i s A c) (old.length : Int) ∧ cosQ (opS new i s A c) + (D s.f : Int) = (D i : Int) ∧ (opS new i s A c).ln = (i : Int) - (s.f : Int) ∧ outQ old (opS new i s A c) = segN new s.f i := by
 obtain ⟨h1, h2, h3, h4⟩ := h
 have hln : (opS new i s A c).ln = (i : Int) - (s.f : Int) := by
   show (s.l : Int) = _
   omega
 have hlt : (opS new i s A c).ln.toNat = i - s.f := by rw [hln]; omega
 have hsl := segN_len (new := new) (k := s.f) hi
 rcases h4 with ⟨k4, a0, b0, hd⟩ | ⟨k3, a0, hb, hal, hd⟩ | ⟨k1, b0, ha, hs, hd⟩
 · have hdat : (opS new i s A c).d = segN new s.f i := if_pos k4
   have hk : (opS new i s A c).k = 4 := by show (s.k : Int) = 4; omega
   refine ⟨⟨by rw [hln]; omega, ?_⟩, ?_, hln, list_eq (by rw [outQ_len, hlt, hsl]) fun j hj => ?_⟩
   · unfold rigQ
     rw [if_neg (by omega), if_neg (by omega), if_neg (by omega), if_pos hk, hdat, hsl, hln]
     simp only [Bool.and_eq_true, decide_eq_true_eq]
     refine ⟨⟨by show (s.a : Int) = 0; omega, by show (s.b.toNat : Int) = 0; rw [b0]; rfl⟩, by omega⟩
   · unfold cosQ
     rw [if_neg (by omega), if_pos hk, hln]
     omega
   · rw [outQ_len, hlt] at hj
     rw [outQ_get (by omega), symB_lit hk, hdat]
 · have hk : (opS new i s A c).k = 3 := by show (s.k : Int) = 3; omega
   have hdat : (opS new i s A c).d = [] := if_neg (by omega)
   refine ⟨⟨by rw [hln]; omega, ?_⟩, ?_, hln, list_eq (by rw [outQ_len, hlt, hsl]) fun j hj => ?_⟩
   · unfold rigQ
     rw [if_neg (by omega), if_neg (by omega), if_pos hk, hdat]
     simp only [Bool.and_eq_true, decide_eq_true_eq]
     exact ⟨by show (s.a : Int) = 0; omega, rfl⟩
   · unfold cosQ
     rw [if_neg (by omega), if_neg (by omega)]
     omega
   · rw [outQ_len, hlt] at hj
     rw [outQ_get (by omega), symB_run hk, segN_get hj]
     show s.b = _
     rw [hb, hal (i - 1) (by omega) (by omega), hal (s.f + j) (by omega) (by omega)]
 · have hk : (opS new i s A c).k = 1 := by show (s.k : Int) = 1; omega
   have hdat : (opS new i s A c).d = [] := if_neg (by omega)
   have hfr : (opS new i s A c).fr = (s.a : Int) := rfl
   refine ⟨⟨by rw [hln]; omega, ?_⟩, ?_, hln, list_eq (by rw [outQ_len, hlt, hsl]) fun j hj => ?_⟩
   · unfold rigQ insQ
     rw [if_pos hk, hdat, hfr, hln]
     simp only [Bool.and_eq_true, decide_eq_true_eq]
     refine ⟨⟨⟨by omega, by omega⟩, by show (s.b.toNat : Int) = 0; rw [b0]; rfl⟩, rfl⟩
   · unfold cosQ
     rw [if_neg (by omega), if_neg (by omega)]
     omega
   · rw [outQ_len, hlt] at hj
     rw [outQ_get (by omega), symB_copy hk, hfr, hs, List.getD_eq_getElem?_getD (l := List.take _ _), List.getElem?_take, if_pos (by omega), List.getElem?_drop, ← List.getD_eq_getElem?_getD]
     congr 1
/-- What has been collected from the end on, the last operation first. -/
structure TlOk (old new : List UInt8) (D : Nat → Nat) (i : Nat) (os : List Pq) : Prop where
 good : ∀ x ∈ os, GoodQ x (old.length : Int)
 cost : cosL os + (D i : Int) = (D new.length : Int)
 lns : lnsQ os + (i : Int) = (new.length : Int)
 run : outsQ old os.reverse = new.drop i
theorem TlOk.start (old new : List UInt8) (D : Nat → Nat) : TlOk old new D new.length [] := ⟨fun _ h => (by cases h), by simp [cosL], by simp [lnsQ], by simp [outsQ, sylQ, runB]⟩
theorem cosL_snoc (l : List Pq) (x : Pq) : cosL (l ++ [x]) = cosL l + cosQ x := by simp [cosL]
theorem lnsQ_snoc (l : List Pq) (x : Pq) : lnsQ (l ++ [x]) = lnsQ l + x.ln := by simp [lnsQ]
theorem TlOk.step {old new : List UInt8} {D : Nat → Nat} {i : Nat} {os : List Pq} {s : Sp} (h : TlOk old new D i os) (hs : StOk old new D i s) (hi : i ≤ new.length) (A : Option Addr) (c : Nat) : TlOk old new D s.f (os ++ [opS new i s A c]) := by
 obtain ⟨h1, h2, h3, h4⟩ := opS_ok hs hi A c
 refine ⟨fun x hx => ?_, ?_, ?_, ?_⟩
 · rcases List.mem_append.1 hx with hx | hx
   · exact h.good x hx
   · rw [List.mem_singleton.1 hx]
     exact h1
 · have := h.cost
   rw [cosL_snoc]
   omega
 · have := h.lns
   rw [lnsQ_snoc, h3]
   omega
 · rw [List.reverse_append, List.reverse_singleton, List.singleton_append, outsQ_cons, h4, h.run, segN_drop (Nat.le_of_lt hs.2.1)]
theorem TlOk.len {old new : List UInt8} {D : Nat → Nat} {i : Nat} {os : List Pq} (h : TlOk old new D i os) : os.length + i ≤ new.length := by
 have := lnsQ_pos fun x hx => (h.good x hx).1
 have := h.lns
 omega
theorem TlOk.done {old new : List UInt8} {D : Nat → Nat} {os : List Pq} (h : TlOk old new D 0 os) (h0 : D 0 = 0) (ho : old.length ≤ 65536) (hn : new.length ≤ 4096) : MkQ old new os.reverse (D new.length : Int) := by
 have hl := h.len
 refine ⟨chkP_iff.2 ⟨by omega, by omega, by omega, by omega, by rw [List.length_reverse]; omega, fun x hx => h.good x (List.mem_reverse.1 hx), ?_⟩, ?_, ?_⟩
 · have := h.lns
   rw [lnsQ_rev]
   omega
 · have := h.run
   rw [List.drop_zero] at this
   exact this
 · have := h.cost
   rw [cosL_rev]
   omega
end Go.Sl
end
/-
  The reference's least costs, as a function; images made of parts.
-/
section
namespace Go.Sl

def cpl : List UInt8 → List UInt8 → Nat
 | x :: a, y :: b => if x = y then cpl a b + 1 else 0
 | _, _ => 0
theorem cpl_iff : ∀ (a b : List UInt8) (m : Nat), m ≤ cpl a b ↔ m ≤ a.length ∧ m ≤ b.length ∧ a.take m = b.take m
 | x :: a, y :: b, 0 => by simp
 | x :: a, y :: b, m + 1 => by
   unfold cpl
   by_cases h : x = y
   · subst h
     rw [if_pos rfl]
     simp [cpl_iff a b m]
   · rw [if_neg h]
     simp [h]
 | [], b, m => by
   cases m <;> simp [cpl]
 | x :: a, [], m => by
   cases m <;> simp [cpl]
def lngF (b s : List UInt8) : Nat → Nat
 | 0 => 0
 | n + 1 => max (lngF b s n) (cpl (b.drop n) s)
def eqlF (s : List UInt8) : Nat := cpl s (List.replicate s.length (s.getD 0 0))
def farF (old s : List UInt8) : Nat := max (lngF old s old.length) (eqlF s)
theorem lngF_iff (b s : List UInt8) {m : Nat} (hm : 0 < m) : ∀ n, m ≤ lngF b s n ↔ ∃ i, i < n ∧ m ≤ cpl (b.drop i) s
 | 0 => by
   unfold lngF
   exact ⟨fun h => by omega, fun ⟨i, hi, _⟩ => by omega⟩
 | n + 1 => by
   unfold lngF
   constructor
   · intro h
     by_cases g : m ≤ lngF b s n
     · obtain ⟨i, h1, h2⟩ := (lngF_iff b s hm n).1 g
       exact ⟨i, by omega, h2⟩
     · exact ⟨n, by omega, by omega⟩
   · rintro ⟨i, h1, h2⟩
     by_cases e : i = n
     · subst e
       omega
     · have := (lngF_iff b s hm n).2 ⟨i, by omega, h2⟩
       omega
theorem lngF_fac {b s : List UInt8} {m : Nat} (h0 : 0 < m) (hm : m ≤ s.length) : m ≤ lngF b s b.length ↔ s.take m <:+: b := by
 rw [lngF_iff b s h0]
 constructor
 · rintro ⟨i, _, h2⟩
   obtain ⟨_, _, h3⟩ := (cpl_iff _ _ _).1 h2
   rw [← h3]
   exact (List.take_prefix _ _).isInfix.trans (List.drop_suffix _ _).isInfix
 · rintro ⟨p, q, e⟩
   have hl : (s.take m).length = m := by rw [List.length_take]; omega
   have hb := congrArg List.length e
   simp only [List.length_append, hl] at hb
   refine ⟨p.length, by omega, (cpl_iff _ _ _).2 ⟨by rw [List.length_drop]; omega, hm, ?_⟩⟩
   rw [← e, List.append_assoc, List.drop_left, List.take_left' hl]
theorem eqlF_iff {s : List UInt8} {m : Nat} (hm : m ≤ s.length) : m ≤ eqlF s ↔ ∀ j, j < m → s.getD j 0 = s.getD 0 0 := by
 unfold eqlF
 rw [cpl_iff, List.length_replicate]
 constructor
 · rintro ⟨_, _, h⟩ j hj
   have h1 := congrArg (fun l : List UInt8 => l.getD j 0) h
   simp only [List.getD_eq_getElem?_getD, List.getElem?_take, if_pos hj, List.getElem?_replicate, if_pos (show j < s.length by omega)] at h1 ⊢
   simpa using h1
 · intro h
   refine ⟨hm, hm, ?_⟩
   apply List.ext_getElem?
   intro j
   rw [List.getElem?_take, List.getElem?_take]
   by_cases hj : j < m
   · rw [if_pos hj, if_pos hj, List.getElem?_replicate, if_pos (by omega)]
     have := h j hj
     rw [List.getD_eq_getElem?_getD, List.getElem?_eq_getElem (show j < s.length by omega)] at this
     rw [List.getElem?_eq_getElem (show j < s.length by omega)]
     exact congrArg some this
   · rw [if_neg hj, if_neg hj]
theorem farF_iff {old new : List UInt8} {i k : Nat} (h1 : i < k) (h2 : k ≤ new.length) : k ≤ i + farF old (new.drop i) ↔ alN old new i k := by
 have hl : (new.drop i).length = new.length - i := List.length_drop
 have e1 : (new.drop i).take (k - i) = segN new i k := by
   unfold segN
   rw [List.drop_take]
 have g1 := lngF_fac (b := old) (s := new.drop i) (m := k - i) (by omega) (by omega)
 have g2 := eqlF_iff (s := new.drop i) (m := k - i) (by omega)
 have hg : ∀ j, (new.drop i).getD j 0 = new.getD (i + j) 0 := fun j => by simp [List.getD_eq_getElem?_getD, List.getElem?_drop]
 have g3 : (∀ j, j < k - i → (new.drop i).getD j 0 = (new.drop i).getD 0 0) ↔ alikeN new i k := by
   constructor
   · intro h j j1 j2
     have := h (j - i) (by omega)
     rw [hg, hg, Nat.add_zero, show i + (j - i) = j by omega] at this
     exact this
   · intro h j hj
     rw [hg, hg, Nat.add_zero]
     exact h (i + j) (by omega) (by omega)
 rw [e1] at g1
 unfold farF alN
 rw [← g1, ← g3, ← g2]
 omega
/-! ### The table of costs -/
def cs0 (n : Nat) : List Nat := (List.range (n + 1)).map fun i => if i = 0 then 0 else 2 + i
def stV (cs : List Nat) (i far k : Nat) : Nat := if k ≤ i + far then min (min (cs.getD k 0) (cs.getD i 0 + 2 + (k - i))) (cs.getD i 0 + 4) else min (cs.getD k 0) (cs.getD i 0 + 2 + (k - i))
def inL (cs : List Nat) (i far : Nat) : Nat → List Nat
 | 0 => cs
 | j + 1 => (inL cs i far j).set (i + 1 + j) (stV (inL cs i far j) i far (i + 1 + j))
def outL (old new : List UInt8) : Nat → List Nat
 | 0 => cs0 new.length
 | i + 1 => inL (outL old new i) i (farF old (new.drop i)) (new.length - i)
def refL (old new : List UInt8) : Nat := (outL old new new.length).getD new.length 0
theorem cs0_len (n : Nat) : (cs0 n).length = n + 1 := by simp [cs0]
theorem inL_len (cs : List Nat) (i far : Nat) : ∀ j, (inL cs i far j).length = cs.length
 | 0 => rfl
 | j + 1 => by rw [inL, List.length_set, inL_len cs i far j]
theorem outL_len (old new : List UInt8) : ∀ i, (outL old new i).length = new.length + 1
 | 0 => cs0_len _
 | i + 1 => by rw [outL, inL_len, outL_len old new i]
theorem fw_in {old new : List UInt8} {cs : List Nat} {i : Nat} (hl : cs.length = new.length + 1) (hi : i < new.length) (h : FwOk (alN old new) (fun k => cs.getD k 0) new.length i (i + 1)) : ∀ j, j ≤ new.length - i → FwOk (alN old new) (fun k => (inL cs i (farF old (new.drop i)) j).getD k 0) new.length i (i + 1 + j)
 | 0, _ => h
 | j + 1, hj => by
   have ih := fw_in hl hi h j (by omega)
   have hlen := inL_len cs i (farF old (new.drop i)) j
   have hlt : i + 1 + j < (inL cs i (farF old (new.drop i)) j).length := by rw [hlen, hl]; omega
   have hfar := farF_iff (old := old) (new := new) (i := i) (k := i + 1 + j) (by omega) (by omega)
   have hE : ∀ k, (inL cs i (farF old (new.drop i)) (j + 1)).getD k 0 = if i + 1 + j = k then stV (inL cs i (farF old (new.drop i)) j) i (farF old (new.drop i)) (i + 1 + j) else (inL cs i (farF old (new.drop i)) j).getD k 0 := by
     intro k
     rw [inL, List.getD_eq_getElem?_getD, List.getElem?_set]
     by_cases e : i + 1 + j = k
     · subst e
       rw [if_pos rfl, if_pos hlt, if_pos rfl]
       rfl
     · rw [if_neg e, if_neg e, List.getD_eq_getElem?_getD]
   have hm := hE (i + 1 + j)
   rw [if_pos rfl] at hm
   unfold stV at hm
   refine ih.step (by omega) (by omega) (fun k hk => by rw [hE, if_neg (fun e => hk e.symm)]) ?_ ?_ (fun ha => ?_) ?_
   · rw [hm]
     split <;> omega
   · rw [hm]
     split <;> omega
   · rw [hm, if_pos (hfar.2 ha)]
     omega
   · rw [hm]
     split
     · rename_i g
       have ha := hfar.1 g
       by_cases c1 : min (min ((inL cs i (farF old (new.drop i)) j).getD (i + 1 + j) 0) ((inL cs i (farF old (new.drop i)) j).getD i 0 + 2 + (i + 1 + j - i))) ((inL cs i (farF old (new.drop i)) j).getD i 0 + 4) = (inL cs i (farF old (new.drop i)) j).getD (i + 1 + j) 0
       · exact .inl c1
       · by_cases c2 : min (min ((inL cs i (farF old (new.drop i)) j).getD (i + 1 + j) 0) ((inL cs i (farF old (new.drop i)) j).getD i 0 + 2 + (i + 1 + j - i))) ((inL cs i (farF old (new.drop i)) j).getD i 0 + 4) = (inL cs i (farF old (new.drop i)) j).getD i 0 + 4
         · exact .inr (.inr ⟨ha, c2⟩)
         · exact .inr (.inl (by omega))
     · omega
theorem fw_out (old new : List UInt8) : ∀ i, i ≤ new.length → FwOk (alN old new) (fun k => (outL old new i).getD k 0) new.length i (i + 1)
 | 0, _ => by
   have hg : ∀ k, k ≤ new.length → (cs0 new.length).getD k 0 = if k = 0 then 0 else 2 + k := fun k hk => by
     simp [cs0, List.getD_eq_getElem?_getD, show k < new.length + 1 by omega]
   refine FwOk.start _ _ ?_ fun k h0 hk => ?_
   · show (cs0 new.length).getD 0 0 = 0
     rw [hg 0 (Nat.zero_le _), if_pos rfl]
   · show (cs0 new.length).getD k 0 = 2 + k
     rw [hg k hk, if_neg (by omega)]
 | i + 1, hi => by
   have := fw_in (outL_len old new i) (by omega) (fw_out old new i (by omega)) (new.length - i) (Nat.le_refl _)
   rw [show i + 1 + (new.length - i) = new.length + 1 by omega] at this
   exact this.next (by omega)
theorem ref_dp (old new : List UInt8) : DpOk (alN old new) (fun k => (outL old new new.length).getD k 0) new.length := (fw_out old new new.length (Nat.le_refl _)).done
/-- All least costs are the reference's. -/
theorem dp_ref {old new : List UInt8} {D : Nat → Nat} (h : DpOk (alN old new) D new.length) : D new.length = refL old new := h.uniq (ref_dp old new) _ (Nat.le_refl _)
/-! ### What equal images cost -/
end Go.Sl
end
/-
  A list turned round in its row; the operations of steps in memory.
-/
section
namespace Go.Sl

/-- The outer elements, up to i, have been exchanged. -/
def RvI {α : Type} (d : α) (l xs : List α) (i : Nat) : Prop := xs.length = l.length ∧ ∀ k, k < l.length → xs.getD k d = if k < i ∨ l.length - 1 - i < k then l.getD (l.length - 1 - k) d else l.getD k d
section
variable {α : Type} {d : α} {l xs : List α} {i : Nat}
theorem RvI.start : RvI d l l 0 := ⟨rfl, fun k hk => by rw [if_neg (by omega)]⟩
theorem getD_set {l : List α} {i : Nat} (hi : i < l.length) (x d : α) (k : Nat) : (l.set i x).getD k d = if i = k then x else l.getD k d := by
 rw [List.getD_eq_getElem?_getD, List.getElem?_set]
 by_cases e : i = k
 · subst e
   rw [if_pos rfl, if_pos hi, if_pos rfl]
   rfl
 · rw [if_neg e, if_neg e, List.getD_eq_getElem?_getD]
theorem RvI.step (h : RvI d l xs i) (hi : i < l.length - 1 - i) : RvI d l ((xs.set i (xs.getD (l.length - 1 - i) d)).set (l.length - 1 - i) (xs.getD i d)) (i + 1) := by
 obtain ⟨h1, h2⟩ := h
 refine ⟨by rw [List.length_set, List.length_set]; exact h1, fun k hk => ?_⟩
 rw [getD_set (by rw [List.length_set]; omega), getD_set (by omega)]
 by_cases e1 : l.length - 1 - i = k
 · rw [if_pos e1, if_pos (by omega), h2 i (by omega), if_neg (by omega)]
   congr 1
   omega
 · rw [if_neg e1]
   by_cases e2 : i = k
   · rw [if_pos e2, if_pos (by omega), h2 _ (by omega), if_neg (by omega)]
     congr 1
     omega
   · rw [if_neg e2, h2 k hk]
     by_cases g : k < i ∨ l.length - 1 - i < k
     · rw [if_pos g, if_pos (by omega)]
     · rw [if_neg g, if_neg (by omega)]
theorem RvI.done (h : RvI d l xs i) (hi : ¬ i < l.length - 1 - i) (hl : i < l.length ∨ l.length = 0) : xs = l.reverse := by
 obtain ⟨h1, h2⟩ := h
 apply List.ext_getElem (by rw [h1, List.length_reverse])
 intro k k1 k2
 have := h2 k (by omega)
 rw [List.getElem_reverse]
 have e : xs.getD k d = xs[k] := by simp [List.getD_eq_getElem?_getD, k1]
 rw [e] at this
 rw [this]
 by_cases g : k < i ∨ l.length - 1 - i < k
 · rw [if_pos g]
   simp [List.getD_eq_getElem?_getD, show l.length - 1 - k < l.length by omega]
 · rw [if_neg g]
   have : l.length - 1 - k = k := by omega
   simp [List.getD_eq_getElem?_getD, this, show k < l.length by omega]
end
theorem pqV_put {l : List Pq} {k : Nat} (y : Pq) (hk : k < l.length) : (pqV l).take (k * 5) ++ y.cells ++ (pqV l).drop (k * 5 + y.cells.length) = pqV (l.set k y) := flat_put Pq.cells_len l k y hk
theorem pqV_ble {l : List Pq} {k : Nat} (y : Pq) (hk : k < l.length) : Nat.ble (k * 5 + y.cells.length) (pqV l).length = true := Nat.ble_eq_true_of_le (by rw [pqV_len]; show _ + 5 ≤ _; omega)
theorem pqH_rev (l : List Pq) : pqH l.reverse = (pqH l).reverse := by simp [pqH]
theorem pqD_rev (l : List Pq) : B8 (pqD l.reverse) = (B8 (pqD l)).reverse := by simp [pqD, B8]
theorem Has.kidsRev {R H : List Pr} {hs : List Hd} {vss : List (List Value)} (hl : hs.length = vss.length) (h : Has R H (KidsR hs vss)) : Has R H (KidsR hs.reverse vss.reverse) := by
 have key : ∀ (i : Nat) (g : Hd) (v : List Value), hs.reverse[i]? = some g → vss.reverse[i]? = some v → ∃ j : Nat, hs[j]? = some g ∧ vss[j]? = some v := by
   intro i g v hg hv
   have hi : i < hs.length := by
     have := (List.getElem?_eq_some_iff.1 hg).1
     simpa using this
   rw [List.getElem?_reverse hi] at hg
   rw [List.getElem?_reverse (by omega), ← hl] at hv
   exact ⟨_, hg, hv⟩
 refine ⟨fun β w hw i g v hg hv => ?_, fun k ⟨i, g, v, hg, hv, hk⟩ => ?_⟩
 · obtain ⟨j, h1, h2⟩ := key i g v hg hv
   exact h.1 β w hw j g v h1 h2
 · obtain ⟨j, h1, h2⟩ := key i g v hg hv
   exact h.2 k ⟨j, g, v, h1, h2, hk⟩
/-! ### The operation of a step -/
theorem sp_at {NA : Option Addr} {nc : Nat} {ss : List Sp} {k : Nat} (hk : k < ss.length) : ((ss.flatMap (spC NA nc)).drop (k * 7 + 2)).take 5 = (spC NA nc (ss.getD k Sp.zero)).drop 2 := by
 rw [← flat_at (spC_len NA nc) Sp.zero ss k hk, List.drop_take, List.drop_drop]
theorem sp_one2 (NA : Option Addr) (nc : Nat) (s : Sp) : ((spC NA nc s).drop 2).all Value.oneCell' = true := by
 unfold spC
 split <;> rfl
theorem sp_from {NA : Option Addr} {nc : Nat} {ss : List Sp} {k : Nat} (hk : k < ss.length) : (ss.flatMap (spC NA nc))[k * 7 + 1]? = some (.int .i64 ((ss.getD k Sp.zero).f : Int)) := flat_get (spC_len NA nc) Sp.zero ss hk (by decide)
def spA (NA : Option Addr) (nc : Nat) (s : Sp) : Option Addr := if s.k = 4 then subA NA nc s.f 1 else none
def spK (nc : Nat) (s : Sp) : Nat := if s.k = 4 then nc - s.f else 0
def spD (new : List UInt8) (i : Nat) (s : Sp) : List UInt8 := if s.k = 4 then segN new s.f i else []
theorem spS_eq {old new : List UInt8} {D : Nat → Nat} {i : Nat} {s : Sp} (NA : Option Addr) (nc : Nat) (h : StOk old new D i s) (hi : i ≤ new.length) : (if s.k = 4 then Value.slice (subA NA nc s.f 1) s.l (nc - s.f) else Value.slice none 0 0) = Value.slice (spA NA nc s) (spD new i s).length (spK nc s) := by
 unfold spA spD spK
 split
 · rw [segN_len hi, h.2.2.1]
 · rfl
theorem Has.spD {R H : List Pr} {new : List UInt8} {NA : Option Addr} {nc i : Nat} {s : Sp} (h : Has R H (Rd NA (U8 new))) (hc : new.length ≤ nc) : Has R H (Rd (spA NA nc s) (U8 (Sl.spD new i s))) := by
 unfold spA Sl.spD
 split
 · have := h.sub nc s.f 1 (i - s.f) (by rw [U8_len]; omega)
   refine this.cast ?_
   unfold U8 segN
   rw [Nat.mul_one, List.map_drop, List.map_take, List.drop_take]
 · exact Has.nil
theorem pqH_snoc (l : List Pq) (x : Pq) : pqH (l ++ [x]) = pqH l ++ [(x.A, x.c)] := by simp [pqH]
theorem pqD_snoc (l : List Pq) (x : Pq) : B8 (pqD (l ++ [x])) = B8 (pqD l) ++ [U8 x.d] := by simp [pqD, B8]
end Go.Sl
end
