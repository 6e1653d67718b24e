/-
  From the cheapest steps to a patch; no right patch costs less.
-/
import Derived.Test.YtbkmahjhhncfcaaGreatUMe
import Derived.Test.YtbkmahjhhncfcaaGreatUMg
namespace Go.Sl

theorem list_eq {a b : List UInt8} (hl : a.length = b.length) (h : ∀ j, j < a.length → a.getD j 0 = b.getD j 0) : a = b := by
 apply List.ext_getElem hl
 intro j h1 h2
 have := h j h1
 simpa [List.getD_eq_getElem?_getD, h1, h2] using this
theorem segN_get {new : List UInt8} {k i j : Nat} (hj : j < i - k) : (segN new k i).getD j 0 = new.getD (k + j) 0 := by
 unfold segN
 rw [List.getD_eq_getElem?_getD, List.getElem?_drop, List.getElem?_take, if_pos (by omega), ← List.getD_eq_getElem?_getD]
theorem segN_drop {new : List UInt8} {k i : Nat} (h : k ≤ i) : segN new k i ++ new.drop i = new.drop k := by
 unfold segN
 by_cases g : i ≤ new.length
 · conv => rhs; rw [← List.take_append_drop i new]
   rw [List.drop_append_of_le_length (by rw [List.length_take]; omega)]
 · rw [List.take_of_length_le (by omega), show new.drop i = [] from List.drop_eq_nil_of_le (by omega), List.append_nil]
theorem outQ_get {old : List UInt8} {x : Pq} {j : Nat} (h : j < x.ln.toNat) : (outQ old x).getD j 0 = symB old (symQ x j) := by
 unfold outQ runB syxQ
 simp [List.getD_eq_getElem?_getD, h]
theorem symB_lit {old : List UInt8} {x : Pq} {j : Nat} (h : x.k = 4) : symB old (symQ x j) = x.d.getD j 0 := by
 unfold symQ
 rw [if_neg (by omega), if_neg (by omega), if_neg (by omega)]
 rfl
theorem symB_run {old : List UInt8} {x : Pq} {j : Nat} (h : x.k = 3) : symB old (symQ x j) = x.b := by
 unfold symQ
 rw [if_neg (by omega), if_neg (by omega), if_pos h]
 rfl
theorem symB_copy {old : List UInt8} {x : Pq} {j : Nat} (h : x.k = 1) : symB old (symQ x j) = old.getD (x.fr + (j : Int)).toNat 0 := by
 unfold symQ symB
 rw [if_pos h, if_pos rfl]
 exact UInt8.zero_add _
/-- The operation of a step, with its bytes. -/
def opS (new : List UInt8) (i : Nat) (s : Sp) (A : Option Addr) (c : Nat) : Pq := ⟨(s.k : Int), (s.a : Int), (s.l : Int), s.b, if s.k = 4 then segN new s.f i else [], A, c⟩
theorem opS_ok {old new : List UInt8} {D : Nat → Nat} {i : Nat} {s : Sp} (h : StOk old new D i s) (hi : i ≤ new.length) (A : Option Addr) (c : Nat) :
   GoodQ (opS new i s A c) (old.length : Int) ∧ cosQ (opS new i s A c) + (D s.f : Int) = (D i : Int) ∧ (opS new i s A c).ln = (i : Int) - (s.f : Int) ∧ outQ old (opS new i s A c) = segN new s.f i := by
 obtain ⟨h1, h2, h3, h4⟩ := h
 have hln : (opS new i s A c).ln = (i : Int) - (s.f : Int) := by
   show (s.l : Int) = _
   omega
 have hlt : (opS new i s A c).ln.toNat = i - s.f := by rw [hln]; omega
 have hsl := segN_len (new := new) (k := s.f) hi
 rcases h4 with ⟨k4, a0, b0, hd⟩ | ⟨k3, a0, hb, hal, hd⟩ | ⟨k1, b0, ha, hs, hd⟩
 · have hdat : (opS new i s A c).d = segN new s.f i := if_pos k4
   have hk : (opS new i s A c).k = 4 := by show (s.k : Int) = 4; omega
   refine ⟨⟨by rw [hln]; omega, ?_⟩, ?_, hln, list_eq (by rw [outQ_len, hlt, hsl]) fun j hj => ?_⟩
   · unfold rigQ
     rw [if_neg (by omega), if_neg (by omega), if_neg (by omega), if_pos hk, hdat, hsl, hln]
     simp only [Bool.and_eq_true, decide_eq_true_eq]
     refine ⟨⟨by show (s.a : Int) = 0; omega, by show (s.b.toNat : Int) = 0; rw [b0]; rfl⟩, by omega⟩
   · unfold cosQ
     rw [if_neg (by omega), if_pos hk, hln]
     omega
   · rw [outQ_len, hlt] at hj
     rw [outQ_get (by omega), symB_lit hk, hdat]
 · have hk : (opS new i s A c).k = 3 := by show (s.k : Int) = 3; omega
   have hdat : (opS new i s A c).d = [] := if_neg (by omega)
   refine ⟨⟨by rw [hln]; omega, ?_⟩, ?_, hln, list_eq (by rw [outQ_len, hlt, hsl]) fun j hj => ?_⟩
   · unfold rigQ
     rw [if_neg (by omega), if_neg (by omega), if_pos hk, hdat]
     simp only [Bool.and_eq_true, decide_eq_true_eq]
     exact ⟨by show (s.a : Int) = 0; omega, rfl⟩
   · unfold cosQ
     rw [if_neg (by omega), if_neg (by omega)]
     omega
   · rw [outQ_len, hlt] at hj
     rw [outQ_get (by omega), symB_run hk, segN_get hj]
     show s.b = _
     rw [hb, hal (i - 1) (by omega) (by omega), hal (s.f + j) (by omega) (by omega)]
 · have hk : (opS new i s A c).k = 1 := by show (s.k : Int) = 1; omega
   have hdat : (opS new i s A c).d = [] := if_neg (by omega)
   have hfr : (opS new i s A c).fr = (s.a : Int) := rfl
   refine ⟨⟨by rw [hln]; omega, ?_⟩, ?_, hln, list_eq (by rw [outQ_len, hlt, hsl]) fun j hj => ?_⟩
   · unfold rigQ insQ
     rw [if_pos hk, hdat, hfr, hln]
     simp only [Bool.and_eq_true, decide_eq_true_eq]
     refine ⟨⟨⟨by omega, by omega⟩, by show (s.b.toNat : Int) = 0; rw [b0]; rfl⟩, rfl⟩
   · unfold cosQ
     rw [if_neg (by omega), if_neg (by omega)]
     omega
   · rw [outQ_len, hlt] at hj
     rw [outQ_get (by omega), symB_copy hk, hfr, hs, List.getD_eq_getElem?_getD (l := List.take _ _), List.getElem?_take, if_pos (by omega), List.getElem?_drop, ← List.getD_eq_getElem?_getD]
     congr 1
/-- What has been collected from the end on, the last operation first. -/
structure TlOk (old new : List UInt8) (D : Nat → Nat) (i : Nat) (os : List Pq) : Prop where
 good : ∀ x ∈ os, GoodQ x (old.length : Int)
 cost : cosL os + (D i : Int) = (D new.length : Int)
 lns : lnsQ os + (i : Int) = (new.length : Int)
 run : outsQ old os.reverse = new.drop i
theorem TlOk.start (old new : List UInt8) (D : Nat → Nat) : TlOk old new D new.length [] := ⟨fun _ h => (by cases h), by simp [cosL], by simp [lnsQ], by simp [outsQ, sylQ, runB]⟩
theorem cosL_snoc (l : List Pq) (x : Pq) : cosL (l ++ [x]) = cosL l + cosQ x := by simp [cosL]
theorem lnsQ_snoc (l : List Pq) (x : Pq) : lnsQ (l ++ [x]) = lnsQ l + x.ln := by simp [lnsQ]
theorem TlOk.step {old new : List UInt8} {D : Nat → Nat} {i : Nat} {os : List Pq} {s : Sp} (h : TlOk old new D i os) (hs : StOk old new D i s) (hi : i ≤ new.length) (A : Option Addr) (c : Nat) : TlOk old new D s.f (os ++ [opS new i s A c]) := by
 obtain ⟨h1, h2, h3, h4⟩ := opS_ok hs hi A c
 refine ⟨fun x hx => ?_, ?_, ?_, ?_⟩
 · rcases List.mem_append.1 hx with hx | hx
   · exact h.good x hx
   · rw [List.mem_singleton.1 hx]
     exact h1
 · have := h.cost
   rw [cosL_snoc]
   omega
 · have := h.lns
   rw [lnsQ_snoc, h3]
   omega
 · rw [List.reverse_append, List.reverse_singleton, List.singleton_append, outsQ_cons, h4, h.run, segN_drop (Nat.le_of_lt hs.2.1)]
theorem TlOk.len {old new : List UInt8} {D : Nat → Nat} {i : Nat} {os : List Pq} (h : TlOk old new D i os) : os.length + i ≤ new.length := by
 have := lnsQ_pos fun x hx => (h.good x hx).1
 have := h.lns
 omega
theorem TlOk.done {old new : List UInt8} {D : Nat → Nat} {os : List Pq} (h : TlOk old new D 0 os) (h0 : D 0 = 0) (ho : old.length ≤ 65536) (hn : new.length ≤ 4096) : MkQ old new os.reverse (D new.length : Int) := by
 have hl := h.len
 refine ⟨chkP_iff.2 ⟨by omega, by omega, by omega, by omega, by rw [List.length_reverse]; omega, fun x hx => h.good x (List.mem_reverse.1 hx), ?_⟩, ?_, ?_⟩
 · have := h.lns
   rw [lnsQ_rev]
   omega
 · have := h.run
   rw [List.drop_zero] at this
   exact this
 · have := h.cost
   rw [cosL_rev]
   omega
/-- No right patch costs less. -/
theorem dp_least {old new : List UInt8} {D : Nat → Nat} (h : DpOk (alN old new) D new.length) : ∀ (l : List Pq) (k : Nat), (∀ x ∈ l, GoodQ x (old.length : Int)) → k ≤ new.length → outsQ old l = new.drop k → (D new.length : Int) ≤ (D k : Int) + cosL l
 | [], k, _, hk, hr => by
   have hl := congrArg List.length hr
   rw [List.length_drop] at hl
   have : k = new.length := by
     have : (outsQ old []).length = 0 := rfl
     omega
   subst this
   simp [cosL]
 | x :: l, k, hg, hk, hr => by
   have hx := hg x (by simp)
   have h1 := hx.1
   rw [outsQ_cons] at hr
   have hlen := congrArg List.length hr
   rw [List.length_append, outQ_len, List.length_drop] at hlen
   have hki : k + x.ln.toNat ≤ new.length := by omega
   have hseg : outQ old x = segN new k (k + x.ln.toNat) := by
     have := congrArg (List.take x.ln.toNat) hr
     rw [List.take_left' (outQ_len old x)] at this
     rw [this]
     unfold segN
     rw [List.drop_take]
     congr 1
     omega
   have hrest : outsQ old l = new.drop (k + x.ln.toNat) := by
     have := congrArg (List.drop x.ln.toNat) hr
     rw [List.drop_left' (outQ_len old x), List.drop_drop] at this
     exact this
   have ih := dp_least h l (k + x.ln.toNat) (fun y hy => hg y (by simp [hy])) hki hrest
   have hget : ∀ j, j < x.ln.toNat → new.getD (k + j) 0 = symB old (symQ x j) := fun j hj => by
     rw [← outQ_get hj, hseg, segN_get (by omega)]
   have hlit := h.lit k (k + x.ln.toNat) (by omega) hki
   rw [cosL_cons]
   have hcase : (D (k + x.ln.toNat) : Int) ≤ (D k : Int) + cosQ x := by
     rcases rigQ_kind hx.2 with e | e | e | e
     · have hp : alN old new k (k + x.ln.toNat) := by
         left
         have hin := rigQ_in hx.2 (.inl e)
         have : segN new k (k + x.ln.toNat) = (old.drop x.fr.toNat).take x.ln.toNat := by
           refine list_eq ?_ fun j hj => ?_
           · rw [segN_len hki, List.length_take, List.length_drop]
             omega
           · rw [segN_len hki] at hj
             rw [segN_get hj, hget j (by omega), symB_copy e, List.getD_eq_getElem?_getD (l := List.take _ _), List.getElem?_take, if_pos (by omega), List.getElem?_drop, ← List.getD_eq_getElem?_getD]
             congr 1
             omega
         rw [this]
         exact (List.take_prefix _ _).isInfix.trans (List.drop_suffix _ _).isInfix
       have := h.piece k _ (by omega) hki hp
       unfold cosQ
       rw [if_neg (by omega), if_neg (by omega)]
       omega
     · unfold cosQ
       rw [if_pos e]
       omega
     · have hp : alN old new k (k + x.ln.toNat) := .inr fun j j1 j2 => by
         have a1 := hget (j - k) (by omega)
         have a2 := hget 0 (by omega)
         rw [symB_run e] at a1 a2
         rw [show k + (j - k) = j by omega] at a1
         rw [a1, ← a2, Nat.add_zero]
       have := h.piece k _ (by omega) hki hp
       unfold cosQ
       rw [if_neg (by omega), if_neg (by omega)]
       omega
     · unfold cosQ
       rw [if_neg (by omega), if_pos e]
       omega
   omega
end Go.Sl
