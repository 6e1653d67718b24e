/-
  The small separation logic: a range over a function.
-/
import Derived.RangeFuncLeaves
import Derived.RangeFuncRecord
import Derived.RangeFuncSeq
import Derived.TacticsIn
import Derived.Test.YtmbjknampholjaaESlP
import Derived.Test.YtmbjknampholjaaEPs
section
namespace Go.Sl

section
variable {X : Cx} {β : Base} {n : Nat} {ds : List Deferred} {ops : Array Oper} {Q : Exit → Act → World → Prop} {rest : List Oper} {Γ : Env} {R H : List Pr}

/-! ### One round -/
/-- A list of operations of which one may call yield. -/
def LY (X : Cx) (β : Base) (n : Nat) (ds : List Deferred) (ops : Array Oper) (Q : Exit → Act → World → Prop) (rest : List Oper) (Γ : Env) (R H : List Pr) : Prop :=
 ∀ a w, Fr n ds a Γ → Sat β w R H → wpListIn Fence.wide 0 X.P ops Q rest a w
theorem LY.nil (h : QE β n ds Q .normal Γ R H) : LY X β n ds ops Q [] Γ R H := fun a w hf hs => h a w hf hs
theorem LY.step {op : Op} {v : Value} {d ty : Nat} {pos : String} {af : Array Edge} (h : Ev X β Γ R H op v) (hd : Nat.blt d n = true) (k : LY X β n ds ops Q rest ((d, v) :: Γ) R H) : LY X β n ds ops Q (⟨some d, op, ty, pos, af, none⟩ :: rest) Γ R H := by
 intro a w hf hs
 refine wpListIn_plain rfl fun K hK => ⟨fun f _ => trivial, ?_⟩
 show Oper.uponIn _ _ _ _ _ _ _ ((execOp a.eval _).run X.P w)
 rw [h a.eval w hf.agree hs _ rfl]
 exact hK _ _ (k _ _ (hf.put (by simpa [Nat.blt_eq] using hd) v) hs)
theorem LY.yes {dst : Option Nat} {op : Op} {ty : Nat} {pos : String} {af : Array Edge} {g : Nat} {b : Bool} (hg : gval ops Γ g = some (.bool b)) (h : LY X β n ds ops Q (⟨dst, op, ty, pos, af, none⟩ :: rest) Γ R H) :
   LY X β n ds ops Q (⟨dst, op, ty, pos, af, some (g, b)⟩ :: rest) Γ R H := by
 intro a w hf hs
 have := h a w hf hs
 have hy := gval_yielded (ops := ops) hf hg
 simp only [wpListIn, Region.wanted, hy, beq_self_eq_true, if_true] at this ⊢
 exact this
theorem LY.no {d : Nat} {op : Op} {ty : Nat} {pos : String} {af : Array Edge} {g : Nat} {b : Bool} {v : Value} (hg : gval ops Γ g = some v) (hv : (match v with | .bool c => c == b | _ => false) = false) (hd : Nat.blt d n = true)
   (h : LY X β n ds ops Q rest ((d, undef) :: Γ) R H) : LY X β n ds ops Q (⟨some d, op, ty, pos, af, some (g, b)⟩ :: rest) Γ R H := by
 intro a w hf hs
 have hy := gval_yielded (ops := ops) hf hg
 have hw : Region.wanted ⟨some d, op, ty, pos, af, some (g, b)⟩ (yielded ops a.tmps) = false := by
   simp only [Region.wanted, hy]
   cases v <;> simp_all
 simp only [wpListIn, hw]
 exact ⟨fun f _ => trivial, h _ _ (hf.put (by simpa [Nat.blt_eq] using hd) undef) hs⟩
theorem LY.bool (s : Nat) {b : Bool} (hb : look s Γ = some (.bool b)) (ht : b = true → LY X β n ds ops Q rest ((s, .bool true) :: Γ) R H) (he : b = false → LY X β n ds ops Q rest ((s, .bool false) :: Γ) R H) : LY X β n ds ops Q rest Γ R H := by
 intro a w hf hs
 have h1 : ∀ c : Bool, b = c → Fr n ds a ((s, .bool c) :: Γ) := by
   rintro c rfl
   refine ⟨hf.size, hf.dfs, fun t u hu => ?_⟩
   simp only [look] at hu
   cases hbq : Nat.beq t s with
   | true =>
     rw [hbq] at hu
     obtain rfl := Nat.eq_of_beq_eq_true hbq
     simp only [cond_true, Option.some.injEq] at hu
     subst hu
     exact hf.vals t _ hb
   | false =>
     rw [hbq] at hu
     exact hf.vals t u hu
 cases b with
 | true => exact ht rfl a w (h1 true rfl) hs
 | false => exact he rfl a w (h1 false rfl) hs

/-- The end of a piece of a round: it has run off its end, in a state of this form. -/
def RQ (T : Act → World → Prop) : Exit → Act → World → Prop := fun e a w => e = .normal ∧ T a w
theorem RQ.out {T : Act → World → Prop} : ¬LetsOut (RQ T) := fun ⟨_, _, h, _⟩ => by cases h
/-! ### The statement -/
/-! ### A function that holds such a loop -/
/-! ### Slices of structs -/
theorem C.own0 {c : Code} (e : TypeId) (sz : Nat) (h : C X β n ds Q c Γ R (H ++ [Own e sz none 0 0 []])) : C X β n ds Q c Γ R H :=
 fun a w hf hs => h a w hf (hs.snoc (Stp.refl w fun _ => False) (fun _ h _ => h) _ (World.ownsRow_nil w 0 e sz) (fun k hk => by obtain ⟨a, ha, _⟩ := hk; cases ha))
/-- The places at which two lists differ, as ranges. -/
def stepR (s : List (Nat × Nat)) (i : Nat) : List (Nat × Nat) := match s.getLast? with
 | some r => if r.2 = i then s.dropLast ++ [(r.1, i + 1)] else s ++ [(i, i + 1)]
 | none => s ++ [(i, i + 1)]
def chgN (a b : List UInt8) : Nat → List (Nat × Nat)
 | 0 => []
 | k + 1 => if a.getD k 0 = b.getD k 0 then chgN a b k else stepR (chgN a b k) k
theorem stepR_snoc (s : List (Nat × Nat)) (p i : Nat) : stepR (s ++ [(p, i)]) i = s ++ [(p, i + 1)] := by simp [stepR]
end
end Go.Sl
end
/-
  The records of changes, as plain data: their bytes, and that they are read back.
-/
section
namespace Go.Sl

section
variable {X : Cx} {β : Base} {n : Nat} {ds : List Deferred} {ops : Array Oper} {Q : Exit → Act → World → Prop} {Γ : Env} {R H : List Pr} {rest : List Oper}
end
theorem stepR_app {s : List (Nat × Nat)} {i : Nat} (h : s.length = 0 ∨ (s.getD (s.length - 1) (0, 0)).2 ≠ i) : stepR s i = s ++ [(i, i + 1)] := by
 rcases h with h | h
 · obtain rfl := List.eq_nil_of_length_eq_zero h
   rfl
 · unfold stepR
   split
   · next r hr =>
     rw [if_neg]
     intro e
     obtain ⟨t, rfl⟩ := List.getLast?_eq_some_iff.1 hr
     simp at h
     exact h e
   · rfl
theorem stepR_cases (s : List (Nat × Nat)) (i : Nat) : stepR s i = s ++ [(i, i + 1)] ∨ ∃ t p, s = t ++ [(p, i)] ∧ stepR s i = t ++ [(p, i + 1)] := by
 rcases List.eq_nil_or_concat s with rfl | ⟨t, ⟨p, q⟩, rfl⟩
 · exact .inl rfl
 · by_cases h : q = i
   · subst h
     exact .inr ⟨t, p, by simp, by rw [List.concat_eq_append, stepR_snoc]⟩
   · refine .inl (stepR_app (.inr ?_))
     simpa using h

/-! ### What the ranges are -/
theorem chgN_mem (a b : List UInt8) : ∀ k, ∀ r ∈ chgN a b k, r.1 < r.2 ∧ r.2 ≤ k
 | 0, r, h => by cases h
 | k + 1, r, h => by
   have ih := chgN_mem a b k
   rw [chgN] at h
   split at h
   · have := ih r h; omega
   · rcases stepR_cases (chgN a b k) k with e | ⟨t, p, e1, e2⟩
     · rw [e] at h
       rcases List.mem_append.1 h with h | h
       · have := ih r h; omega
       · simp at h; subst h; simp
     · rw [e2] at h
       rcases List.mem_append.1 h with h | h
       · have := ih r (by rw [e1]; exact List.mem_append_left _ h); omega
       · simp at h
         subst h
         have := ih (p, k) (by rw [e1]; simp)
         simp only at this ⊢
         omega
theorem chgN_len' (a b : List UInt8) : ∀ k, (chgN a b k).length ≤ k
 | 0 => Nat.le_refl _
 | k + 1 => by
   rw [chgN]
   have := chgN_len' a b k
   split
   · omega
   · rcases stepR_cases (chgN a b k) k with e | ⟨t, p, e1, e2⟩
     · rw [e]; simp; omega
     · rw [e2]; rw [e1] at this; simp at this ⊢; omega
theorem chgN_pair (a b : List UInt8) : ∀ k, (chgN a b k).Pairwise fun x y => x.2 ≤ y.1
 | 0 => List.Pairwise.nil
 | k + 1 => by
   have ih := chgN_pair a b k
   have hm := chgN_mem a b k
   rw [chgN]
   split
   · exact ih
   · rcases stepR_cases (chgN a b k) k with e | ⟨t, p, e1, e2⟩
     · rw [e]
       refine List.pairwise_append.2 ⟨ih, List.pairwise_singleton _ _, fun x hx y hy => ?_⟩
       simp at hy
       subst hy
       exact (hm x hx).2
     · rw [e2]
       rw [e1] at ih
       have h2 := List.pairwise_append.1 ih
       refine List.pairwise_append.2 ⟨h2.1, List.pairwise_singleton _ _, fun x hx y hy => ?_⟩
       simp at hy
       subst hy
       exact h2.2.2 x hx (p, k) (by simp)
/-- How many bytes differ. -/
def diffN (a b : List UInt8) : Nat → Nat
 | 0 => 0
 | k + 1 => if a.getD k 0 = b.getD k 0 then diffN a b k else diffN a b k + 1
def tot (s : List (Nat × Nat)) : Nat := s.foldr (fun r t => (r.2 - r.1) + t) 0
theorem tot_app (s t : List (Nat × Nat)) : tot (s ++ t) = tot s + tot t := by
 induction s with
 | nil => simp [tot]
 | cons r s ih => simp only [tot, List.cons_append, List.foldr_cons] at ih ⊢; omega
theorem tot_chg (a b : List UInt8) : ∀ k, tot (chgN a b k) = diffN a b k
 | 0 => rfl
 | k + 1 => by
   have ih := tot_chg a b k
   have hm := chgN_mem a b k
   rw [chgN, diffN]
   split
   · exact ih
   · rcases stepR_cases (chgN a b k) k with e | ⟨t, p, e1, e2⟩
     · rw [e, tot_app, ih]
       simp [tot]
     · have h3 := hm (p, k) (by rw [e1]; simp)
       rw [e2, tot_app]
       rw [e1, tot_app] at ih
       simp only [tot, List.foldr_cons, List.foldr_nil] at ih ⊢
       simp only at h3
       omega
theorem diffN_le (a b : List UInt8) : ∀ k, diffN a b k ≤ k
 | 0 => Nat.le_refl _
 | k + 1 => by
   have := diffN_le a b k
   rw [diffN]
   split <;> omega
def cov (s : List (Nat × Nat)) (i : Nat) : Prop := ∃ r ∈ s, r.1 ≤ i ∧ i < r.2
theorem cov_chg (a b : List UInt8) : ∀ k i, cov (chgN a b k) i ↔ i < k ∧ a.getD i 0 ≠ b.getD i 0
 | 0, i => ⟨(by rintro ⟨r, h, _⟩; cases h), fun h => by omega⟩
 | k + 1, i => by
   have ih := cov_chg a b k i
   rw [chgN]
   split
   · next he =>
     rw [ih]
     constructor
     · rintro ⟨h1, h2⟩; exact ⟨by omega, h2⟩
     · rintro ⟨h1, h2⟩
       refine ⟨?_, h2⟩
       rcases Nat.lt_or_eq_of_le (Nat.le_of_lt_succ h1) with h | h
       · exact h
       · subst h; exact absurd he h2
   · next he =>
     have key : cov (stepR (chgN a b k) k) i ↔ cov (chgN a b k) i ∨ i = k := by
       rcases stepR_cases (chgN a b k) k with e | ⟨t, p, e1, e2⟩
       · rw [e]
         constructor
         · rintro ⟨r, hr, h⟩
           rcases List.mem_append.1 hr with hr | hr
           · exact .inl ⟨r, hr, h⟩
           · simp at hr; subst hr; simp only at h; exact .inr (by omega)
         · rintro (⟨r, hr, h⟩ | rfl)
           · exact ⟨r, List.mem_append_left _ hr, h⟩
           · exact ⟨(i, i + 1), by simp, Nat.le_refl _, Nat.lt_succ_self _⟩
       · have h3 := chgN_mem a b k (p, k) (by rw [e1]; simp)
         simp only at h3
         rw [e2, e1]
         constructor
         · rintro ⟨r, hr, h⟩
           rcases List.mem_append.1 hr with hr | hr
           · exact .inl ⟨r, List.mem_append_left _ hr, h⟩
           · simp at hr; subst hr; simp only at h
             by_cases hi : i = k
             · exact .inr hi
             · exact .inl ⟨(p, k), by simp, h.1, by simp only; omega⟩
         · rintro (⟨r, hr, h⟩ | rfl)
           · rcases List.mem_append.1 hr with hr | hr
             · exact ⟨r, List.mem_append_left _ hr, h⟩
             · simp at hr; subst hr; simp only at h
               exact ⟨(p, k + 1), by simp, h.1, by simp only; omega⟩
           · exact ⟨(p, i + 1), by simp, Nat.le_of_lt h3.1, Nat.lt_succ_self _⟩
     rw [key, ih]
     constructor
     · rintro (⟨h1, h2⟩ | rfl)
       · exact ⟨by omega, h2⟩
       · exact ⟨by omega, he⟩
     · rintro ⟨h1, h2⟩
       rcases Nat.lt_or_eq_of_le (Nat.le_of_lt_succ h1) with h | h
       · exact .inl ⟨h, h2⟩
       · exact .inr h

/-! ### The bytes of a record -/
/-- The two bytes of a number. -/
def tw (n : Nat) : List UInt8 := [UInt8.ofNat (n / 256), UInt8.ofNat n]
theorem ofInt_nat (n : Nat) : UInt8.ofInt (n : Int) = UInt8.ofNat n := by
 apply UInt8.toNat.inj
 simp [UInt8.ofInt, UInt8.toNat_ofNat']
 omega
theorem be2_tw {n : Nat} (h : n < 65536) (l : List UInt8) : be2 (tw n ++ l) = n := by
 unfold be2 tw
 simp [UInt8.toNat_ofNat']
 omega
def rgB (old : List UInt8) (r : Nat × Nat) : List UInt8 := tw r.1 ++ tw (r.2 - r.1) ++ (old.drop r.1).take (r.2 - r.1)
theorem rgB_len {old : List UInt8} {r : Nat × Nat} (h : r.2 ≤ old.length) : (rgB old r).length = 4 + (r.2 - r.1) := by
 simp [rgB, tw]
 omega
def recP (x : UInt8) (old : List UInt8) (s : List (Nat × Nat)) (k : Nat) : List UInt8 := x :: (tw s.length ++ (s.take k).flatMap (rgB old))
theorem flat_len {old : List UInt8} : ∀ (s : List (Nat × Nat)), (∀ r ∈ s, r.2 ≤ old.length) → (s.flatMap (rgB old)).length = 4 * s.length + tot s
 | [], _ => rfl
 | r :: s, h => by
   have ih := flat_len s (fun q hq => h q (List.mem_cons_of_mem _ hq))
   rw [List.flatMap_cons, List.length_append, ih, rgB_len (h r (List.mem_cons_self ..))]
   simp only [List.length_cons, tot, List.foldr_cons]
   omega
def recB (x : UInt8) (old : List UInt8) (s : List (Nat × Nat)) : List UInt8 := recP x old s s.length ++ tw ((recP x old s s.length).length + 2)
def RecBad (sec : Int) (old new : List UInt8) : Prop := sec < 0 ∨ 64 ≤ sec ∨ old.length ≠ new.length ∨ old.length < 1 ∨ 4096 < old.length
instance (sec : Int) (old new : List UInt8) : Decidable (RecBad sec old new) := by unfold RecBad; infer_instance
def recS (sec : Int) (old new : List UInt8) : List UInt8 := if RecBad sec old new then [] else recB (UInt8.ofInt sec) old (chgN old new old.length)
def recE (sec : Int) (old new : List UInt8) : Int := if RecBad sec old new then 210 else 0
theorem recS_bad {sec : Int} {old new : List UInt8} (h : RecBad sec old new) : recS sec old new = [] := if_pos h
theorem recS_ok {sec : Int} {old new : List UInt8} (h : ¬RecBad sec old new) : recS sec old new = recB (UInt8.ofInt sec) old (chgN old new old.length) := if_neg h
theorem recE_ok {sec : Int} {old new : List UInt8} (h : ¬RecBad sec old new) : recE sec old new = 0 := if_neg h
theorem recB_len {x : UInt8} {a b : List UInt8} : (recB x a (chgN a b a.length)).length = 5 + 4 * (chgN a b a.length).length + diffN a b a.length := by
 have h1 := flat_len (old := a) (chgN a b a.length) (fun r hr => (chgN_mem a b a.length r hr).2)
 unfold recB recP
 rw [List.take_length]
 simp only [List.length_cons, List.length_append, h1, tw, List.length_nil, tot_chg]
 omega
theorem recS_len (sec : Int) (old new : List UInt8) : (recS sec old new).length ≤ 20485 := by
 by_cases h : RecBad sec old new
 · rw [recS_bad h]; simp
 · rw [recS_ok h, recB_len]
   have h4 := diffN_le old new old.length
   have h5 := chgN_len' old new old.length
   unfold RecBad at h
   omega

/-! ### Read back -/
def pcs (old : List UInt8) (s : List (Nat × Nat)) : List Pc := s.map fun r => (r.1, (old.drop r.1).take (r.2 - r.1))
theorem goR_flat {old : List UInt8} {size : Nat} (ho : old.length ≤ size) (hs : size < 65536) (tl : List UInt8) : ∀ (s : List (Nat × Nat)) (last : Nat), (∀ r ∈ s, r.1 < r.2 ∧ r.2 ≤ old.length ∧ last ≤ r.1) → (s.Pairwise fun x y => x.2 ≤ y.1) →
   goR s.length (size : Int) (s.flatMap (rgB old) ++ tl) (last : Int) = some (tl, pcs old s)
 | [], _, _, _ => rfl
 | r :: s, last, h, hp => by
   obtain ⟨h1, h2, h3⟩ := h r (List.mem_cons_self ..)
   have hp2 := List.pairwise_cons.1 hp
   have ih := goR_flat ho hs tl s r.2 (fun q hq => ⟨(h q (List.mem_cons_of_mem _ hq)).1, (h q (List.mem_cons_of_mem _ hq)).2.1, hp2.1 q hq⟩) hp2.2
   have e0 : (r :: s).flatMap (rgB old) ++ tl = tw r.1 ++ (tw (r.2 - r.1) ++ ((old.drop r.1).take (r.2 - r.1) ++ (s.flatMap (rgB old) ++ tl))) := by simp [rgB, List.append_assoc]
   have e1 : be2 ((r :: s).flatMap (rgB old) ++ tl) = r.1 := by rw [e0, be2_tw (by omega)]
   have e2 : ((r :: s).flatMap (rgB old) ++ tl).drop 2 = tw (r.2 - r.1) ++ ((old.drop r.1).take (r.2 - r.1) ++ (s.flatMap (rgB old) ++ tl)) := by rw [e0]; rfl
   have e3 : be2 (((r :: s).flatMap (rgB old) ++ tl).drop 2) = r.2 - r.1 := by rw [e2, be2_tw (by omega)]
   have e4 : (((r :: s).flatMap (rgB old) ++ tl).drop 2).drop 2 = (old.drop r.1).take (r.2 - r.1) ++ (s.flatMap (rgB old) ++ tl) := by rw [e2]; rfl
   have e5 : ((old.drop r.1).take (r.2 - r.1)).length = r.2 - r.1 := by rw [List.length_take, List.length_drop]; omega
   have e6 : ((r :: s).flatMap (rgB old) ++ tl).length = 4 + (r.2 - r.1) + (s.flatMap (rgB old) ++ tl).length := by rw [e0]; simp only [List.length_append, tw, List.length_cons, List.length_nil, e5]; omega
   have hok : PieceOk ((r :: s).flatMap (rgB old) ++ tl) (last : Int) (size : Int) := by
     unfold PieceOk
     rw [e1, e3, e6]
     omega
   rw [List.length_cons, goR, if_pos hok, e1, e3, e4, List.drop_left' e5, List.take_left' e5, show (r.1 : Int) + ((r.2 - r.1 : Nat) : Int) = (r.2 : Int) from by omega, ih]
   rfl
theorem parse_rec {x : UInt8} {a b : List UInt8} (hx : x.toNat < 64) (hl : a.length ≤ 4096) {size : Nat} (ho : a.length ≤ size) (hs : size < 65536) : parseS (recB x a (chgN a b a.length)) (size : Int) = some (pcs a (chgN a b a.length)) := by
 have hlen := recB_len (x := x) (a := a) (b := b)
 have h4 := diffN_le a b a.length
 have h5 := chgN_len' a b a.length
 have hm := chgN_mem a b a.length
 have hg := goR_flat (old := a) ho hs (tw ((recP x a (chgN a b a.length) (chgN a b a.length).length).length + 2)) (chgN a b a.length) 0 (fun r hr => ⟨(hm r hr).1, (hm r hr).2, Nat.zero_le _⟩) (chgN_pair a b a.length)
 have e0 : recB x a (chgN a b a.length) = x :: (tw (chgN a b a.length).length ++ ((chgN a b a.length).flatMap (rgB a) ++ tw ((recP x a (chgN a b a.length) (chgN a b a.length).length).length + 2))) := by
   unfold recB
   rw [show recP x a (chgN a b a.length) (chgN a b a.length).length = x :: (tw (chgN a b a.length).length ++ (chgN a b a.length).flatMap (rgB a)) from by unfold recP; rw [List.take_length]]
   simp
 have e1 : (recB x a (chgN a b a.length)).getD 0 0 = x := by rw [e0]; rfl
 have e2 : be2 ((recB x a (chgN a b a.length)).drop 1) = (chgN a b a.length).length := by rw [e0]; exact be2_tw (by omega) _
 have e3 : ((recB x a (chgN a b a.length)).drop 1).drop 2 = (chgN a b a.length).flatMap (rgB a) ++ tw ((recP x a (chgN a b a.length) (chgN a b a.length).length).length + 2) := by rw [e0]; rfl
 have e4 : (recB x a (chgN a b a.length)).length = (recP x a (chgN a b a.length) (chgN a b a.length).length).length + 2 := by unfold recB; simp [tw]
 rw [parseS_3 (l := tw ((recP x a (chgN a b a.length) (chgN a b a.length).length).length + 2)) (ps := pcs a (chgN a b a.length)) (by rw [e1]; omega) (by rw [e2, e3]; exact hg)]
 rw [if_pos]
 refine ⟨rfl, ?_⟩
 have := be2_tw (n := (recP x a (chgN a b a.length) (chgN a b a.length).length).length + 2) (by omega) []
 rw [List.append_nil] at this
 rw [this, e4]
theorem putB_get {out b : List UInt8} {p i : Nat} (h : p + b.length ≤ out.length) (d : UInt8) : (putB out p b).getD i d = if p ≤ i ∧ i < p + b.length then b.getD (i - p) d else out.getD i d := by
 unfold putB
 simp only [List.getD_eq_getElem?_getD, List.append_assoc]
 by_cases h1 : i < p
 · rw [List.getElem?_append_left (by rw [List.length_take]; omega), List.getElem?_take, if_pos h1, if_neg (by omega)]
 · rw [List.getElem?_append_right (by rw [List.length_take]; omega), List.length_take, show min p out.length = p from by omega]
   by_cases h2 : i < p + b.length
   · rw [List.getElem?_append_left (by omega), if_pos ⟨by omega, h2⟩]
   · rw [List.getElem?_append_right (by omega), List.getElem?_drop, if_neg (by omega), show p + b.length + (i - p - b.length) = i from by omega]
theorem applyP_pcs {old : List UInt8} : ∀ (s : List (Nat × Nat)) (out : List UInt8), (∀ r ∈ s, r.1 < r.2 ∧ r.2 ≤ old.length) → out.length = old.length → (applyP out (pcs old s)).length = old.length ∧
   (∀ i, cov s i → (applyP out (pcs old s)).getD i 0 = old.getD i 0) ∧ (∀ i, (applyP out (pcs old s)).getD i 0 = old.getD i 0 ∨ (applyP out (pcs old s)).getD i 0 = out.getD i 0)
 | [], _, _, hl => ⟨hl, (by rintro i ⟨r, h, _⟩; cases h), fun _ => .inr rfl⟩
 | r :: s, out, h, hl => by
   obtain ⟨h1, h2⟩ := h r (List.mem_cons_self ..)
   have e5 : ((old.drop r.1).take (r.2 - r.1)).length = r.2 - r.1 := by rw [List.length_take, List.length_drop]; omega
   have hput := putB_len (out := out) (p := r.1) (b := (old.drop r.1).take (r.2 - r.1)) (by omega)
   have ih := applyP_pcs s (putB out r.1 ((old.drop r.1).take (r.2 - r.1))) (fun q hq => h q (List.mem_cons_of_mem _ hq)) (by rw [hput, hl])
   have hin : ∀ i, r.1 ≤ i → i < r.2 → (putB out r.1 ((old.drop r.1).take (r.2 - r.1))).getD i 0 = old.getD i 0 := by
     intro i hi hi2
     rw [putB_get (by omega), if_pos ⟨hi, by omega⟩]
     simp only [List.getD_eq_getElem?_getD, List.getElem?_take, List.getElem?_drop]
     rw [if_pos (by omega), show r.1 + (i - r.1) = i from by omega]
   have hout : ∀ i, ¬(r.1 ≤ i ∧ i < r.2) → (putB out r.1 ((old.drop r.1).take (r.2 - r.1))).getD i 0 = out.getD i 0 := by
     intro i hi
     rw [putB_get (by omega), if_neg (by omega)]
   show (applyP (putB out r.1 ((old.drop r.1).take (r.2 - r.1))) (pcs old s)).length = _ ∧ _ ∧ _
   refine ⟨ih.1, fun i hi => ?_, fun i => ?_⟩
   · obtain ⟨q, hq, hc⟩ := hi
     rcases List.mem_cons.1 hq with rfl | hq
     · rcases ih.2.2 i with e | e
       · exact e
       · show (applyP (putB out q.1 ((old.drop q.1).take (q.2 - q.1))) (pcs old s)).getD i 0 = _
         rw [e, hin i hc.1 hc.2]
     · exact ih.2.1 i ⟨q, hq, hc⟩
   · rcases ih.2.2 i with e | e
     · exact .inl e
     · by_cases hc : r.1 ≤ i ∧ i < r.2
       · exact .inl (e.trans (hin i hc.1 hc.2))
       · exact .inr (e.trans (hout i hc))
/-- What was there is restored. -/
theorem apply_rec {a b : List UInt8} (h : a.length = b.length) : applyP b (pcs a (chgN a b a.length)) = a := by
 obtain ⟨h1, h2, h3⟩ := applyP_pcs (old := a) (chgN a b a.length) b (fun r hr => chgN_mem a b a.length r hr) h.symm
 refine ext_getD (d := 0) h1 (fun i hi => ?_)
 by_cases he : a.getD i 0 = b.getD i 0
 · rcases h3 i with e | e
   · exact e
   · exact e.trans he.symm
 · exact h2 i ((cov_chg a b a.length i).2 ⟨by omega, he⟩)
end Go.Sl
end
