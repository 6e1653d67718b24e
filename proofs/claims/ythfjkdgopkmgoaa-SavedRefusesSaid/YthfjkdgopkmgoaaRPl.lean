/-
  Flashes as plain data, and how they lie in memory.
-/
import Derived.Test.YthfjkdgopkmgoaaRSlH
namespace Go.Sl

structure Fl where
  size : Nat
  data : List (List UInt8)
  wear : List Int
  limit : Int
  dead : List Bool
  deriving DecidableEq

/-- Where its parts lie. -/
structure Fa where
  D : Option Addr
  cD : Nat
  hs : List Hd
  W : Option Addr
  cW : Nat
  E : Option Addr
  cE : Nat

def flL (f : Fl) (a : Fa) : List Value := [.int .i64 (f.size : Int), .slice a.D f.data.length a.cD, .slice a.W f.wear.length a.cW, .int .i64 f.limit, .slice a.E f.dead.length a.cE]
def flV (f : Fl) (a : Fa) : Value := .agg (List.toArray (flL f a))

structure Fl.Ok (f : Fl) : Prop where
  s1 : 1 ≤ f.size
  s2 : f.size ≤ 4096
  n1 : 1 ≤ f.data.length
  n2 : f.data.length ≤ 64
  wl : f.wear.length = f.data.length
  dl : f.dead.length = f.data.length
  rows : ∀ i, i < f.data.length → (f.data.getD i []).length = f.size
  l1 : 1 ≤ f.limit
  l2 : f.limit ≤ 100000
  wear : ∀ i, i < f.data.length → 0 ≤ f.wear.getD i 0 ∧ f.wear.getD i 0 ≤ f.limit

structure Fl.Sm (f : Fl) : Prop where
  n : f.data.length ≤ 1000000
  w : f.wear.length ≤ 1000000
  d : f.dead.length ≤ 1000000
  r : ∀ i, (f.data.getD i []).length ≤ 1000000
theorem ext_getD {α : Type} {l m : List α} {d : α} (h : l.length = m.length) (he : ∀ i, i < l.length → l.getD i d = m.getD i d) : l = m := by
  refine List.ext_getElem h fun i h1 h2 => ?_
  have := he i h1
  simpa [List.getD_eq_getElem?_getD, h1, h2] using this

theorem rows8_app {hs : List Hd} {ls : List (List UInt8)} (h : hs.length = ls.length) (g : Hd) (l : List UInt8) : rowsV hs (B8 ls) ++ [.slice g.1 l.length g.2] = rowsV (hs ++ [g]) (B8 (ls ++ [l])) := by
  have := rowsV_app (hs := hs) (vss := B8 ls) (by rw [B8_len]; exact h) g (U8 l)
  rw [U8_len] at this
  rw [this, ← B8_app]
  rfl
theorem B8_snoc (ls : List (List UInt8)) (l : List UInt8) : B8 ls ++ [U8 l] = B8 (ls ++ [l]) := by simp [B8]
theorem I64_rep (m : Nat) (x : Int) : List.replicate m (Value.int .i64 x) = I64 (List.replicate m x) := by simp [I64]
theorem Bs_rep (m : Nat) (x : Bool) : List.replicate m (Value.bool x) = Bs (List.replicate m x) := by simp [Bs]
theorem own_eq {e sz n n' c : Nat} {A : Option Addr} {xs ys : List Value} (hn : n = n') (h : xs = ys) : Own e sz A n c xs = Own e sz A n' c ys := by rw [h, hn]
theorem getD_rep {α : Type} (m i : Nat) (x d : α) (h : i < m) : (List.replicate m x).getD i d = x := by simp [h]

/-! ### Operations -/
structure Fo where
  kind : Int
  sec : Int
  at_ : Int
  data : List UInt8
  deriving DecidableEq

def checkE (f : Fl) (x : Fo) : Int :=
  if x.kind ≠ 1 ∧ x.kind ≠ 2 then 1
  else if ¬(0 ≤ x.sec ∧ x.sec ≤ (f.data.length : Int) - 1) ∨ x.kind = 2 ∧ (¬(0 ≤ x.at_ ∧ x.at_ ≤ (f.size : Int)) ∨ (x.data.length : Int) > (f.size : Int) - x.at_) then 170
  else if f.dead.getD x.sec.toNat false = true then 171
  else if x.kind = 1 ∧ f.wear.getD x.sec.toNat 0 = f.limit then 172 else 0

section
variable {f : Fl} {x : Fo}
theorem checkE_0 (h : x.kind = 1 ∨ x.kind = 2) (h2 : 0 ≤ x.sec ∧ x.sec ≤ (f.data.length : Int) - 1 ∧ (x.kind = 2 → 0 ≤ x.at_ ∧ x.at_ ≤ (f.size : Int) ∧ (x.data.length : Int) ≤ (f.size : Int) - x.at_)) (h3 : f.dead.getD x.sec.toNat false = false)
    (h4 : ¬(x.kind = 1 ∧ f.wear.getD x.sec.toNat 0 = f.limit)) : checkE f x = 0 := by
  unfold checkE; rw [if_neg (by omega), if_neg (by omega), if_neg (by rw [h3]; simp), if_neg h4]
theorem checkE_ok (h : checkE f x = 0) : (x.kind = 1 ∨ x.kind = 2) ∧ (0 ≤ x.sec ∧ x.sec ≤ (f.data.length : Int) - 1 ∧ (x.kind = 2 → 0 ≤ x.at_ ∧ x.at_ ≤ (f.size : Int) ∧ (x.data.length : Int) ≤ (f.size : Int) - x.at_)) ∧
    f.dead.getD x.sec.toNat false = false ∧ ¬(x.kind = 1 ∧ f.wear.getD x.sec.toNat 0 = f.limit) := by
  unfold checkE at h
  split at h
  · cases h
  · split at h
    · cases h
    · split at h
      · cases h
      · split at h
        · cases h
        · next h1 h2 h3 h4 => exact ⟨by omega, by omega, by simpa using h3, h4⟩

/-- What an operation asks for. -/
def askB (x : Fo) (i : Nat) (o : UInt8) : UInt8 :=
  if x.kind = 1 then 255 else if x.at_ ≤ (i : Int) ∧ (i : Int) - x.at_ < (x.data.length : Int) then o &&& x.data.getD ((i : Int) - x.at_).toNat 0 else o
theorem askB_in {i : Nat} {o : UInt8} (h : x.kind ≠ 1) (hi : x.at_ ≤ (i : Int) ∧ (i : Int) - x.at_ < (x.data.length : Int)) : askB x i o = o &&& x.data.getD ((i : Int) - x.at_).toNat 0 := by unfold askB; rw [if_neg h, if_pos hi]
theorem askB_out {i : Nat} {o : UInt8} (h : x.kind ≠ 1) (hi : ¬(x.at_ ≤ (i : Int) ∧ (i : Int) - x.at_ < (x.data.length : Int))) : askB x i o = o := by unfold askB; rw [if_neg h, if_neg hi]

def mixB (o w m : UInt8) : UInt8 := o &&& ~~~m ||| w &&& m
def rowB (f : Fl) (x : Fo) (mk : Nat → UInt8) (i : Nat) : UInt8 := mixB ((f.data.getD x.sec.toNat []).getD i 0) (askB x i ((f.data.getD x.sec.toNat []).getD i 0)) (mk i)
def rowF (f : Fl) (x : Fo) (mk : Nat → UInt8) : List UInt8 := (List.range f.size).map (rowB f x mk)
def cutF (f : Fl) (x : Fo) (mk : Nat → UInt8) : Fl :=
  { f with data := f.data.set x.sec.toNat (rowF f x mk), wear := if x.kind = 1 then f.wear.set x.sec.toNat (f.wear.getD x.sec.toNat 0 + 1) else f.wear }
end

theorem getD_set_eq {α : Type} {l : List α} {i : Nat} (h : i < l.length) (x d : α) : (l.set i x).getD i d = x := by simp [List.getD_eq_getElem?_getD, h]
theorem getD_set_ne {α : Type} {l : List α} {i j : Nat} (h : i ≠ j) (x d : α) : (l.set i x).getD j d = l.getD j d := by simp [List.getD_eq_getElem?_getD, h]
theorem map_range_getD {α : Type} {g : Nat → α} {n i : Nat} (h : i < n) (d : α) : ((List.range n).map g).getD i d = g i := by simp [List.getD_eq_getElem?_getD, h]

/-! ### What an operation asks for -/
/-! ### The flash after an operation -/
theorem rowF_len (f : Fl) (x : Fo) (mk : Nat → UInt8) : (rowF f x mk).length = f.size := by simp [rowF]
theorem rowsV_set {hs : List Hd} {ls : List (List UInt8)} {s : Nat} {l : List UInt8} (h : hs.length = ls.length) (hs' : s < ls.length) (hl : l.length = (ls.getD s []).length) : rowsV hs (B8 (ls.set s l)) = rowsV hs (B8 ls) := by
  refine List.ext_getElem? fun i => ?_
  by_cases hi : i < ls.length
  · rw [rows8_get (by rw [List.length_set]; exact h) (by rw [List.length_set]; exact hi), rows8_get h hi]
    by_cases his : s = i
    · subst his
      rw [getD_set_eq hs', hl]
    · rw [getD_set_ne his]
  · rw [List.getElem?_eq_none (by rw [rowsV_len (by rw [B8_len, List.length_set]; exact h), B8_len, List.length_set]; omega), List.getElem?_eq_none (by rw [rowsV_len (by rw [B8_len]; exact h), B8_len]; omega)]
theorem cutF_data {f : Fl} (x : Fo) (mk : Nat → UInt8) : (cutF f x mk).data.length = f.data.length := List.length_set
theorem cutF_wear {f : Fl} (x : Fo) (mk : Nat → UInt8) : (cutF f x mk).wear.length = f.wear.length := by
  unfold cutF
  dsimp only
  split <;> simp
/-- An operation keeps a flash right. -/
theorem cutF_ok {f : Fl} {x : Fo} (ok : f.Ok) (hE : checkE f x = 0) (mk : Nat → UInt8) : (cutF f x mk).Ok := by
  obtain ⟨q1, ⟨q2, q3, q4⟩, q5, q6⟩ := checkE_ok hE
  obtain ⟨o1, o2, o3, o4, o5, o6, o7, o8, o9, o10⟩ := ok
  refine ⟨o1, o2, by rw [cutF_data]; exact o3, by rw [cutF_data]; exact o4, by rw [cutF_data, cutF_wear]; exact o5, by rw [cutF_data]; exact o6, fun i hi => ?_, o8, o9, fun i hi => ?_⟩
  · rw [cutF_data] at hi
    show ((f.data.set x.sec.toNat (rowF f x mk)).getD i []).length = f.size
    by_cases his : x.sec.toNat = i
    · subst his; rw [getD_set_eq hi, rowF_len]
    · rw [getD_set_ne his]; exact o7 i hi
  · rw [cutF_data] at hi
    show 0 ≤ (if x.kind = 1 then f.wear.set x.sec.toNat (f.wear.getD x.sec.toNat 0 + 1) else f.wear).getD i 0 ∧ (if x.kind = 1 then f.wear.set x.sec.toNat (f.wear.getD x.sec.toNat 0 + 1) else f.wear).getD i 0 ≤ f.limit
    split
    · next hk =>
      by_cases his : x.sec.toNat = i
      · subst his
        rw [getD_set_eq (by omega)]
        have := o10 _ hi
        have : f.wear.getD x.sec.toNat 0 ≠ f.limit := fun h => q6 ⟨hk, h⟩
        omega
      · rw [getD_set_ne his]; exact o10 i hi
    · exact o10 i hi
end Go.Sl
