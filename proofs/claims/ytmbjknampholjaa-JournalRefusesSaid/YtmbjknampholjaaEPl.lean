/-
  Flashes as plain data, and how they lie in memory.
-/
import Derived.Test.YtmbjknampholjaaESlN
namespace Go.Sl

structure Fl where
 size : Nat
 data : List (List UInt8)
 wear : List Int
 limit : Int
 dead : List Bool
 deriving DecidableEq

/-- Where its parts lie. -/
structure Fa where
 D : Option Addr
 cD : Nat
 hs : List Hd
 W : Option Addr
 cW : Nat
 E : Option Addr
 cE : Nat

def flL (f : Fl) (a : Fa) : List Value := [.int .i64 (f.size : Int), .slice a.D f.data.length a.cD, .slice a.W f.wear.length a.cW, .int .i64 f.limit, .slice a.E f.dead.length a.cE]
def flV (f : Fl) (a : Fa) : Value := .agg (List.toArray (flL f a))

structure Fl.Ok (f : Fl) : Prop where
 s1 : 1 ≤ f.size
 s2 : f.size ≤ 4096
 n1 : 1 ≤ f.data.length
 n2 : f.data.length ≤ 64
 wl : f.wear.length = f.data.length
 dl : f.dead.length = f.data.length
 rows : ∀ i, i < f.data.length → (f.data.getD i []).length = f.size
 l1 : 1 ≤ f.limit
 l2 : f.limit ≤ 100000
 wear : ∀ i, i < f.data.length → 0 ≤ f.wear.getD i 0 ∧ f.wear.getD i 0 ≤ f.limit

structure Fl.Sm (f : Fl) : Prop where
 n : f.data.length ≤ 1000000
 w : f.wear.length ≤ 1000000
 d : f.dead.length ≤ 1000000
 r : ∀ i, (f.data.getD i []).length ≤ 1000000
theorem getD_ge {α : Type} {l : List α} {i : Nat} {d : α} (h : l.length ≤ i) : l.getD i d = d := by simp [h]
theorem ext_getD {α : Type} {l m : List α} {d : α} (h : l.length = m.length) (he : ∀ i, i < l.length → l.getD i d = m.getD i d) : l = m := by
 refine List.ext_getElem h fun i h1 h2 => ?_
 have := he i h1
 simpa [List.getD_eq_getElem?_getD, h1, h2] using this

theorem rows8_app {hs : List Hd} {ls : List (List UInt8)} (h : hs.length = ls.length) (g : Hd) (l : List UInt8) : rowsV hs (B8 ls) ++ [.slice g.1 l.length g.2] = rowsV (hs ++ [g]) (B8 (ls ++ [l])) := by
 have := rowsV_app (hs := hs) (vss := B8 ls) (by rw [B8_len]; exact h) g (U8 l)
 rw [U8_len] at this
 rw [this, ← B8_app]
 rfl
theorem B8_snoc (ls : List (List UInt8)) (l : List UInt8) : B8 ls ++ [U8 l] = B8 (ls ++ [l]) := by simp [B8]
theorem I64_rep (m : Nat) (x : Int) : List.replicate m (Value.int .i64 x) = I64 (List.replicate m x) := by simp [I64]
theorem Bs_rep (m : Nat) (x : Bool) : List.replicate m (Value.bool x) = Bs (List.replicate m x) := by simp [Bs]
theorem own_eq {e sz n n' c : Nat} {A : Option Addr} {xs ys : List Value} (hn : n = n') (h : xs = ys) : Own e sz A n c xs = Own e sz A n' c ys := by rw [h, hn]
theorem getD_rep {α : Type} (m i : Nat) (x d : α) (h : i < m) : (List.replicate m x).getD i d = x := by simp [h]

/-! ### Operations -/
structure Fo where
 kind : Int
 sec : Int
 at_ : Int
 data : List UInt8
 deriving DecidableEq

def checkE (f : Fl) (x : Fo) : Int :=
 if x.kind ≠ 1 ∧ x.kind ≠ 2 then 1
 else if ¬(0 ≤ x.sec ∧ x.sec ≤ (f.data.length : Int) - 1) ∨ x.kind = 2 ∧ (¬(0 ≤ x.at_ ∧ x.at_ ≤ (f.size : Int)) ∨ (x.data.length : Int) > (f.size : Int) - x.at_) then 170
 else if f.dead.getD x.sec.toNat false = true then 171
 else if x.kind = 1 ∧ f.wear.getD x.sec.toNat 0 = f.limit then 172 else 0

section
variable {f : Fl} {x : Fo}
theorem checkE_1 (h : x.kind ≠ 1 ∧ x.kind ≠ 2) : checkE f x = 1 := by unfold checkE; rw [if_pos h]
theorem checkE_2 (h : x.kind = 1 ∨ x.kind = 2) (h2 : ¬(0 ≤ x.sec ∧ x.sec ≤ (f.data.length : Int) - 1) ∨ x.kind = 2 ∧ (¬(0 ≤ x.at_ ∧ x.at_ ≤ (f.size : Int)) ∨ (x.data.length : Int) > (f.size : Int) - x.at_)) : checkE f x = 170 := by
 unfold checkE; rw [if_neg (by omega), if_pos h2]
theorem checkE_3 (h : x.kind = 1 ∨ x.kind = 2) (h2 : 0 ≤ x.sec ∧ x.sec ≤ (f.data.length : Int) - 1 ∧ (x.kind = 2 → 0 ≤ x.at_ ∧ x.at_ ≤ (f.size : Int) ∧ (x.data.length : Int) ≤ (f.size : Int) - x.at_)) (h3 : f.dead.getD x.sec.toNat false = true) : checkE f x = 171 := by
 unfold checkE; rw [if_neg (by omega), if_neg (by omega), if_pos h3]
theorem checkE_4 (_h : x.kind = 1 ∨ x.kind = 2) (h2 : 0 ≤ x.sec ∧ x.sec ≤ (f.data.length : Int) - 1 ∧ (x.kind = 2 → 0 ≤ x.at_ ∧ x.at_ ≤ (f.size : Int) ∧ (x.data.length : Int) ≤ (f.size : Int) - x.at_)) (h3 : f.dead.getD x.sec.toNat false = false)
   (h4 : x.kind = 1 ∧ f.wear.getD x.sec.toNat 0 = f.limit) : checkE f x = 172 := by
 unfold checkE; rw [if_neg (by omega), if_neg (by omega), if_neg (by rw [h3]; simp), if_pos h4]
theorem checkE_0 (h : x.kind = 1 ∨ x.kind = 2) (h2 : 0 ≤ x.sec ∧ x.sec ≤ (f.data.length : Int) - 1 ∧ (x.kind = 2 → 0 ≤ x.at_ ∧ x.at_ ≤ (f.size : Int) ∧ (x.data.length : Int) ≤ (f.size : Int) - x.at_)) (h3 : f.dead.getD x.sec.toNat false = false)
   (h4 : ¬(x.kind = 1 ∧ f.wear.getD x.sec.toNat 0 = f.limit)) : checkE f x = 0 := by
 unfold checkE; rw [if_neg (by omega), if_neg (by omega), if_neg (by rw [h3]; simp), if_neg h4]
theorem checkE_ok (h : checkE f x = 0) : (x.kind = 1 ∨ x.kind = 2) ∧ (0 ≤ x.sec ∧ x.sec ≤ (f.data.length : Int) - 1 ∧ (x.kind = 2 → 0 ≤ x.at_ ∧ x.at_ ≤ (f.size : Int) ∧ (x.data.length : Int) ≤ (f.size : Int) - x.at_)) ∧
   f.dead.getD x.sec.toNat false = false ∧ ¬(x.kind = 1 ∧ f.wear.getD x.sec.toNat 0 = f.limit) := by
 unfold checkE at h
 split at h
 · cases h
 · split at h
   · cases h
   · split at h
     · cases h
     · split at h
       · cases h
       · next h1 h2 h3 h4 => exact ⟨by omega, by omega, by simpa using h3, h4⟩

/-- What an operation asks for. -/
def askB (x : Fo) (i : Nat) (o : UInt8) : UInt8 :=
 if x.kind = 1 then 255 else if x.at_ ≤ (i : Int) ∧ (i : Int) - x.at_ < (x.data.length : Int) then o &&& x.data.getD ((i : Int) - x.at_).toNat 0 else o
theorem askB_1 (h : x.kind = 1) (i : Nat) (o : UInt8) : askB x i o = 255 := if_pos h
theorem askB_in {i : Nat} {o : UInt8} (h : x.kind ≠ 1) (hi : x.at_ ≤ (i : Int) ∧ (i : Int) - x.at_ < (x.data.length : Int)) : askB x i o = o &&& x.data.getD ((i : Int) - x.at_).toNat 0 := by unfold askB; rw [if_neg h, if_pos hi]
theorem askB_out {i : Nat} {o : UInt8} (h : x.kind ≠ 1) (hi : ¬(x.at_ ≤ (i : Int) ∧ (i : Int) - x.at_ < (x.data.length : Int))) : askB x i o = o := by unfold askB; rw [if_neg h, if_neg hi]

def mixB (o w m : UInt8) : UInt8 := o &&& ~~~m ||| w &&& m
def rowB (f : Fl) (x : Fo) (mk : Nat → UInt8) (i : Nat) : UInt8 := mixB ((f.data.getD x.sec.toNat []).getD i 0) (askB x i ((f.data.getD x.sec.toNat []).getD i 0)) (mk i)
def rowF (f : Fl) (x : Fo) (mk : Nat → UInt8) : List UInt8 := (List.range f.size).map (rowB f x mk)
def cutF (f : Fl) (x : Fo) (mk : Nat → UInt8) : Fl :=
 { f with data := f.data.set x.sec.toNat (rowF f x mk), wear := if x.kind = 1 then f.wear.set x.sec.toNat (f.wear.getD x.sec.toNat 0 + 1) else f.wear }
def flz : Fl := ⟨0, [], [], 0, []⟩
def az : Fa := ⟨none, 0, [], none, 0, none, 0⟩
def cutR (f : Fl) (x : Fo) (mk : Nat → UInt8) : Fl := if checkE f x = 0 then cutF f x mk else flz
end

/-- A row of which the first k places are new. -/
def prow {α : Type} (g : Nat → α) (l : List α) (k : Nat) : List α := (List.range k).map g ++ l.drop k
theorem prow_zero {α : Type} (g : Nat → α) (l : List α) : prow g l 0 = l := by simp [prow]
theorem prow_len {α : Type} {g : Nat → α} {l : List α} {k : Nat} (h : k ≤ l.length) : (prow g l k).length = l.length := by simp [prow]; omega
theorem prow_get {α : Type} {g : Nat → α} {l : List α} {k : Nat} (_h : k < l.length) (d : α) : (prow g l k).getD k d = l.getD k d := by
 unfold prow
 rw [List.getD_eq_getElem?_getD, List.getElem?_append_right (by simp)]
 simp
theorem prow_set {α : Type} {g : Nat → α} {l : List α} {k : Nat} (h : k < l.length) : (prow g l k).set k (g k) = prow g l (k + 1) := by
 unfold prow
 rw [List.set_append_right _ _ (by simp), List.range_succ, List.map_append, List.append_assoc]
 congr 1
 have : l.drop k = l[k] :: l.drop (k + 1) := List.drop_eq_getElem_cons h
 rw [List.length_map, List.length_range, Nat.sub_self, this]
 rfl
theorem prow_end {α : Type} {g : Nat → α} {l : List α} {k : Nat} (hk : k ≤ l.length) (d : α) (h : ∀ i, k ≤ i → i < l.length → g i = l.getD i d) : prow g l k = (List.range l.length).map g := by
 refine ext_getD (d := d) (by rw [prow_len hk]; simp) fun i hi => ?_
 rw [prow_len hk] at hi
 have e2 : ((List.range l.length).map g).getD i d = g i := by simp [List.getD_eq_getElem?_getD, hi]
 rw [e2]
 unfold prow
 by_cases hik : i < k
 · rw [List.getD_eq_getElem?_getD, List.getElem?_append_left (by simpa using hik)]
   simp [hik]
 · rw [h i (by omega) hi, List.getD_eq_getElem?_getD, List.getElem?_append_right (by simp; omega)]
   simp only [List.length_map, List.length_range, List.getElem?_drop]
   rw [show k + (i - k) = i from by omega, List.getD_eq_getElem?_getD]

theorem mixB_zero (o w : UInt8) : mixB o w 0 = o := by
 apply UInt8.eq_of_toBitVec_eq
 simp [mixB]
theorem mixB_ones (o w : UInt8) : mixB o w 255 = w := by
 apply UInt8.eq_of_toBitVec_eq
 unfold mixB
 ext i hi
 have h255 : ((255 : UInt8).toBitVec).getLsbD i = true := by
   have : ∀ j, j < 8 → ((255 : UInt8).toBitVec).getLsbD j = true := by decide
   exact this i hi
 simp [BitVec.getLsbD_eq_getElem hi] at h255 ⊢
 exact fun _ => h255
theorem mixB_xor (o w m : UInt8) : o ^^^ ((o ^^^ w) &&& m) = mixB o w m := by
 apply UInt8.eq_of_toBitVec_eq
 unfold mixB
 ext i hi
 simp
 cases o.toBitVec[i] <;> cases w.toBitVec[i] <;> cases m.toBitVec[i] <;> rfl

theorem getD_set_eq {α : Type} {l : List α} {i : Nat} (h : i < l.length) (x d : α) : (l.set i x).getD i d = x := by simp [List.getD_eq_getElem?_getD, h]
theorem getD_set_ne {α : Type} {l : List α} {i j : Nat} (h : i ≠ j) (x d : α) : (l.set i x).getD j d = l.getD j d := by simp [List.getD_eq_getElem?_getD, h]
theorem set_getD {α : Type} {l : List α} {i : Nat} (d : α) : l.set i (l.getD i d) = l := by
 refine List.ext_getElem (by simp) fun j h1 h2 => ?_
 rw [List.getElem_set]
 split
 · next h => subst h; simp [List.getD_eq_getElem?_getD, h2]
 · rfl
theorem map_range_getD {α : Type} {g : Nat → α} {n i : Nat} (h : i < n) (d : α) : ((List.range n).map g).getD i d = g i := by simp [List.getD_eq_getElem?_getD, h]

/-! ### What an operation asks for -/
def askRow (f : Fl) (x : Fo) : List UInt8 := (List.range f.size).map fun i => askB x i ((f.data.getD x.sec.toNat []).getD i 0)
theorem askRow_len (f : Fl) (x : Fo) : (askRow f x).length = f.size := by simp [askRow]
theorem askRow_get {f : Fl} {x : Fo} {k : Nat} (h : k < f.size) : (U8 (askRow f x))[k]? = some (.int .u8 ((askB x k ((f.data.getD x.sec.toNat []).getD k 0)).toNat : Int)) := by
 rw [U8_get (by rw [askRow_len]; exact h)]
 unfold askRow
 rw [map_range_getD h]
theorem askRow_1 {f : Fl} {x : Fo} (h : x.kind = 1) : askRow f x = List.replicate f.size 255 := by
 unfold askRow
 simp only [askB_1 h]
 rw [List.map_const', List.length_range]
/-- The first k bytes are in. -/
def askP (row data : List UInt8) (p k : Nat) : List UInt8 := (List.range row.length).map fun i => if p ≤ i ∧ i < p + k then row.getD i 0 &&& data.getD (i - p) 0 else row.getD i 0
theorem askP_len (row data : List UInt8) (p k : Nat) : (askP row data p k).length = row.length := by simp [askP]
theorem askP_zero (row data : List UInt8) (p : Nat) : askP row data p 0 = row := by
 refine ext_getD (d := 0) (askP_len _ _ _ _) fun i hi => ?_
 rw [askP_len] at hi
 unfold askP
 rw [map_range_getD hi, if_neg (by omega)]
theorem askP_get {row data : List UInt8} {p k : Nat} (h : p + k < row.length) : (askP row data p k).getD (p + k) 0 = row.getD (p + k) 0 := by
 unfold askP
 rw [map_range_getD h, if_neg (by omega)]
theorem askP_set {row data : List UInt8} {p k : Nat} (h : p + k < row.length) : (askP row data p k).set (p + k) (row.getD (p + k) 0 &&& data.getD k 0) = askP row data p (k + 1) := by
 refine ext_getD (d := 0) (by rw [List.length_set, askP_len, askP_len]) fun i hi => ?_
 rw [List.length_set, askP_len] at hi
 by_cases hik : p + k = i
 · subst hik
   rw [getD_set_eq (by rw [askP_len]; exact h)]
   unfold askP
   rw [map_range_getD h, if_pos (by omega), show p + k - p = k from by omega]
 · rw [getD_set_ne hik]
   unfold askP
   rw [map_range_getD hi, map_range_getD hi]
   by_cases hc : p ≤ i ∧ i < p + k
   · rw [if_pos hc, if_pos (by omega)]
   · rw [if_neg hc, if_neg (by omega)]
theorem askP_all {f : Fl} {x : Fo} (hk : x.kind ≠ 1) (h0 : 0 ≤ x.at_) (hl : (f.data.getD x.sec.toNat []).length = f.size) : askP (f.data.getD x.sec.toNat []) x.data x.at_.toNat x.data.length = askRow f x := by
 refine ext_getD (d := 0) (by rw [askP_len, askRow_len, hl]) fun i hi => ?_
 rw [askP_len] at hi
 unfold askP askRow
 rw [map_range_getD hi, map_range_getD (by omega)]
 by_cases hc : x.at_.toNat ≤ i ∧ i < x.at_.toNat + x.data.length
 · rw [if_pos hc, askB_in hk (by omega), show ((i : Int) - x.at_).toNat = i - x.at_.toNat from by omega]
 · rw [if_neg hc, askB_out hk (by omega)]

/-! ### The flash after an operation -/
theorem rowF_len (f : Fl) (x : Fo) (mk : Nat → UInt8) : (rowF f x mk).length = f.size := by simp [rowF]
theorem rowsV_set {hs : List Hd} {ls : List (List UInt8)} {s : Nat} {l : List UInt8} (h : hs.length = ls.length) (hs' : s < ls.length) (hl : l.length = (ls.getD s []).length) : rowsV hs (B8 (ls.set s l)) = rowsV hs (B8 ls) := by
 refine List.ext_getElem? fun i => ?_
 by_cases hi : i < ls.length
 · rw [rows8_get (by rw [List.length_set]; exact h) (by rw [List.length_set]; exact hi), rows8_get h hi]
   by_cases his : s = i
   · subst his
     rw [getD_set_eq hs', hl]
   · rw [getD_set_ne his]
 · rw [List.getElem?_eq_none (by rw [rowsV_len (by rw [B8_len, List.length_set]; exact h), B8_len, List.length_set]; omega), List.getElem?_eq_none (by rw [rowsV_len (by rw [B8_len]; exact h), B8_len]; omega)]
theorem cutR_ok {f : Fl} {x : Fo} (hE : checkE f x = 0) (mk : Nat → UInt8) : cutR f x mk = cutF f x mk := if_pos hE
theorem cutR_bad {f : Fl} {x : Fo} (hE : checkE f x ≠ 0) (mk : Nat → UInt8) : cutR f x mk = flz := if_neg hE
theorem rowF_congr {f : Fl} {x : Fo} {mk mk' : Nat → UInt8} (h : ∀ i, i < f.size → mk i = mk' i) : rowF f x mk = rowF f x mk' := by
 unfold rowF
 refine List.map_congr_left fun i hi => ?_
 unfold rowB
 rw [h i (by simpa using hi)]
theorem cutR_congr {f : Fl} {x : Fo} {mk mk' : Nat → UInt8} (h : ∀ i, i < f.size → mk i = mk' i) : cutR f x mk = cutR f x mk' := by
 unfold cutR cutF
 rw [rowF_congr h]
theorem cutF_data {f : Fl} (x : Fo) (mk : Nat → UInt8) : (cutF f x mk).data.length = f.data.length := List.length_set
theorem cutF_wear {f : Fl} (x : Fo) (mk : Nat → UInt8) : (cutF f x mk).wear.length = f.wear.length := by
 unfold cutF
 dsimp only
 split <;> simp
/-- An operation keeps a flash right. -/
theorem cutF_ok {f : Fl} {x : Fo} (ok : f.Ok) (hE : checkE f x = 0) (mk : Nat → UInt8) : (cutF f x mk).Ok := by
 obtain ⟨q1, ⟨q2, q3, q4⟩, q5, q6⟩ := checkE_ok hE
 obtain ⟨o1, o2, o3, o4, o5, o6, o7, o8, o9, o10⟩ := ok
 refine ⟨o1, o2, by rw [cutF_data]; exact o3, by rw [cutF_data]; exact o4, by rw [cutF_data, cutF_wear]; exact o5, by rw [cutF_data]; exact o6, fun i hi => ?_, o8, o9, fun i hi => ?_⟩
 · rw [cutF_data] at hi
   show ((f.data.set x.sec.toNat (rowF f x mk)).getD i []).length = f.size
   by_cases his : x.sec.toNat = i
   · subst his; rw [getD_set_eq hi, rowF_len]
   · rw [getD_set_ne his]; exact o7 i hi
 · rw [cutF_data] at hi
   show 0 ≤ (if x.kind = 1 then f.wear.set x.sec.toNat (f.wear.getD x.sec.toNat 0 + 1) else f.wear).getD i 0 ∧ (if x.kind = 1 then f.wear.set x.sec.toNat (f.wear.getD x.sec.toNat 0 + 1) else f.wear).getD i 0 ≤ f.limit
   split
   · next hk =>
     by_cases his : x.sec.toNat = i
     · subst his
       rw [getD_set_eq (by omega)]
       have := o10 _ hi
       have : f.wear.getD x.sec.toNat 0 ≠ f.limit := fun h => q6 ⟨hk, h⟩
       omega
     · rw [getD_set_ne his]; exact o10 i hi
   · exact o10 i hi
theorem prow8_get {g : Nat → UInt8} {l : List UInt8} {k : Nat} (h : k < l.length) : (U8 (prow g l k))[k]? = some (.int .u8 ((l.getD k 0).toNat : Int)) := by
 rw [U8_get (by rw [prow_len (by omega)]; exact h), prow_get h]
theorem rowsV_put {hs : List Hd} {ls : List (List UInt8)} {s : Nat} {A : Option Addr} {c : Nat} {l : List UInt8} : (rowsV hs (B8 ls)).set s (.slice A l.length c) = rowsV (hs.set s (A, c)) (B8 (ls.set s l)) := by
 rw [← B8_set]
 refine List.ext_getElem? fun i => ?_
 unfold rowsV
 rw [List.getElem?_set, List.getElem?_zipWith, List.getElem?_zipWith, List.getElem?_set, List.getElem?_set]
 by_cases hi : s = i
 · subst hi
   simp only [if_true, List.length_zipWith, Nat.lt_min]
   by_cases h1 : s < hs.length
   · by_cases h2 : s < (B8 ls).length
     · simp [h1, h2, U8_len]
     · simp [h1, h2]
   · simp [h1]
 · simp [hi]

end Go.Sl
