/-
  Records of what sectors had, as plain data.
-/
import Derived.Test.YthfjkdgopkmgoaaRSlP
import Derived.Test.YthfjkdgopkmgoaaRPl
namespace Go.Sl

section
variable {X : Cx} {β : Base} {Γ : Env} {R H : List Pr}
theorem Ev.shl8 {t ty : Nat} {x y : Operand} {yk : IntKind} {a : Int} (hx : ev Γ x = some (.int .i64 a)) (hy : ev Γ y = some (.int yk 8)) (h0 : 0 ≤ a) (h1 : a ≤ 255) : Ev X β Γ R H (.binOp .shl t x y ty) (.int .i64 (a * 256)) := by
  intro ρ w hρ hw o ho
  have hg : (eqGuard .shl t x y (.int .i64 a) (.int yk 8)).run X.P w = .ok () w := by unfold eqGuard; rfl
  have hw1 : IntKind.i64.wrap (a * 256) = a * 256 := wrap_in (by omega) (by omega)
  simp [execOp, ho, hρ _ _ hx, hρ _ _ hy, hg, binOp_shl, Op.shift, IntKind.bits, hw1]
theorem bop_or16 (a b : UInt8) : bop .or .i64 ((a.toNat : Int) * 256) (b.toNat : Int) = (a.toNat : Int) * 256 + (b.toNat : Int) := by
  have ha := u8_lt a
  have hb := u8_lt b
  have e1 : (a.toNat : Int) * 256 = ((a.toNat * 256 : Nat) : Int) := by omega
  show IntKind.i64.wrap ((BitVec.ofInt 64 ((a.toNat : Int) * 256) ||| BitVec.ofInt 64 (b.toNat : Int)).toNat : Int) = _
  rw [e1, BitVec.ofInt_natCast, BitVec.ofInt_natCast, BitVec.toNat_or, BitVec.toNat_ofNat, BitVec.toNat_ofNat, Nat.mod_eq_of_lt (by omega), Nat.mod_eq_of_lt (by omega)]
  have e2 : a.toNat * 256 ||| b.toNat = a.toNat * 256 + b.toNat := by
    have := Nat.shiftLeft_add_eq_or_of_lt (a := a.toNat) (b := b.toNat) (i := 8) (by omega)
    rw [Nat.shiftLeft_eq, show (2 : Nat) ^ 8 = 256 from rfl] at this
    exact this.symm
  rw [e2, wrap_in (by omega) (by omega)]
  omega
theorem Ev.or16 {t ty : Nat} {x y : Operand} {a b : UInt8} (hx : ev Γ x = some (.int .i64 ((a.toNat : Int) * 256))) (hy : ev Γ y = some (.int .i64 (b.toNat : Int))) : Ev X β Γ R H (.binOp .or t x y ty) (.int .i64 ((a.toNat : Int) * 256 + (b.toNat : Int))) :=
  (Ev.pure (v := .int .i64 (bop .or .i64 ((a.toNat : Int) * 256) (b.toNat : Int))) (by simp [pev, hx, hy, pint])).cast (by rw [bop_or16])
end

/-- The number of the first two bytes. -/
def be2 (l : List UInt8) : Nat := (l.getD 0 0).toNat * 256 + (l.getD 1 0).toNat
theorem be2_lt (l : List UInt8) : be2 l < 65536 := by
  have h0 := u8_lt (l.getD 0 0)
  have h1 := u8_lt (l.getD 1 0)
  unfold be2
  omega
theorem be2_int (l : List UInt8) : ((l.getD 0 0).toNat : Int) * 256 + ((l.getD 1 0).toNat : Int) = (be2 l : Int) := by unfold be2; omega
theorem Has.dropU {R H : List Pr} {A : Option Addr} {l : List UInt8} (h : Has R H (Rd A (U8 l))) (c k : Nat) (hc : l.length ≤ c) : Has R H (Rd (subA A c k 1) (U8 (l.drop k))) := by
  have h2 := h.sub c k 1 l.length (by rw [U8_len]; omega)
  rwa [Nat.mul_one, U8_drop, List.take_of_length_le (by rw [U8_len, List.length_drop]; omega)] at h2
/-- A range with its bytes can be read. -/
def PieceOk (l : List UInt8) (last : Int) (size : Int) : Prop := 4 ≤ l.length ∧ last ≤ (be2 l : Int) ∧ 1 ≤ be2 (l.drop 2) ∧ (be2 l : Int) + (be2 (l.drop 2) : Int) ≤ size ∧ be2 (l.drop 2) ≤ l.length - 4
instance (l : List UInt8) (last size : Int) : Decidable (PieceOk l last size) := by unfold PieceOk; infer_instance
/-- Bytes are put at a place. -/
def putB (out : List UInt8) (p : Nat) (b : List UInt8) : List UInt8 := out.take p ++ b ++ out.drop (p + b.length)
theorem putB_len {out b : List UInt8} {p : Nat} (h : p + b.length ≤ out.length) : (putB out p b).length = out.length := by
  unfold putB
  simp only [List.length_append, List.length_take, List.length_drop]
  omega
theorem put8 (out b : List UInt8) (p : Nat) : (U8 out).take p ++ U8 b ++ (U8 out).drop (p + (U8 b).length) = U8 (putB out p b) := by
  unfold putB
  rw [U8_len]
  simp [U8, List.map_take, List.map_drop]
theorem subA_at {g c l : Nat} (h : l < c) : subA (some ⟨g, 0, none⟩) c l 1 = some ⟨g, l, none⟩ := by
  unfold subA
  rw [if_neg (by omega), Nat.mul_one]
  unfold Addr.add
  by_cases h0 : l = 0
  · subst h0; simp
  · simp [h0]
abbrev Pc := Nat × List UInt8
/-- So many ranges are read. -/
def goR : Nat → Int → List UInt8 → Int → Option (List UInt8 × List Pc)
  | 0, _, l, _ => some (l, [])
  | k + 1, size, l, last => if PieceOk l last size then (goR k size (((l.drop 2).drop 2).drop (be2 (l.drop 2))) ((be2 l : Int) + (be2 (l.drop 2) : Int))).map (fun r => (r.1, (be2 l, ((l.drop 2).drop 2).take (be2 (l.drop 2))) :: r.2)) else none
def parseS (rec : List UInt8) (size : Int) : Option (List Pc) :=
  if rec.length < 5 ∨ 64 ≤ (rec.getD 0 0).toNat then none
  else match goR (be2 (rec.drop 1)) size ((rec.drop 1).drop 2) 0 with
    | none => none
    | some r => if r.1.length = 2 ∧ be2 r.1 = rec.length then some r.2 else none
def applyP (out : List UInt8) (ps : List Pc) : List UInt8 := ps.foldl (fun o p => putB o p.1 p.2) out
theorem applyP_snoc (out : List UInt8) (ps : List Pc) (p : Pc) : applyP out (ps ++ [p]) = putB (applyP out ps) p.1 p.2 := by simp [applyP]
/-- What was read so far, and what is left. -/
def Half (n : Nat) (size : Int) (l0 : List UInt8) (k : Nat) (l : List UInt8) (last : Int) (ps : List Pc) : Prop := goR n size l0 0 = (goR k size l last).map fun r => (r.1, ps ++ r.2)
theorem Half.start (n : Nat) (size : Int) (l0 : List UInt8) : Half n size l0 n l0 0 [] := by
  unfold Half
  cases goR n size l0 0 <;> simp
theorem Half.next {n : Nat} {size : Int} {l0 : List UInt8} {k : Nat} {l : List UInt8} {last : Int} {ps : List Pc} (h : Half n size l0 (k + 1) l last ps) (hp : PieceOk l last size) :
    Half n size l0 k (((l.drop 2).drop 2).drop (be2 (l.drop 2))) ((be2 l : Int) + (be2 (l.drop 2) : Int)) (ps ++ [(be2 l, ((l.drop 2).drop 2).take (be2 (l.drop 2)))]) := by
  unfold Half at h ⊢
  rw [h, goR, if_pos hp, Option.map_map]
  congr 1
  funext r
  simp
theorem Half.bad {n : Nat} {size : Int} {l0 : List UInt8} {k : Nat} {l : List UInt8} {last : Int} {ps : List Pc} (h : Half n size l0 (k + 1) l last ps) (hp : ¬PieceOk l last size) : goR n size l0 0 = none := by
  unfold Half at h
  rw [h, goR, if_neg hp]
  rfl
theorem Half.done {n : Nat} {size : Int} {l0 l : List UInt8} {last : Int} {ps : List Pc} (h : Half n size l0 0 l last ps) : goR n size l0 0 = some (l, ps) := by
  unfold Half at h
  rw [h, goR]
  simp
theorem parseS_1 {rec : List UInt8} {size : Int} (h : rec.length < 5 ∨ 64 ≤ (rec.getD 0 0).toNat) : parseS rec size = none := if_pos h
theorem parseS_2 {rec : List UInt8} {size : Int} (h2 : goR (be2 (rec.drop 1)) size ((rec.drop 1).drop 2) 0 = none) : parseS rec size = none := by
  unfold parseS
  split
  · rfl
  · rw [h2]
theorem parseS_3 {rec l : List UInt8} {size : Int} {ps : List Pc} (h : ¬(rec.length < 5 ∨ 64 ≤ (rec.getD 0 0).toNat)) (h2 : goR (be2 (rec.drop 1)) size ((rec.drop 1).drop 2) 0 = some (l, ps)) : parseS rec size = if l.length = 2 ∧ be2 l = rec.length then some ps else none := by
  unfold parseS
  rw [if_neg h, h2]
theorem fin_eq {l rec : List UInt8} {ps : List Pc} {E : Option (List Pc)} (hE : E = if l.length = 2 ∧ be2 l = rec.length then some ps else none) (h40 : 2 ≤ l.length) (h44 : (be2 l : Int) = (rec.length : Int)) : (((l.drop 2).length : Int) == 0) = E.isSome := by
  subst hE
  rw [List.length_drop]
  by_cases h : l.length = 2
  · rw [if_pos ⟨h, by omega⟩, h]
    rfl
  · rw [if_neg (by omega)]
    have : ¬ (((l.length - 2 : Nat) : Int) = 0) := by omega
    simpa using this
theorem fin_ps {l rec out : List UInt8} {ps : List Pc} {E : Option (List Pc)} (hE : E = if l.length = 2 ∧ be2 l = rec.length then some ps else none) : ∀ qs, E = some qs → applyP out ps = applyP out qs := by
  subst hE
  intro qs h
  split at h
  · injection h with h
    rw [h]
  · cases h

end Go.Sl
