/-
  Records of what sectors had, as plain data.
-/
import Derived.Test.YtmbjknampholjaaESlP
import Derived.Test.YtmbjknampholjaaEPl
namespace Go.Sl

section
variable {X : Cx} {β : Base} {Γ : Env} {R H : List Pr}
end

/-- The number of the first two bytes. -/
def be2 (l : List UInt8) : Nat := (l.getD 0 0).toNat * 256 + (l.getD 1 0).toNat
theorem Has.dropU {R H : List Pr} {A : Option Addr} {l : List UInt8} (h : Has R H (Rd A (U8 l))) (c k : Nat) (hc : l.length ≤ c) : Has R H (Rd (subA A c k 1) (U8 (l.drop k))) := by
 have h2 := h.sub c k 1 l.length (by rw [U8_len]; omega)
 rwa [Nat.mul_one, U8_drop, List.take_of_length_le (by rw [U8_len, List.length_drop]; omega)] at h2
/-- A range with its bytes can be read. -/
def PieceOk (l : List UInt8) (last : Int) (size : Int) : Prop := 4 ≤ l.length ∧ last ≤ (be2 l : Int) ∧ 1 ≤ be2 (l.drop 2) ∧ (be2 l : Int) + (be2 (l.drop 2) : Int) ≤ size ∧ be2 (l.drop 2) ≤ l.length - 4
instance (l : List UInt8) (last size : Int) : Decidable (PieceOk l last size) := by unfold PieceOk; infer_instance
/-- Bytes are put at a place. -/
def putB (out : List UInt8) (p : Nat) (b : List UInt8) : List UInt8 := out.take p ++ b ++ out.drop (p + b.length)
theorem putB_len {out b : List UInt8} {p : Nat} (h : p + b.length ≤ out.length) : (putB out p b).length = out.length := by
 unfold putB
 simp only [List.length_append, List.length_take, List.length_drop]
 omega
abbrev Pc := Nat × List UInt8
/-- So many ranges are read. -/
def goR : Nat → Int → List UInt8 → Int → Option (List UInt8 × List Pc)
 | 0, _, l, _ => some (l, [])
 | k + 1, size, l, last => if PieceOk l last size then (goR k size (((l.drop 2).drop 2).drop (be2 (l.drop 2))) ((be2 l : Int) + (be2 (l.drop 2) : Int))).map (fun r => (r.1, (be2 l, ((l.drop 2).drop 2).take (be2 (l.drop 2))) :: r.2)) else none
def parseS (rec : List UInt8) (size : Int) : Option (List Pc) :=
 if rec.length < 5 ∨ 64 ≤ (rec.getD 0 0).toNat then none
 else match goR (be2 (rec.drop 1)) size ((rec.drop 1).drop 2) 0 with
   | none => none
   | some r => if r.1.length = 2 ∧ be2 r.1 = rec.length then some r.2 else none
def applyP (out : List UInt8) (ps : List Pc) : List UInt8 := ps.foldl (fun o p => putB o p.1 p.2) out
/-- What was read so far, and what is left. -/
def Half (n : Nat) (size : Int) (l0 : List UInt8) (k : Nat) (l : List UInt8) (last : Int) (ps : List Pc) : Prop := goR n size l0 0 = (goR k size l last).map fun r => (r.1, ps ++ r.2)
theorem Half.start (n : Nat) (size : Int) (l0 : List UInt8) : Half n size l0 n l0 0 [] := by
 unfold Half
 cases goR n size l0 0 <;> simp
theorem Half.next {n : Nat} {size : Int} {l0 : List UInt8} {k : Nat} {l : List UInt8} {last : Int} {ps : List Pc} (h : Half n size l0 (k + 1) l last ps) (hp : PieceOk l last size) :
   Half n size l0 k (((l.drop 2).drop 2).drop (be2 (l.drop 2))) ((be2 l : Int) + (be2 (l.drop 2) : Int)) (ps ++ [(be2 l, ((l.drop 2).drop 2).take (be2 (l.drop 2)))]) := by
 unfold Half at h ⊢
 rw [h, goR, if_pos hp, Option.map_map]
 congr 1
 funext r
 simp
theorem Half.done {n : Nat} {size : Int} {l0 l : List UInt8} {last : Int} {ps : List Pc} (h : Half n size l0 0 l last ps) : goR n size l0 0 = some (l, ps) := by
 unfold Half at h
 rw [h, goR]
 simp
theorem parseS_3 {rec l : List UInt8} {size : Int} {ps : List Pc} (h : ¬(rec.length < 5 ∨ 64 ≤ (rec.getD 0 0).toNat)) (h2 : goR (be2 (rec.drop 1)) size ((rec.drop 1).drop 2) 0 = some (l, ps)) : parseS rec size = if l.length = 2 ∧ be2 l = rec.length then some ps else none := by
 unfold parseS
 rw [if_neg h, h2]
end Go.Sl
