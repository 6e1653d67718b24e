/-
  Contracts that the walks of the Flash laws share.
-/
import Derived.Test.YthfjkdgopkmgoaaWFlL
import Derived.Test.YthfjkdgopkmgoaaPn
namespace Go.Proofs.Ythfjkdgopkmgoaa
open Go.Sl

theorem rows_pos {hs : List Hd} {ls : List (List UInt8)} {i : Nat} (h : hs.length = ls.length) (hi : i < ls.length) : 0 < (rowsV hs (B8 ls)).length := by
  rw [rowsV_len (by rw [B8_len]; exact h), B8_len]
  exact Nat.lt_of_le_of_lt (Nat.zero_le _) hi
theorem U8_pos {l : List UInt8} {i : Nat} (h : i < l.length) : 0 < (U8 l).length := by rw [U8_len]; exact Nat.lt_of_le_of_lt (Nat.zero_le _) h
theorem I64_pos {l : List Int} {i : Nat} (h : i < l.length) : 0 < (I64 l).length := by rw [I64_len]; exact Nat.lt_of_le_of_lt (Nat.zero_le _) h
theorem Bs_pos {l : List Bool} {i : Nat} (h : i < l.length) : 0 < (Bs l).length := by rw [Bs_len]; exact Nat.lt_of_le_of_lt (Nat.zero_le _) h
theorem len_big {l : List UInt8} {n : Nat} (h : l.length = n) (hn : n ≤ 12) : l.length ≤ 9223372036854775807 := by omega

theorem op_g (f : Fl) (a : Fa) (ok : f.Ok) (hh : a.hs.length = f.data.length) (er torn : Bool) (se at_ : UInt8) (data : List UInt8) (YA MA : Option Addr) (yc mn mc : Nat) (hdl : data.length ≤ 9223372036854775807) (hyc : data.length ≤ yc) :
    Ctr X 49 [.agg (List.toArray [.int .i64 (f.size : Int), .slice a.D f.data.length a.cD, .slice a.W f.wear.length a.cW, .int .i64 f.limit, .slice a.E f.dead.length a.cE]), .agg (List.toArray [.bool er, .int .u8 (se.toNat : Int), .int .u8 (at_.toNat : Int), .slice YA data.length yc, .bool torn, .slice MA mn mc])] [Rd a.D (rowsV a.hs (B8 f.data)), KidsR a.hs (B8 f.data), Rd a.W (I64 f.wear), Rd a.E (Bs f.dead), Rd YA (U8 data)] []
      (fun v R' H' => ∃ (x : Fo) (A : Option Addr) (c : Nat), (GoodOp f x ∧ x.data.length ≤ data.length ∧ (er = false → x.kind = 2) ∧ x.sec = (se.toNat : Int) % (f.data.length : Int)) ∧ v = .agg (List.toArray [.int .i64 x.kind, .int .i64 x.sec, .int .i64 x.at_, .slice A x.data.length c]) ∧ R' = [Rd A (U8 x.data)] ∧ H' = []) := by
  refine (op_c f a ok hh er torn se at_ data YA MA yc mn mc hdl hyc).mono ?_
  rintro v R' H' ⟨A, c, rfl, rfl, rfl⟩
  exact ⟨opS f er se at_ data, A, c, ⟨opS_good ok er se at_ data, opS_len f er se at_ data, fun h => by subst h; rfl, opS_sec f er se at_ data⟩, rfl, rfl, rfl⟩
theorem cut_e (f : Fl) (a : Fa) (ok : f.Ok) (hh : a.hs.length = f.data.length) (x : Fo) (XA : Option Addr) (xc : Nat) (hxl : x.data.length ≤ 9223372036854775807) (ms : List UInt8) (M : Option Addr) (mn mc : Nat) (hmn : ms.length = mn) (hml : ms.length ≤ 9223372036854775807) (mk : Nat → UInt8) (hmk : ∀ i, i < f.size → ms.getD i 0 = mk i) :
    Ctr X 38 [.agg (List.toArray [.int .i64 (f.size : Int), .slice a.D f.data.length a.cD, .slice a.W f.wear.length a.cW, .int .i64 f.limit, .slice a.E f.dead.length a.cE]), .agg (List.toArray [.int .i64 x.kind, .int .i64 x.sec, .int .i64 x.at_, .slice XA x.data.length xc]), .slice M mn mc] [Rd a.D (rowsV a.hs (B8 f.data)), KidsR a.hs (B8 f.data), Rd a.W (I64 f.wear), Rd a.E (Bs f.dead), Rd XA (U8 x.data), Rd M (U8 ms)] [] (fun v R' H' => ∃ b : Fa, b.hs.length = (cutR f x mk).data.length ∧ v = .tuple #[flV (cutR f x mk) b, .int .i64 (checkE f x)] ∧ R' = flR (cutR f x mk) b ∧ H' = []) := by
  have h := cut_c f a ok hh x XA xc hxl ms M mn mc hmn hml
  rw [cutR_congr hmk] at h
  exact h
theorem flz_sm : flz.Sm := ⟨by decide, by decide, by decide, fun i => by simp [flz]⟩
theorem okB_ok {f : Fl} (h : f.Ok) : okB (f.size : Int) f = true := by
  obtain ⟨h1, h2, h3, h4, h5, h6, h7, h8, h9, h10⟩ := h
  exact okB_yes (by omega) (fun i hi => okR_yes (by rw [h7 i hi]) (h10 i hi))

end Go.Proofs.Ythfjkdgopkmgoaa
