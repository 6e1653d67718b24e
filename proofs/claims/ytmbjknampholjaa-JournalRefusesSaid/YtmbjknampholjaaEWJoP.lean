/-
  The contracts of Layout, Flash, Step.
-/
import Derived.Test.YtmbjknampholjaaEWJoN
import Derived.Test.YtmbjknampholjaaEJd
namespace Go.Proofs.Ytmbjknampholjaa
open Go.Sl

theorem kid_set (ls : List (List UInt8)) (i k : Nat) (y : UInt8) : (B8 ls).set i (((B8 ls).getD i []).set k (.int .u8 (y.toNat : Int))) = B8 (ls.set i ((ls.getD i []).set k y)) := by rw [B8_get, U8_set, B8_set]
theorem storeKid8 {β : Base} {n : Nat} {ds : List Deferred} {ops : Array Oper} {Q : Exit → Act → World → Prop} {rest : List Oper} {Γ : Env} {R H : List Pr} {t ty k j e i : Nat} {pos : String} {af : Array Edge} {x v : Operand} {y : UInt8} {ii : Ti} {hs : List Hd} {ls : List (List UInt8)} (ht : tlook t X.tab = some ii) (hj : H[j]? = some (OwnKids e hs (B8 ls))) (hl : hs.length = (B8 ls).length) (hi : i < ls.length)
   (hx : ev Γ x = some (ptrOf (hs.getD i (none, 0)).1 k)) (hy : ev Γ v = some (.int .u8 (y.toNat : Int))) (hv : (Value.int IntKind.u8 (y.toNat : Int)).cells = #[.int .u8 (y.toNat : Int)]) (h1 : (Value.int IntKind.u8 (y.toNat : Int)).oneCell' = true) (hsz : ii.size = 1) (hk : k < (ls.getD i []).length)
   (hh : L X β n ds ops Q rest Γ R (H.set j (OwnKids e hs (B8 (ls.set i ((ls.getD i []).set k y)))))) : L X β n ds ops Q (⟨none, .store t x v, ty, pos, af, none⟩ :: rest) Γ R H := by
 refine L.storeKid ht hj hl (by rw [B8_len]; exact hi) hx hy hv h1 hsz (by rw [B8_get, U8_len]; exact hk) ?_
 rw [kid_set]
 exact hh
theorem rows_same {hs : List Hd} {ls ms : List (List UInt8)} (hl : ls.length = ms.length) (h : ∀ i, i < ls.length → (ls.getD i []).length = (ms.getD i []).length) (hh : hs.length = ls.length) : rowsV hs (B8 ls) = rowsV hs (B8 ms) := by
 refine List.ext_getElem? fun i => ?_
 by_cases hi : i < ls.length
 · rw [rows8_get hh hi, rows8_get (hh.trans hl) (by omega), h i hi]
 · rw [List.getElem?_eq_none (by rw [rowsV_len (by rw [B8_len]; exact hh), B8_len]; omega), List.getElem?_eq_none (by rw [rowsV_len (by rw [B8_len]; exact hh.trans hl), B8_len]; omega)]
theorem fl1_rows {hs : List Hd} (z : UInt8) (hh : hs.length = 4) : rowsV hs (B8 (fl0 (szJ z) 4 60).data) = rowsV hs (B8 (fl1 z).data) := by
 refine rows_same rfl (fun i hi => ?_) hh
 replace hi : i < 4 := hi
 have e := (fl1_ok z).rows i hi
 rw [e]
 show ((List.replicate 4 (List.replicate (szJ z) (255 : UInt8))).getD i []).length = szJ z
 rw [getD_rep _ _ _ _ hi, List.length_replicate]

theorem layout_c (z p qq : UInt8) (r : List UInt8) :
   Ctr X 12 [.agg (List.toArray [.int .u8 (z.toNat : Int), .int .u8 (p.toNat : Int), .int .u8 (qq.toNat : Int), .int .u8 (((r).getD 0 0).toNat : Int), .int .u8 (((r).getD 1 0).toNat : Int), .int .u8 (((r).getD 2 0).toNat : Int), .int .u8 (((r).getD 3 0).toNat : Int), .int .u8 (((r).getD 4 0).toNat : Int), .int .u8 (((r).getD 5 0).toNat : Int), .int .u8 (((r).getD 6 0).toNat : Int), .int .u8 (((r).getD 7 0).toNat : Int), .int .u8 (((r).getD 8 0).toNat : Int)])] [] [] (fun v R' H' => v = .agg (List.toArray [.int .i64 0, .int .i64 (laA p), .int .i64 (laB p qq), .int .i64 0, .int .i64 0, .slice none 0 0, .slice none 0 0, .slice none 0 0]) ∧ R' = [] ∧ H' = []) := by
 have h1 := UInt8.toNat_lt p
 have h2 := UInt8.toNat_lt qq
 refine Ctr.of (X := X) (fn := Try.f12) Try.func12 rfl (by kernel_rfl) rfl ?_
 intro β
 refine C.seq (C.region ?_)
 refine L.boxA rfl rfl (fun A1 => ?_)
 refine L.alloc rfl rfl rfl (fun A2 => ?_)
 refine L.nil (QE.seq (C.seq ?_)); refine C.freeze 0 rfl [1] (by decide) (by decide) ?_; refine C.region ?_; refine L.step (Ev.fieldAddr rfl rfl rfl rfl rfl rfl (Src.r 0 rfl) (Nat.zero_lt_succ _) rfl) rfl ?_; refine L.step (Ev.idxArr (k := 0) (m := 1) rfl rfl rfl rfl rfl rfl (by decide) (Src.r 0 rfl) (by exact Nat.zero_lt_succ _) rfl) rfl ?_; refine L.step (Ev.load rfl rfl rfl (Src.r 0 rfl) rfl) rfl ?_
 first | refine L.step (Ev.byteInt rfl rfl rfl rfl) rfl ?_ | refine L.step (Ev.toInt rfl rfl rfl rfl (by omega) (by omega)) rfl ?_
 refine L.step (Ev.cast (u := .int .i64 (laA p)) (Ev.rem rfl rfl (by omega) (by decide)) rfl) rfl ?_; refine Lpu rfl rfl ?_; refine L.nil (QE.seq (C.seq (C.region ?_))); refine Lpu rfl rfl ?_; refine Lpu rfl rfl ?_; refine L.step (Ev.add rfl rfl (by unfold laA; omega) (by unfold laA; omega)) rfl ?_; refine L.step (Ev.fieldAddr rfl rfl rfl rfl rfl rfl (Src.r 0 rfl) (Nat.zero_lt_succ _) rfl) rfl ?_; refine L.step (Ev.idxArr (k := 1) (m := 2) rfl rfl rfl rfl rfl rfl (by decide) (Src.r 0 rfl) (by exact Nat.zero_lt_succ _) rfl) rfl ?_; refine L.step (Ev.load rfl rfl rfl (Src.r 0 rfl) rfl) rfl ?_
 first | refine L.step (Ev.byteInt rfl rfl rfl rfl) rfl ?_ | refine L.step (Ev.toInt rfl rfl rfl rfl (by omega) (by omega)) rfl ?_
 refine L.step (Ev.rem rfl rfl (by omega) (by decide)) rfl ?_; refine L.step (Ev.add rfl rfl (by unfold laA; omega) (by unfold laA; omega)) rfl ?_; refine L.step (Ev.cast (u := .int .i64 (laB p qq)) (Ev.rem rfl rfl (by unfold laA; omega) (by decide)) rfl) rfl ?_; refine L.step (Ev.buildArr rfl rfl rfl rfl rfl rfl rfl) rfl ?_; refine L.step (Ev.build rfl rfl rfl rfl rfl rfl rfl) rfl ?_; refine L.storeA (j := 0) rfl rfl rfl rfl rfl (Nat.zero_lt_succ _) rfl rfl ?_; refine L.nil (QE.seq (C.ret ?_)); refine QE.ret (js := []) (hs := []) (vs := [_]) rfl ⟨⟨_, _, 0, _, rfl, rfl, Src.o 0 rfl, .inl ⟨rfl, by decide, _, rfl, rfl, rfl⟩⟩, trivial⟩ (by decide) ?_
 exact ⟨rfl, rfl, rfl⟩

set_option maxHeartbeats 1000000 in
theorem flash_c (z p qq : UInt8) (r : List UInt8) :
   Ctr X 11 [.agg (List.toArray [.int .u8 (z.toNat : Int), .int .u8 (p.toNat : Int), .int .u8 (qq.toNat : Int), .int .u8 (((r).getD 0 0).toNat : Int), .int .u8 (((r).getD 1 0).toNat : Int), .int .u8 (((r).getD 2 0).toNat : Int), .int .u8 (((r).getD 3 0).toNat : Int), .int .u8 (((r).getD 4 0).toNat : Int), .int .u8 (((r).getD 5 0).toNat : Int), .int .u8 (((r).getD 6 0).toNat : Int), .int .u8 (((r).getD 7 0).toNat : Int), .int .u8 (((r).getD 8 0).toNat : Int)])] [] [] (fun v R' H' => ∃ a : Fa, a.hs.length = (flJ z p qq r).data.length ∧ Caps (flJ z p qq r) a ∧ v = flV (flJ z p qq r) a ∧ R' = flR (flJ z p qq r) a ∧ H' = []) := by
 have hz := szJ_le z
 have h1 := UInt8.toNat_lt z
 have hok := fl1_ok z
 refine Ctr.of (X := X) (fn := Try.f11) Try.func11 rfl (by kernel_rfl) rfl ?_
 intro β
 refine C.seq (C.region ?_)
 refine L.boxA rfl rfl (fun A1 => ?_)
 refine L.alloc rfl rfl rfl (fun A2 => ?_)
 refine L.nil (QE.seq (C.seq ?_)); refine C.freeze 0 rfl [1] (by decide) (by decide) ?_; refine C.norm (H' := [_]) [0] ⟨rfl, trivial⟩ (by decide) ?_; refine C.region ?_; refine L.step (Ev.fieldAddr rfl rfl rfl rfl rfl rfl (Src.r 0 rfl) (Nat.zero_lt_succ _) rfl) rfl ?_; refine L.step (Ev.load rfl rfl rfl (Src.r 0 rfl) rfl) rfl ?_
 first | refine L.step (Ev.byteInt rfl rfl rfl rfl) rfl ?_ | refine L.step (Ev.toInt rfl rfl rfl rfl (by omega) (by omega)) rfl ?_
 refine L.step (Ev.rem rfl rfl (by omega) (by decide)) rfl ?_; refine L.step (Ev.cast (u := .int .i64 ((szJ z : Nat) : Int)) (Ev.add rfl rfl (by omega) (by omega)) (congrArg (Value.int .i64) (by unfold szJ; omega))) rfl ?_; refine L.call (js := []) (js' := [0]) (new17_c (szJ z) 4 60 (by omega) (by omega) (by decide) (by decide) (by decide) (by decide)) rfl rfl rfl (by decide) trivial rfl ?_
 rintro _ _ _ ⟨a, rfl, rfl, rfl, ha⟩
 refine L.kcaps 1 rfl (fun hkc => ?_)
 refine L.norm (H' := [_, _, _, _, _]) [0, 1, 2, 3, 4] ⟨rfl, rfl, rfl, rfl, rfl, trivial⟩ (by decide) ?_; refine Lpu rfl rfl ?_; refine Lpu rfl rfl ?_; refine Lpu rfl rfl ?_
 refine L.alloc rfl rfl rfl (fun A3 => ?_)
 refine L.storeA (j := 5) rfl rfl rfl rfl rfl (Nat.zero_lt_succ _) rfl rfl ?_; refine Lpu rfl rfl ?_; refine L.nil (QE.seq (C.seq ?_)); refine C.join (fun q : Unit => [(1, ptrOf A1 0), (2, ptrOf A2 0), (3, ptrOf A3 0)]) (fun q : Unit => [Rd A1 [.int .u8 (z.toNat : Int), .int .u8 (p.toNat : Int), .int .u8 (qq.toNat : Int), .int .u8 (((r).getD 0 0).toNat : Int), .int .u8 (((r).getD 1 0).toNat : Int), .int .u8 (((r).getD 2 0).toNat : Int), .int .u8 (((r).getD 3 0).toNat : Int), .int .u8 (((r).getD 4 0).toNat : Int), .int .u8 (((r).getD 5 0).toNat : Int), .int .u8 (((r).getD 6 0).toNat : Int), .int .u8 (((r).getD 7 0).toNat : Int), .int .u8 (((r).getD 8 0).toNat : Int)]]) (fun q : Unit => [Own 35 5 A2 1 1 [.int .i64 0, .slice none 0 0, .slice none 0 0, .int .i64 0, .slice none 0 0], Own 35 5 A3 1 1 (flL (fl1 z) a), Own 45 1 a.D 4 a.cD (rowsV a.hs (B8 (fl1 z).data)), OwnKids 5 a.hs (B8 (fl1 z).data), Own 3 1 a.W 4 a.cW (I64 (fl1 z).wear), Own 4 1 a.E 4 a.cE (Bs (fl1 z).dead)]) (fun q : Unit => True) ?_ ?_
 ·
  refine C.regionM [Rd A3 (flL (fl0 (szJ z) 4 60) a), Rd a.D (rowsV a.hs (B8 (fl0 (szJ z) 4 60).data)), Rd A1 [.int .u8 (z.toNat : Int), .int .u8 (p.toNat : Int), .int .u8 (qq.toNat : Int), .int .u8 (((r).getD 0 0).toNat : Int), .int .u8 (((r).getD 1 0).toNat : Int), .int .u8 (((r).getD 2 0).toNat : Int), .int .u8 (((r).getD 3 0).toNat : Int), .int .u8 (((r).getD 4 0).toNat : Int), .int .u8 (((r).getD 5 0).toNat : Int), .int .u8 (((r).getD 6 0).toNat : Int), .int .u8 (((r).getD 7 0).toNat : Int), .int .u8 (((r).getD 8 0).toNat : Int)]] ⟨Has.o 5 rfl, Has.o 0 rfl, Has.r 0 rfl, trivial⟩ ?_; refine LM.q 0 rfl (by kernel_rfl) (Ev.fieldAddr rfl rfl rfl rfl rfl rfl (Src.r 0 rfl) (Nat.zero_lt_succ _) rfl) rfl ⟨Has.o 5 rfl, Has.o 0 rfl, Has.r 0 rfl, trivial⟩ ?_; refine LM.q 1 rfl (by kernel_rfl) (Ev.load rfl rfl rfl (Src.r 0 rfl) rfl) rfl ⟨Has.o 5 rfl, Has.o 0 rfl, Has.r 0 rfl, trivial⟩ ?_; refine LM.q 2 rfl (by kernel_rfl) (Ev.idx1 (k := 3) rfl rfl rfl rfl rfl rfl rfl (by show 3 < 4; decide) (Src.r 1 rfl) (by rw [rowsV_len (by rw [B8_len]; exact ha), B8_len]; show 0 < 4; decide)) rfl ⟨Has.o 5 rfl, Has.o 0 rfl, Has.r 0 rfl, trivial⟩ ?_; refine LM.q 3 rfl (by kernel_rfl) (Ev.load rfl rfl rfl (Src.r 1 rfl) (rows8_get (ls := (fl0 (szJ z) 4 60).data) (i := 3) ha (by show 3 < 4; decide))) rfl ⟨Has.o 5 rfl, Has.o 0 rfl, Has.r 0 rfl, trivial⟩ ?_; refine LM.q 4 rfl (by kernel_rfl) (Ev.fieldAddr rfl rfl rfl rfl rfl rfl (Src.r 0 rfl) (Nat.zero_lt_succ _) rfl) rfl ⟨Has.o 5 rfl, Has.o 0 rfl, Has.r 0 rfl, trivial⟩ ?_; refine LM.q 5 rfl (by kernel_rfl) (Ev.load rfl rfl rfl (Src.r 0 rfl) rfl) rfl ⟨Has.o 5 rfl, Has.o 0 rfl, Has.r 0 rfl, trivial⟩ ?_; refine LM.q 6 rfl (by kernel_rfl) (Ev.idx1 (k := 0) rfl rfl rfl rfl rfl rfl rfl (by show 0 < 4; decide) (Src.r 1 rfl) (by rw [rowsV_len (by rw [B8_len]; exact ha), B8_len]; show 0 < 4; decide)) rfl ⟨Has.o 5 rfl, Has.o 0 rfl, Has.r 0 rfl, trivial⟩ ?_; refine LM.q 7 rfl (by kernel_rfl) (Ev.load rfl rfl rfl (Src.r 1 rfl) (rows8_get (ls := (fl0 (szJ z) 4 60).data) (i := 0) ha (by show 0 < 4; decide))) rfl ⟨Has.o 5 rfl, Has.o 0 rfl, Has.r 0 rfl, trivial⟩ ?_; refine LM.f 8 rfl (by kernel_rfl) ⟨Has.o 5 rfl, Has.o 0 rfl, Has.r 0 rfl, trivial⟩ ?_; refine L.step (Ev.fieldAddr rfl rfl rfl rfl rfl rfl (Src.o 5 rfl) (Nat.zero_lt_succ _) rfl) rfl ?_
  refine L.nil (QE.m (by kernel_rfl) ?_)
  refine LM.f 9 rfl (by kernel_rfl) ⟨Has.o 5 rfl, Has.o 0 rfl, Has.r 0 rfl, trivial⟩ ?_; refine L.step (Ev.load rfl rfl rfl (Src.o 5 rfl) rfl) rfl ?_
  refine L.nil (QE.m (by kernel_rfl) ?_)
  refine LM.f 10 rfl (by kernel_rfl) ⟨Has.o 5 rfl, Has.o 0 rfl, Has.r 0 rfl, trivial⟩ ?_; refine L.step (Ev.idx1 (k := 1) rfl rfl rfl rfl rfl rfl rfl (by show 1 < 4; decide) (Src.o 0 rfl) (by rw [rowsV_len (by rw [B8_len]; exact ha), B8_len]; show 0 < 4; decide)) rfl ?_
  refine L.nil (QE.m (by kernel_rfl) ?_)
  refine LM.f 11 rfl (by kernel_rfl) ⟨Has.o 5 rfl, Has.o 0 rfl, Has.r 0 rfl, trivial⟩ ?_; refine L.step (Ev.load rfl rfl rfl (Src.o 0 rfl) (rows8_get (ls := (fl0 (szJ z) 4 60).data) (i := 1) ha (by show 1 < 4; decide))) rfl ?_
  refine L.nil (QE.m (by kernel_rfl) ?_)
  refine LM.cut [] (by kernel_rfl) ⟨Has.o 5 rfl, Has.o 0 rfl, Has.r 0 rfl, trivial⟩ ?_; refine LM.f 12 rfl (by kernel_rfl) trivial ?_; refine L.step (Ev.idx1 (k := 5) rfl rfl rfl rfl rfl rfl rfl (by show 5 < (List.replicate (szJ z) (255 : UInt8)).length; rw [List.length_replicate]; omega) (Src.okid 1 rfl (by rw [B8_len]; show a.hs.length = 4; exact ha) 3 (by rw [B8_len]; show 3 < 4; decide)) (by rw [B8_get, U8_len]; show 0 < (List.replicate (szJ z) (255 : UInt8)).length; rw [List.length_replicate]; omega)) rfl ?_
  refine L.nil (QE.m (by kernel_rfl) ?_)
  refine LM.f 13 rfl (by kernel_rfl) trivial ?_; refine storeKid8 (j := 1) (i := 3) (k := 5) (y := 17) (ls := (List.replicate 4 (List.replicate (szJ z) (255 : UInt8)))) rfl rfl (by rw [B8_len]; show a.hs.length = 4; exact ha) (by show 3 < 4; decide) rfl rfl rfl rfl rfl (by show 5 < (List.replicate (szJ z) (255 : UInt8)).length; rw [List.length_replicate]; omega) ?_
  refine L.nil (QE.m (by kernel_rfl) ?_)
  refine LM.f 14 rfl (by kernel_rfl) trivial ?_; refine L.step (Ev.idx1 (k := 7) rfl rfl rfl rfl rfl rfl rfl (by show 7 < (List.replicate (szJ z) (255 : UInt8)).length; rw [List.length_replicate]; omega) (Src.okid 1 rfl (by rw [B8_len]; show a.hs.length = 4; exact ha) 0 (by rw [B8_len]; show 0 < 4; decide)) (by rw [B8_get, U8_len]; show 0 < (List.replicate (szJ z) (255 : UInt8)).length; rw [List.length_replicate]; omega)) rfl ?_
  refine L.nil (QE.m (by kernel_rfl) ?_)
  refine LM.f 15 rfl (by kernel_rfl) trivial ?_; refine storeKid8 (j := 1) (i := 0) (k := 7) (y := 0) (ls := ((List.replicate 4 (List.replicate (szJ z) (255 : UInt8))).set 3 (((List.replicate 4 (List.replicate (szJ z) (255 : UInt8))).getD 3 []).set 5 17))) rfl rfl (by rw [B8_len]; show a.hs.length = 4; exact ha) (by show 0 < 4; decide) rfl rfl rfl rfl rfl (by show 7 < (List.replicate (szJ z) (255 : UInt8)).length; rw [List.length_replicate]; omega) ?_
  refine L.nil (QE.m (by kernel_rfl) ?_)
  refine LM.f 16 rfl (by kernel_rfl) trivial ?_; refine L.step (Ev.idx1 (k := 0) rfl rfl rfl rfl rfl rfl rfl (by show 0 < (List.replicate (szJ z) (255 : UInt8)).length; rw [List.length_replicate]; omega) (Src.okid 1 rfl (by rw [B8_len]; show a.hs.length = 4; exact ha) 1 (by rw [B8_len]; show 1 < 4; decide)) (by rw [B8_get, U8_len]; show 0 < (List.replicate (szJ z) (255 : UInt8)).length; rw [List.length_replicate]; omega)) rfl ?_
  refine L.nil (QE.m (by kernel_rfl) ?_)
  refine LM.f 17 rfl (by kernel_rfl) trivial ?_; refine storeKid8 (j := 1) (i := 1) (k := 0) (y := 3) (ls := (((List.replicate 4 (List.replicate (szJ z) (255 : UInt8))).set 3 (((List.replicate 4 (List.replicate (szJ z) (255 : UInt8))).getD 3 []).set 5 17)).set 0 ((((List.replicate 4 (List.replicate (szJ z) (255 : UInt8))).set 3 (((List.replicate 4 (List.replicate (szJ z) (255 : UInt8))).getD 3 []).set 5 17)).getD 0 []).set 7 0))) rfl rfl (by rw [B8_len]; show a.hs.length = 4; exact ha) (by show 1 < 4; decide) rfl rfl rfl rfl rfl (by show 0 < (List.replicate (szJ z) (255 : UInt8)).length; rw [List.length_replicate]; omega) ?_
  refine L.nil (QE.m (by kernel_rfl) ?_)
  refine LM.nil (by kernel_rfl) trivial ?_
  refine QE.joined (()) (by exact trivial) (by exact Le.mk' (rs := [0]) (hs := [4, 5, 0, 1, 2, 3]) ⟨rfl, rfl, rfl, trivial⟩ ⟨rfl, trivial⟩ ⟨rfl, rfl, (by rw [← fl1_rows z ha]; rfl), rfl, rfl, rfl, trivial⟩ (by decide))
 ·
  rintro _ _
  have hcp : Caps (fl1 z) a := fun i hi => by
    have e := hkc i hi
    have e2 : ((fl0 (szJ z) 4 60).data.getD i []).length = szJ z := by show ((List.replicate 4 (List.replicate (szJ z) (255 : UInt8))).getD i []).length = szJ z; rw [getD_rep _ _ _ _ (show i < 4 from hi), List.length_replicate]
    rw [e2] at e
    exact e
  refine QE.seq (C.seq ?_); refine C.freeze 2 rfl [0, 1, 3, 4, 5] (by decide) (by decide) ?_; refine C.norm (H' := [_, _, _, _, _]) [0, 1, 2, 3, 4] ⟨rfl, rfl, rfl, rfl, rfl, trivial⟩ (by decide) ?_; refine C.freezeKids 2 rfl [0, 1, 3, 4] (by decide) (by decide) ?_; refine C.norm (H' := [_, _, _, _]) [0, 1, 2, 3] ⟨rfl, rfl, rfl, rfl, trivial⟩ (by decide) ?_; refine C.freeze 2 rfl [0, 1, 3] (by decide) (by decide) ?_; refine C.norm (H' := [_, _, _]) [0, 1, 2] ⟨rfl, rfl, rfl, trivial⟩ (by decide) ?_; refine C.freeze 2 rfl [0, 1] (by decide) (by decide) ?_; refine C.norm (H' := [_, _]) [0, 1] ⟨rfl, rfl, trivial⟩ (by decide) ?_; refine C.join (fun q : Fa × Option Addr => [(2, ptrOf A2 0), (5, ptrOf q.2 0)]) (fun q : Fa × Option Addr => [Rd q.1.D (rowsV q.1.hs (B8 (flJ z p qq r).data)), KidsR q.1.hs (B8 (flJ z p qq r).data), Rd q.1.W (I64 (flJ z p qq r).wear), Rd q.1.E (Bs (flJ z p qq r).dead)]) (fun q : Fa × Option Addr => [Own 35 5 A2 1 1 [.int .i64 0, .slice none 0 0, .slice none 0 0, .int .i64 0, .slice none 0 0], Own 35 5 q.2 1 1 (flL (flJ z p qq r) q.1)]) (fun q : Fa × Option Addr => q.1.hs.length = (flJ z p qq r).data.length ∧ Caps (flJ z p qq r) q.1) ?_ ?_
  ·
   refine C.regionM [Rd a.E (Bs (fl1 z).dead), Rd a.W (I64 (fl1 z).wear), KidsR a.hs (B8 (fl1 z).data), Rd a.D (rowsV a.hs (B8 (fl1 z).data)), Rd A1 [.int .u8 (z.toNat : Int), .int .u8 (p.toNat : Int), .int .u8 (qq.toNat : Int), .int .u8 (((r).getD 0 0).toNat : Int), .int .u8 (((r).getD 1 0).toNat : Int), .int .u8 (((r).getD 2 0).toNat : Int), .int .u8 (((r).getD 3 0).toNat : Int), .int .u8 (((r).getD 4 0).toNat : Int), .int .u8 (((r).getD 5 0).toNat : Int), .int .u8 (((r).getD 6 0).toNat : Int), .int .u8 (((r).getD 7 0).toNat : Int), .int .u8 (((r).getD 8 0).toNat : Int)], Rd A3 (flL (fl1 z) a)] ⟨Has.r 0 rfl, Has.r 1 rfl, Has.r 2 rfl, Has.r 3 rfl, Has.r 4 rfl, Has.o 1 rfl, trivial⟩ ?_; refine LM.q 0 rfl (by kernel_rfl) (Ev.loadA rfl rfl rfl (Src.r 5 rfl) rfl rfl (by decide)) rfl ⟨Has.r 0 rfl, Has.r 1 rfl, Has.r 2 rfl, Has.r 3 rfl, Has.r 4 rfl, Has.o 1 rfl, trivial⟩ ?_; refine LM.q 1 rfl (by kernel_rfl) (Ev.loadA rfl rfl rfl (Src.r 4 rfl) rfl rfl (by decide)) rfl ⟨Has.r 0 rfl, Has.r 1 rfl, Has.r 2 rfl, Has.r 3 rfl, Has.r 4 rfl, Has.o 1 rfl, trivial⟩ ?_; refine LM.q 3 rfl (by kernel_rfl) (Ev.fieldAddr rfl rfl rfl rfl rfl rfl (Src.r 4 rfl) (Nat.zero_lt_succ _) rfl) rfl ⟨Has.r 0 rfl, Has.r 1 rfl, Has.r 2 rfl, Has.r 3 rfl, Has.r 4 rfl, Has.o 1 rfl, trivial⟩ ?_; refine LM.q 4 rfl (by kernel_rfl) (Ev.loadA rfl rfl rfl (Src.r 4 rfl) rfl rfl (by decide)) rfl ⟨Has.r 0 rfl, Has.r 1 rfl, Has.r 2 rfl, Has.r 3 rfl, Has.r 4 rfl, Has.o 1 rfl, trivial⟩ ?_
   refine LM.alt [2, 10] (by kernel_rfl) (by decide) ⟨Has.r 0 rfl, Has.r 1 rfl, Has.r 2 rfl, Has.r 3 rfl, Has.r 4 rfl, Has.o 1 rfl, trivial⟩ ⟨⟨_, rfl, ?_⟩, ⟨_, rfl, ?_⟩, trivial⟩
   ·
    refine L.call (js := []) (js' := [0, 1]) (layout_c z p qq r) rfl rfl rfl (by decide) trivial rfl ?_
    rintro _ _ _ ⟨rfl, rfl, rfl⟩
    refine L.norm (H' := [_, _]) [0, 1] ⟨rfl, rfl, trivial⟩ (by decide) ?_
    refine L.nil (QE.m (by kernel_rfl) ?_)
    refine LM.alt [5, 10] (by kernel_rfl) (by decide) ⟨Has.r 0 rfl, Has.r 1 rfl, Has.r 2 rfl, Has.r 3 rfl, Has.r 4 rfl, Has.o 1 rfl, trivial⟩ ⟨⟨_, rfl, ?_⟩, ⟨_, rfl, ?_⟩, trivial⟩
    ·
     refine L.call (js := []) (js' := [0, 1]) (made_c r) rfl rfl rfl (by decide) trivial rfl ?_
     rintro _ _ _ ⟨rfl, rfl, rfl⟩
     refine L.norm (H' := [_, _]) [0, 1] ⟨rfl, rfl, trivial⟩ (by decide) ?_
     refine L.nil (QE.m (by kernel_rfl) ?_)
     refine LM.alt [6, 10] (by kernel_rfl) (by decide) ⟨Has.r 0 rfl, Has.r 1 rfl, Has.r 2 rfl, Has.r 3 rfl, Has.r 4 rfl, Has.o 1 rfl, trivial⟩ ⟨⟨_, rfl, ?_⟩, ⟨_, rfl, ?_⟩, trivial⟩
     ·
      refine L.callR (js := []) (js' := [0, 1]) (formatR_c (fl1 z) a hok ha (yJ p qq) hcp (madeS r) rfl) rfl rfl rfl (by decide) (Hq [3, 2, 1, 0] rfl) rfl ?_
      rintro _ _ _ ⟨b, hb, hbc, rfl, rfl, rfl⟩
      refine L.norm (H' := [_, _]) [0, 1] ⟨rfl, rfl, trivial⟩ (by decide) ?_
      refine L.nil (QE.m (by kernel_rfl) ?_)
      refine LM.q 7 rfl (by kernel_rfl) (Ev.pure rfl) rfl ⟨Has.r 4 rfl, Has.r 5 rfl, Has.r 6 rfl, Has.r 7 rfl, Has.r 8 rfl, Has.o 1 rfl, trivial⟩ ?_; refine LM.q 8 rfl (by kernel_rfl) (Ev.pure rfl) rfl ⟨Has.r 4 rfl, Has.r 5 rfl, Has.r 6 rfl, Has.r 7 rfl, Has.r 8 rfl, Has.o 1 rfl, trivial⟩ ?_; refine LM.q 9 rfl (by kernel_rfl) (Ev.pure rfl) rfl ⟨Has.r 4 rfl, Has.r 5 rfl, Has.r 6 rfl, Has.r 7 rfl, Has.r 8 rfl, Has.o 1 rfl, trivial⟩ ?_; refine LM.f 10 rfl (by kernel_rfl) ⟨Has.r 4 rfl, Has.r 5 rfl, Has.r 6 rfl, Has.r 7 rfl, Has.r 8 rfl, Has.o 1 rfl, trivial⟩ ?_
      refine L.alloc rfl rfl rfl (fun A5 => ?_)
      refine L.nil (QE.m (by kernel_rfl) ?_)
      refine LM.f 11 rfl (by kernel_rfl) ⟨Has.r 4 rfl, Has.r 5 rfl, Has.r 6 rfl, Has.r 7 rfl, Has.r 8 rfl, Has.o 1 rfl, trivial⟩ ?_; refine L.storeA (j := 2) rfl rfl rfl rfl rfl (Nat.zero_lt_succ _) rfl rfl ?_
      refine L.nil (QE.m (by kernel_rfl) ?_)
      refine LM.cut [] (by kernel_rfl) ⟨Has.r 4 rfl, Has.r 5 rfl, Has.r 6 rfl, Has.r 7 rfl, Has.r 8 rfl, Has.o 1 rfl, trivial⟩ ?_; refine LM.f 12 rfl (by kernel_rfl) trivial ?_; refine Lpu rfl rfl ?_
      refine L.nil (QE.m (by kernel_rfl) ?_)
      refine LM.nil (by kernel_rfl) trivial ?_
      refine QE.joined ((b, A5)) (by exact ⟨hb, hbc⟩) (by exact Le.mk' (rs := [0, 1, 2, 3]) (hs := [0, 2]) ⟨rfl, rfl, trivial⟩ ⟨rfl, rfl, rfl, rfl, trivial⟩ ⟨rfl, rfl, trivial⟩ (by decide))
     ·
      refine L.alloc rfl rfl rfl (fun A5 => ?_)
      refine L.nil (QE.m (by kernel_rfl) ?_)
      refine LM.f 6 rfl (by kernel_rfl) ⟨Has.r 0 rfl, Has.r 1 rfl, Has.r 2 rfl, Has.r 3 rfl, Has.r 4 rfl, Has.o 1 rfl, trivial⟩ ?_; refine L.callR (js := []) (js' := [0, 1, 2]) (formatR_c (fl1 z) a hok ha (yJ p qq) hcp (madeS r) rfl) rfl rfl rfl (by decide) (Hq [3, 2, 1, 0] rfl) rfl ?_
      rintro _ _ _ ⟨b, hb, hbc, rfl, rfl, rfl⟩
      refine L.norm (H' := [_, _, _]) [0, 1, 2] ⟨rfl, rfl, rfl, trivial⟩ (by decide) ?_
      refine L.nil (QE.m (by kernel_rfl) ?_)
      refine LM.q 7 rfl (by kernel_rfl) (Ev.pure rfl) rfl ⟨Has.r 4 rfl, Has.r 5 rfl, Has.r 6 rfl, Has.r 7 rfl, Has.r 8 rfl, Has.o 1 rfl, trivial⟩ ?_; refine LM.q 8 rfl (by kernel_rfl) (Ev.pure rfl) rfl ⟨Has.r 4 rfl, Has.r 5 rfl, Has.r 6 rfl, Has.r 7 rfl, Has.r 8 rfl, Has.o 1 rfl, trivial⟩ ?_; refine LM.q 9 rfl (by kernel_rfl) (Ev.pure rfl) rfl ⟨Has.r 4 rfl, Has.r 5 rfl, Has.r 6 rfl, Has.r 7 rfl, Has.r 8 rfl, Has.o 1 rfl, trivial⟩ ?_; refine LM.f 11 rfl (by kernel_rfl) ⟨Has.r 4 rfl, Has.r 5 rfl, Has.r 6 rfl, Has.r 7 rfl, Has.r 8 rfl, Has.o 1 rfl, trivial⟩ ?_; refine L.storeA (j := 2) rfl rfl rfl rfl rfl (Nat.zero_lt_succ _) rfl rfl ?_
      refine L.nil (QE.m (by kernel_rfl) ?_)
      refine LM.cut [] (by kernel_rfl) ⟨Has.r 4 rfl, Has.r 5 rfl, Has.r 6 rfl, Has.r 7 rfl, Has.r 8 rfl, Has.o 1 rfl, trivial⟩ ?_; refine LM.f 12 rfl (by kernel_rfl) trivial ?_; refine Lpu rfl rfl ?_
      refine L.nil (QE.m (by kernel_rfl) ?_)
      refine LM.nil (by kernel_rfl) trivial ?_
      refine QE.joined ((b, A5)) (by exact ⟨hb, hbc⟩) (by exact Le.mk' (rs := [0, 1, 2, 3]) (hs := [0, 2]) ⟨rfl, rfl, trivial⟩ ⟨rfl, rfl, rfl, rfl, trivial⟩ ⟨rfl, rfl, trivial⟩ (by decide))
    ·
     refine L.alloc rfl rfl rfl (fun A5 => ?_)
     refine L.nil (QE.m (by kernel_rfl) ?_)
     refine LM.f 5 rfl (by kernel_rfl) ⟨Has.r 0 rfl, Has.r 1 rfl, Has.r 2 rfl, Has.r 3 rfl, Has.r 4 rfl, Has.o 1 rfl, trivial⟩ ?_; refine L.call (js := []) (js' := [0, 1, 2]) (made_c r) rfl rfl rfl (by decide) trivial rfl ?_
     rintro _ _ _ ⟨rfl, rfl, rfl⟩
     refine L.norm (H' := [_, _, _]) [0, 1, 2] ⟨rfl, rfl, rfl, trivial⟩ (by decide) ?_
     refine L.nil (QE.m (by kernel_rfl) ?_)
     refine LM.f 6 rfl (by kernel_rfl) ⟨Has.r 0 rfl, Has.r 1 rfl, Has.r 2 rfl, Has.r 3 rfl, Has.r 4 rfl, Has.o 1 rfl, trivial⟩ ?_; refine L.callR (js := []) (js' := [0, 1, 2]) (formatR_c (fl1 z) a hok ha (yJ p qq) hcp (madeS r) rfl) rfl rfl rfl (by decide) (Hq [3, 2, 1, 0] rfl) rfl ?_
     rintro _ _ _ ⟨b, hb, hbc, rfl, rfl, rfl⟩
     refine L.norm (H' := [_, _, _]) [0, 1, 2] ⟨rfl, rfl, rfl, trivial⟩ (by decide) ?_
     refine L.nil (QE.m (by kernel_rfl) ?_)
     refine LM.q 7 rfl (by kernel_rfl) (Ev.pure rfl) rfl ⟨Has.r 4 rfl, Has.r 5 rfl, Has.r 6 rfl, Has.r 7 rfl, Has.r 8 rfl, Has.o 1 rfl, trivial⟩ ?_; refine LM.q 8 rfl (by kernel_rfl) (Ev.pure rfl) rfl ⟨Has.r 4 rfl, Has.r 5 rfl, Has.r 6 rfl, Has.r 7 rfl, Has.r 8 rfl, Has.o 1 rfl, trivial⟩ ?_; refine LM.q 9 rfl (by kernel_rfl) (Ev.pure rfl) rfl ⟨Has.r 4 rfl, Has.r 5 rfl, Has.r 6 rfl, Has.r 7 rfl, Has.r 8 rfl, Has.o 1 rfl, trivial⟩ ?_; refine LM.f 11 rfl (by kernel_rfl) ⟨Has.r 4 rfl, Has.r 5 rfl, Has.r 6 rfl, Has.r 7 rfl, Has.r 8 rfl, Has.o 1 rfl, trivial⟩ ?_; refine L.storeA (j := 2) rfl rfl rfl rfl rfl (Nat.zero_lt_succ _) rfl rfl ?_
     refine L.nil (QE.m (by kernel_rfl) ?_)
     refine LM.cut [] (by kernel_rfl) ⟨Has.r 4 rfl, Has.r 5 rfl, Has.r 6 rfl, Has.r 7 rfl, Has.r 8 rfl, Has.o 1 rfl, trivial⟩ ?_; refine LM.f 12 rfl (by kernel_rfl) trivial ?_; refine Lpu rfl rfl ?_
     refine L.nil (QE.m (by kernel_rfl) ?_)
     refine LM.nil (by kernel_rfl) trivial ?_
     refine QE.joined ((b, A5)) (by exact ⟨hb, hbc⟩) (by exact Le.mk' (rs := [0, 1, 2, 3]) (hs := [0, 2]) ⟨rfl, rfl, trivial⟩ ⟨rfl, rfl, rfl, rfl, trivial⟩ ⟨rfl, rfl, trivial⟩ (by decide))
   ·
    refine L.alloc rfl rfl rfl (fun A5 => ?_)
    refine L.nil (QE.m (by kernel_rfl) ?_)
    refine LM.f 2 rfl (by kernel_rfl) ⟨Has.r 0 rfl, Has.r 1 rfl, Has.r 2 rfl, Has.r 3 rfl, Has.r 4 rfl, Has.o 1 rfl, trivial⟩ ?_; refine L.call (js := []) (js' := [0, 1, 2]) (layout_c z p qq r) rfl rfl rfl (by decide) trivial rfl ?_
    rintro _ _ _ ⟨rfl, rfl, rfl⟩
    refine L.norm (H' := [_, _, _]) [0, 1, 2] ⟨rfl, rfl, rfl, trivial⟩ (by decide) ?_
    refine L.nil (QE.m (by kernel_rfl) ?_)
    refine LM.f 5 rfl (by kernel_rfl) ⟨Has.r 0 rfl, Has.r 1 rfl, Has.r 2 rfl, Has.r 3 rfl, Has.r 4 rfl, Has.o 1 rfl, trivial⟩ ?_; refine L.call (js := []) (js' := [0, 1, 2]) (made_c r) rfl rfl rfl (by decide) trivial rfl ?_
    rintro _ _ _ ⟨rfl, rfl, rfl⟩
    refine L.norm (H' := [_, _, _]) [0, 1, 2] ⟨rfl, rfl, rfl, trivial⟩ (by decide) ?_
    refine L.nil (QE.m (by kernel_rfl) ?_)
    refine LM.f 6 rfl (by kernel_rfl) ⟨Has.r 0 rfl, Has.r 1 rfl, Has.r 2 rfl, Has.r 3 rfl, Has.r 4 rfl, Has.o 1 rfl, trivial⟩ ?_; refine L.callR (js := []) (js' := [0, 1, 2]) (formatR_c (fl1 z) a hok ha (yJ p qq) hcp (madeS r) rfl) rfl rfl rfl (by decide) (Hq [3, 2, 1, 0] rfl) rfl ?_
    rintro _ _ _ ⟨b, hb, hbc, rfl, rfl, rfl⟩
    refine L.norm (H' := [_, _, _]) [0, 1, 2] ⟨rfl, rfl, rfl, trivial⟩ (by decide) ?_
    refine L.nil (QE.m (by kernel_rfl) ?_)
    refine LM.q 7 rfl (by kernel_rfl) (Ev.pure rfl) rfl ⟨Has.r 4 rfl, Has.r 5 rfl, Has.r 6 rfl, Has.r 7 rfl, Has.r 8 rfl, Has.o 1 rfl, trivial⟩ ?_; refine LM.q 8 rfl (by kernel_rfl) (Ev.pure rfl) rfl ⟨Has.r 4 rfl, Has.r 5 rfl, Has.r 6 rfl, Has.r 7 rfl, Has.r 8 rfl, Has.o 1 rfl, trivial⟩ ?_; refine LM.q 9 rfl (by kernel_rfl) (Ev.pure rfl) rfl ⟨Has.r 4 rfl, Has.r 5 rfl, Has.r 6 rfl, Has.r 7 rfl, Has.r 8 rfl, Has.o 1 rfl, trivial⟩ ?_; refine LM.f 11 rfl (by kernel_rfl) ⟨Has.r 4 rfl, Has.r 5 rfl, Has.r 6 rfl, Has.r 7 rfl, Has.r 8 rfl, Has.o 1 rfl, trivial⟩ ?_; refine L.storeA (j := 2) rfl rfl rfl rfl rfl (Nat.zero_lt_succ _) rfl rfl ?_
    refine L.nil (QE.m (by kernel_rfl) ?_)
    refine LM.cut [] (by kernel_rfl) ⟨Has.r 4 rfl, Has.r 5 rfl, Has.r 6 rfl, Has.r 7 rfl, Has.r 8 rfl, Has.o 1 rfl, trivial⟩ ?_; refine LM.f 12 rfl (by kernel_rfl) trivial ?_; refine Lpu rfl rfl ?_
    refine L.nil (QE.m (by kernel_rfl) ?_)
    refine LM.nil (by kernel_rfl) trivial ?_
    refine QE.joined ((b, A5)) (by exact ⟨hb, hbc⟩) (by exact Le.mk' (rs := [0, 1, 2, 3]) (hs := [0, 2]) ⟨rfl, rfl, trivial⟩ ⟨rfl, rfl, rfl, rfl, trivial⟩ ⟨rfl, rfl, trivial⟩ (by decide))
  ·
   rintro ⟨b, A5⟩ ⟨hb, hbc⟩
   dsimp only at hb hbc ⊢
   refine QE.seq (C.seq (C.region ?_)); refine L.step (Ev.loadA rfl rfl rfl (Src.o 1 rfl) rfl rfl (by decide)) rfl ?_; refine L.storeA (j := 0) rfl rfl rfl rfl rfl (Nat.zero_lt_succ _) rfl rfl ?_; refine L.nil (QE.seq (C.ret ?_)); refine QE.ret (js := [0, 1, 2, 3]) (hs := []) (vs := [_]) rfl ⟨⟨_, _, 0, _, rfl, rfl, Src.o 0 rfl, .inl ⟨rfl, by decide, _, rfl, rfl, rfl⟩⟩, trivial⟩ (by decide) ?_
   exact ⟨b, hb, hbc, rfl, rfl, rfl⟩

end Go.Proofs.Ytmbjknampholjaa
