/-
  The contract of SavedWrites.
-/
import Derived.Test.YthfjkdgopkmgoaaTWSvP
import Derived.Test.YthfjkdgopkmgoaaTWSvO
import Derived.Test.YthfjkdgopkmgoaaTWSvN
namespace Go.Proofs.Ythfjkdgopkmgoaa
open Go.Sl

theorem wrap_u16 (m : Int) : IntKind.u16.wrap m = m % 65536 := by
  unfold IntKind.wrap
  simp [IntKind.bits, IntKind.signed]
theorem Ev.toU16 {β : Base} {Γ : Env} {R H : List Pr} {s d : Nat} {x : Operand} {k : IntKind} {m : Int} {i j : Ti} (hs : tlook s X.tab = some i) (hd : tlook d X.tab = some j) (hj : j.desc = .int .u16) (hx : ev Γ x = some (.int k m)) :
    Ev X β Γ R H (.convert s d x) (.int .u16 (m % 65536)) :=
  (Ev.pure (v := .int .u16 (IntKind.u16.wrap m)) (by simp [pev, hs, hd, hj, hx])).cast (by rw [wrap_u16])
theorem Ev.min3 {β : Base} {Γ : Env} {R H : List Pr} {x y z : Operand} {ts : Array TypeId} {a b c : Int} (hx : ev Γ x = some (.int .i64 a)) (hy : ev Γ y = some (.int .i64 b)) (hz : ev Γ z = some (.int .i64 c)) :
    Ev X β Γ R H (.call ⟨.builtin .min, #[x, y, z], ts⟩) (.int .i64 (if c < (if b < a then b else a) then c else (if b < a then b else a))) := by
  intro ρ w hρ hs o ho
  simp [execOp, ho, resolve, invoke, builtin, hρ _ _ hx, hρ _ _ hy, hρ _ _ hz, Builtin.min_, Builtin.min2]
theorem find_le {p : Nat → Bool} {a m s : Nat} (h : (List.range a).find? p = none) (h2 : (List.range m).find? p = some s) : a ≤ s := by
  rcases Nat.lt_or_ge s a with h3 | h3
  · have := List.find?_eq_none.1 h s (List.mem_range.2 h3)
    exact absurd (find_lt h2).2 this
  · exact h3
theorem find_less {p : Nat → Bool} {a m : Nat} (h : (List.range m).find? p = none) (hm : a ≤ m) : (List.range a).find? p = none := by
  rw [List.find?_eq_none] at h ⊢
  intro x hx
  exact h x (List.mem_range.2 (Nat.lt_of_lt_of_le (List.mem_range.1 hx) hm))

set_option maxHeartbeats 2000000 in
theorem sWrites_c (sz un : UInt8) (n0 : Int) (gl : List UInt8) (GA : Option Addr) (gc : Nat) (hgc : gl.length ≤ gc) (_hgl : gl.length ≤ 9223372036854775807) (ms : List (List UInt8)) (MA : Option Addr) (mc : Nat) (mhs : List Hd) (hmh : mhs.length = ms.length) (hml : ms.length ≤ 9223372036854775807) (hmr : ∀ i, (ms.getD i []).length ≤ 9223372036854775807) :
    Ctr X 17 [.agg (List.toArray [.int .u8 (sz.toNat : Int), .int .u8 (un.toNat : Int)]), .agg (List.toArray [.int .i64 n0, .slice GA gl.length gc]), .slice MA ms.length mc] [Rd GA (U8 gl), Rd MA (rowsV mhs (B8 ms)), KidsR mhs (B8 ms)] [] (fun v R' H' => v = .bool true ∧ R' = [] ∧ H' = []) := by
  refine Ctr.of (X := X) (fn := Try.f17) Try.func17 rfl (by kernel_rfl) rfl ?_
  intro β
  obtain ⟨f, hf⟩ : ∃ f, f = fl0 (4 + sz.toNat % 12) 5 9 := ⟨_, rfl⟩
  obtain ⟨us, hus⟩ : ∃ us, us = undoL un := ⟨_, rfl⟩
  have hbk : Blank f us := made_blank sz un hf hus
  have ok := hbk.ok
  have hu := hbk.hu
  obtain ⟨os1, os2, on1, on2, owl, odl, orows, ol1, ol2, owear⟩ := id ok
  have hone := hbk.one
  have hu0 := hu.r 0 hone
  have hz15 : f.size ≤ 15 := by rw [hf]; show 4 + sz.toNat % 12 ≤ 15; omega
  have hul3 : us.length ≤ 3 := by rw [hus, undoL_len]; omega
  obtain ⟨room, hroom⟩ : ∃ r, r = us.length * f.size := ⟨_, rfl⟩
  have hrm : room ≤ 3 * 15 := by rw [hroom]; exact Nat.mul_le_mul hul3 hz15
  obtain ⟨m, hm⟩ : ∃ m, m = min (min gl.length 30) room := ⟨_, rfl⟩
  obtain ⟨bt, hbt⟩ : ∃ b, b = gl.take m := ⟨_, rfl⟩
  have hbl : bt.length = m := by rw [hbt, List.length_take]; omega
  obtain ⟨p, hp⟩ : ∃ p, p = (n0 % 65536).toNat % (room - m + 1) := ⟨_, rfl⟩
  have hpm : p < room - m + 1 := by rw [hp]; exact Nat.mod_lt _ (by omega)
  subst hbl
  have hpr : p + bt.length ≤ us.length * f.size := by rw [← hroom]; omega
  have nd : UDist us := by rw [hus]; exact undo_dist _
  have hT0 : Tw f us p bt f := Tw.start ok hbk.byt
  obtain ⟨cu, hcu⟩ : ∃ c, c = min ms.length 6 := ⟨_, rfl⟩
  refine C.seq ?_
  refine C.region ?_
  refine L.boxA rfl rfl (fun A3 => ?_)
  refine L.boxA rfl rfl (fun A4 => ?_)
  refine L.step (Ev.pure rfl) rfl ?_
  refine L.nil ?_
  refine QE.seq ?_
  refine C.seq ?_
  refine C.freeze 0 rfl [1] (by decide) (by decide) ?_
  refine C.norm (H' := [_]) [0] ⟨rfl, trivial⟩ (by decide) ?_
  refine C.region ?_
  refine L.call (js := []) (js' := [0]) (sanity21_c) rfl rfl rfl (by decide) trivial rfl ?_
  rintro _ _ _ ⟨rfl, rfl, rfl⟩
  refine L.norm (H' := [_]) [0] ⟨rfl, trivial⟩ (by decide) ?_
  refine L.step (Ev.pure rfl) rfl ?_
  refine L.nil ?_
  refine QE.seq ?_
  refine C.seq ?_
  refine C.region ?_
  refine L.step (Ev.loadA rfl rfl rfl (Src.r 0 rfl) rfl rfl (by decide)) rfl ?_
  refine L.call (js := []) (js' := [0]) (made21_c sz un f us hf hus) rfl rfl rfl (by decide) trivial rfl ?_
  rintro _ _ _ ⟨a, U, uc, hb, hcp, rfl, rfl, rfl⟩
  refine L.norm (H' := [_, _, _, _, _, _]) [0, 1, 2, 3, 4, 5] ⟨rfl, rfl, rfl, rfl, rfl, rfl, trivial⟩ (by decide) ?_
  refine L.step (Ev.pure rfl) rfl ?_
  refine L.step (Ev.pure rfl) rfl ?_
  refine L.step (Ev.pure rfl) rfl ?_
  refine L.alloc rfl rfl rfl (fun A8 => ?_)
  refine L.alloc rfl rfl rfl (fun A9 => ?_)
  refine L.storeA (j := 6) rfl rfl rfl rfl rfl (Nat.zero_lt_succ _) rfl rfl ?_
  refine L.storeA (j := 7) rfl rfl rfl rfl rfl (Nat.zero_lt_succ _) rfl rfl ?_
  refine L.nil ?_
  refine QE.seq ?_
  refine C.seq ?_
  refine C.region ?_
  refine L.step (Ev.fieldAddr rfl rfl rfl rfl rfl rfl (Src.o 7 rfl) (Nat.zero_lt_succ _) rfl) rfl ?_
  refine L.step (Ev.load rfl rfl rfl (Src.o 7 rfl) rfl) rfl ?_
  refine L.step (Ev.pure rfl) rfl ?_
  refine L.step (Ev.fieldAddr rfl rfl rfl rfl rfl rfl (Src.o 6 rfl) (Nat.zero_lt_succ _) rfl) rfl ?_
  refine L.step (Ev.load rfl rfl rfl (Src.o 6 rfl) rfl) rfl ?_
  refine L.step (Ev.cast (u := .int .i64 ((room : Nat) : Int)) (Ev.mul rfl rfl (by rw [← Int.natCast_mul, ← hroom]; omega) (by rw [← Int.natCast_mul, ← hroom]; omega)) (congrArg (Value.int .i64) (by rw [← Int.natCast_mul, ← hroom]))) rfl ?_
  refine L.step (Ev.pure rfl) rfl ?_
  refine L.nil ?_
  refine QE.seq ?_
  refine C.seq ?_
  refine C.region ?_
  refine L.step (Ev.fieldAddr rfl rfl rfl rfl rfl rfl (Src.o 5 rfl) (Nat.zero_lt_succ _) rfl) rfl ?_
  refine L.step (Ev.load rfl rfl rfl (Src.o 5 rfl) rfl) rfl ?_
  refine L.step (Ev.fieldAddr rfl rfl rfl rfl rfl rfl (Src.o 5 rfl) (Nat.zero_lt_succ _) rfl) rfl ?_
  refine L.step (Ev.load rfl rfl rfl (Src.o 5 rfl) rfl) rfl ?_
  refine L.step (Ev.pure rfl) rfl ?_
  refine L.step (Ev.pure rfl) rfl ?_
  refine L.step (Ev.cast (u := .int .i64 ((bt.length : Nat) : Int)) (Ev.min3 rfl rfl rfl) (congrArg (Value.int .i64) (by split <;> split <;> omega))) rfl ?_
  refine L.step (Ev.sliceH (h := bt.length) rfl rfl rfl rfl rfl rfl (by omega)) rfl ?_
  refine L.step (Ev.fieldAddr rfl rfl rfl rfl rfl rfl (Src.o 5 rfl) (Nat.zero_lt_succ _) rfl) rfl ?_
  refine L.store (j := 5) rfl rfl rfl rfl rfl rfl rfl rfl ?_
  refine L.nil ?_
  refine QE.seq ?_
  refine C.seq ?_
  refine C.region ?_
  refine L.step (Ev.fieldAddr rfl rfl rfl rfl rfl rfl (Src.o 5 rfl) (Nat.zero_lt_succ _) rfl) rfl ?_
  refine L.step (Ev.load rfl rfl rfl (Src.o 5 rfl) rfl) rfl ?_
  refine L.step (Ev.toU16 rfl rfl rfl rfl) rfl ?_
  refine L.step (Ev.toInt rfl rfl rfl rfl (by omega) (by omega)) rfl ?_
  refine L.step (Ev.pure rfl) rfl ?_
  refine L.step (Ev.fieldAddr rfl rfl rfl rfl rfl rfl (Src.o 5 rfl) (Nat.zero_lt_succ _) rfl) rfl ?_
  refine L.step (Ev.load rfl rfl rfl (Src.o 5 rfl) rfl) rfl ?_
  refine L.step (Ev.pure rfl) rfl ?_
  refine L.step (Ev.sub rfl rfl (by omega) (by omega)) rfl ?_
  refine L.step (Ev.add rfl rfl (by omega) (by omega)) rfl ?_
  refine L.step (Ev.cast (u := .int .i64 ((p : Nat) : Int)) (Ev.rem rfl rfl (by omega) (by omega)) (congrArg (Value.int .i64) (by rw [hp, Int.natCast_emod, Int.toNat_of_nonneg (Int.emod_nonneg _ (by decide)), show ((room - bt.length + 1 : Nat) : Int) = (room : Int) - (bt.length : Int) + 1 from by omega]))) rfl ?_
  refine L.step (Ev.fieldAddr rfl rfl rfl rfl rfl rfl (Src.o 5 rfl) (Nat.zero_lt_succ _) rfl) rfl ?_
  refine L.store (j := 5) rfl rfl rfl rfl rfl rfl rfl rfl ?_
  refine L.nil ?_
  refine QE.seq ?_
  refine C.seq ?_
  refine C.freeze 0 rfl [1, 2, 3, 4, 5, 6, 7] (by decide) (by decide) ?_
  refine C.norm (H' := [_, _, _, _, _, _, _]) [0, 1, 2, 3, 4, 5, 6] ⟨rfl, rfl, rfl, rfl, rfl, rfl, rfl, trivial⟩ (by decide) ?_
  refine C.freezeKids 0 rfl [1, 2, 3, 4, 5, 6] (by decide) (by decide) ?_
  refine C.norm (H' := [_, _, _, _, _, _]) [0, 1, 2, 3, 4, 5] ⟨rfl, rfl, rfl, rfl, rfl, rfl, trivial⟩ (by decide) ?_
  refine C.freeze 0 rfl [1, 2, 3, 4, 5] (by decide) (by decide) ?_
  refine C.norm (H' := [_, _, _, _, _]) [0, 1, 2, 3, 4] ⟨rfl, rfl, rfl, rfl, rfl, trivial⟩ (by decide) ?_
  refine C.freeze 0 rfl [1, 2, 3, 4] (by decide) (by decide) ?_
  refine C.norm (H' := [_, _, _, _]) [0, 1, 2, 3] ⟨rfl, rfl, rfl, rfl, trivial⟩ (by decide) ?_
  refine C.freeze 0 rfl [1, 2, 3] (by decide) (by decide) ?_
  refine C.norm (H' := [_, _, _]) [0, 1, 2] ⟨rfl, rfl, rfl, trivial⟩ (by decide) ?_
  refine C.freeze 1 rfl [0, 2] (by decide) (by decide) ?_
  refine C.norm (H' := [_, _]) [0, 1] ⟨rfl, rfl, trivial⟩ (by decide) ?_
  refine C.freeze 1 rfl [0] (by decide) (by decide) ?_
  refine C.norm (H' := [_]) [0] ⟨rfl, trivial⟩ (by decide) ?_
  refine C.freeze 0 rfl [] (by decide) (by decide) ?_
  refine C.more (r := Rd GA (U8 bt)) ((Has.take (Has.r 9 rfl) bt.length).cast (by rw [U8_take, ← hbt])) ?_
  refine C.region ?_
  refine L.step (Ev.loadA rfl rfl rfl (Src.r 3 rfl) rfl rfl (by decide)) rfl ?_
  refine L.alloc rfl rfl rfl (fun A11 => ?_)
  refine L.storeA (j := 0) rfl rfl rfl rfl rfl (Nat.zero_lt_succ _) rfl rfl ?_
  refine L.step (Ev.pure rfl) rfl ?_
  refine L.nil ?_
  refine QE.seq ?_
  refine C.seq ?_
  refine C.region ?_
  refine L.step (Ev.pure rfl) rfl ?_
  refine L.step (Ev.pure rfl) rfl ?_
  refine L.step (Ev.cast (u := .int .i64 ((cu : Nat) : Int)) (Ev.pure rfl) (congrArg (Value.int .i64) (by simp only [Bool.false_eq_true, if_false]; split <;> omega))) rfl ?_
  refine L.step (Ev.pure rfl) rfl ?_
  refine L.nil ?_
  refine QE.seq ?_
  refine C.seq ?_
  refine C.seq ?_
  refine C.region ?_
  refine L.step (Ev.pure rfl) rfl ?_
  refine L.nil ?_
  refine QE.seq ?_
  refine C.block ?_
  refine C.loop (fun q : Nat × Fl × Fa => [(2, .slice MA ms.length mc), (4, ptrOf A4 0), (7, .bool true), (8, ptrOf A8 0), (9, ptrOf A9 0), (11, ptrOf A11 0), (13, .int .i64 (cu : Int)), (12, .bool false), (14, .int .i64 (q.1 : Int))]) (fun q : Nat × Fl × Fa => [Rd q.2.2.D (rowsV q.2.2.hs (B8 q.2.1.data)), KidsR q.2.2.hs (B8 q.2.1.data), Rd q.2.2.W (I64 q.2.1.wear), Rd q.2.2.E (Bs q.2.1.dead), Rd GA (U8 bt), Rd A4 [.int .i64 (p : Int), .slice GA bt.length gc], Rd U (I64 us), Rd a.D (rowsV a.hs (B8 f.data)), KidsR a.hs (B8 f.data), Rd a.W (I64 f.wear), Rd a.E (Bs f.dead), Rd A8 [.int .i64 (f.size : Int), .slice a.D f.data.length a.cD, .slice a.W f.wear.length a.cW, .int .i64 f.limit, .slice a.E f.dead.length a.cE], Rd A9 [.int .i64 0, .int .i64 0, .int .i64 0, .int .i64 0, .int .i64 0, .slice none 0 0, .slice U us.length uc, .slice none 0 0], Rd MA (rowsV mhs (B8 ms)), KidsR mhs (B8 ms)]) (fun q : Nat × Fl × Fa => [Own 32 5 A11 1 1 [.int .i64 (q.2.1.size : Int), .slice q.2.2.D q.2.1.data.length q.2.2.cD, .slice q.2.2.W q.2.1.wear.length q.2.2.cW, .int .i64 q.2.1.limit, .slice q.2.2.E q.2.1.dead.length q.2.2.cE]]) (fun q : Nat × Fl × Fa => Tw f us p bt q.2.1 ∧ Caps q.2.1 q.2.2 ∧ q.2.2.hs.length = q.2.1.data.length ∧ q.1 ≤ cu + us.length ∧ (List.range (q.1 - cu)).find? (diffB (area q.2.1 us) bt p q.2.1.size) = none) (fun q : Nat × Fl × Fa => cu + us.length + 1 - q.1) (0, f, a) ⟨hT0, hcp, hb, Nat.zero_le _, by dsimp only; rw [Nat.zero_sub]; rfl⟩ (by exact Le.mk' (rs := [8, 7, 6, 5, 0, 1, 4, 8, 7, 6, 5, 3, 2, 11, 12]) (hs := [0]) ⟨rfl, rfl, rfl, rfl, rfl, rfl, rfl, rfl, rfl, trivial⟩ ⟨rfl, rfl, rfl, rfl, rfl, rfl, rfl, rfl, rfl, rfl, rfl, rfl, rfl, rfl, rfl, trivial⟩ ⟨rfl, trivial⟩ (by decide)) ?_
  rintro ⟨i, g, b⟩ ⟨hT, hcg, gbh, hiu, hfi⟩
  dsimp only at hT hcg gbh hiu hfi ⊢
  refine C.seq ?_
  refine C.seq ?_
  refine C.region ?_
  refine L.step (Ev.pure rfl) rfl ?_
  refine L.step (Ev.pure rfl) rfl ?_
  refine L.step (Ev.fieldAddr rfl rfl rfl rfl rfl rfl (Src.r 12 rfl) (Nat.zero_lt_succ _) rfl) rfl ?_
  refine L.step (Ev.load rfl rfl rfl (Src.r 12 rfl) rfl) rfl ?_
  refine L.step (Ev.pure rfl) rfl ?_
  refine L.step (Ev.cast (u := .int .i64 ((cu + us.length : Nat) : Int)) (Ev.add rfl rfl (by omega) (by omega)) (congrArg (Value.int .i64) (by omega))) rfl ?_
  refine L.step (Ev.cast (u := .int .i64 ((cu + us.length + 1 : Nat) : Int)) (Ev.add rfl rfl (by omega) (by omega)) (congrArg (Value.int .i64) (by omega))) rfl ?_
  refine L.step (Ev.pure rfl) rfl ?_
  refine L.step (Ev.pure rfl) rfl ?_
  refine L.bool 65 rfl (fun hg65 => ?_) (fun hg65 => ?_)
  · skip
    replace hg65 := of_decide_eq_true hg65
    refine L.yes rfl ?_
    refine L.step (Ev.pure rfl) rfl ?_
    refine L.yes rfl ?_
    refine L.step (Ev.pure rfl) rfl ?_
    refine L.step (Ev.pure rfl) rfl ?_
    refine L.nil ?_
    refine QE.seq ?_
    refine C.condB 68 rfl (fun hc68 => ?_) (fun hc68 => ?_)
    · skip
      refine C.skip ?_
      refine QE.seq ?_
      refine C.seq ?_
      refine C.block ?_
      refine C.seq ?_
      obtain ⟨r, hr⟩ : ∃ r, r = towS g us (p : Int) bt := ⟨_, rfl⟩
      have htow := hT.tow hu hbk.live hpr
      rw [← hr] at htow
      have gok := hT.ok
      have ghu : UOk g us := hu.of hT.dl
      have hre : r.e = 0 := by rcases htow with ⟨_, h⟩ | ⟨s, _, _, _, h⟩ <;> rw [h]
      have hx0 : r.x.data.length ≤ bt.length := by rw [hr]; exact towS_len
      have hxl : r.x.data.length ≤ 9223372036854775807 := by omega
      refine C.region ?_
      refine L.step (Ev.loadA rfl rfl rfl (Src.o 0 rfl) rfl rfl (by decide)) rfl ?_
      refine L.step (Ev.loadA rfl rfl rfl (Src.r 12 rfl) rfl rfl (by decide)) rfl ?_
      refine L.step (Ev.loadA rfl rfl rfl (Src.r 5 rfl) rfl rfl (by decide)) rfl ?_
      refine L.callR (js := []) (js' := [0]) (ltow_k g b gok gbh us U uc ghu (p : Int) bt GA gc (by omega) (by omega) hcg r hr.symm) rfl rfl rfl (by decide) ⟨(Has.r 0 rfl), (Has.r 1 rfl), (Has.r 2 rfl), (Has.r 3 rfl), (Has.r 6 rfl), (Has.r 4 rfl), trivial⟩ rfl ?_
      rintro _ _ _ ⟨T74, t74, rfl, rfl, rfl⟩
      refine L.norm (H' := [_]) [0] ⟨rfl, trivial⟩ (by decide) ?_
      refine L.alloc rfl rfl rfl (fun A15 => ?_)
      refine L.storeA (j := 1) rfl rfl rfl rfl rfl (Nat.zero_lt_succ _) rfl rfl ?_
      refine L.nil ?_
      refine QE.seq ?_
      refine C.seq ?_
      refine C.seq ?_
      refine C.freeze 1 rfl [0] (by decide) (by decide) ?_
      refine C.norm (H' := [_]) [0] ⟨rfl, trivial⟩ (by decide) ?_
      refine C.region ?_
      refine L.step (Ev.fieldAddr rfl rfl rfl rfl rfl rfl (Src.r 0 rfl) (Nat.zero_lt_succ _) rfl) rfl ?_
      refine L.step (Ev.load rfl rfl rfl (Src.r 0 rfl) rfl) rfl ?_
      refine L.step (Ev.pure rfl) rfl ?_
      refine L.nil ?_
      refine QE.seq ?_
      refine C.condB 77 rfl (fun hc77 => ?_) (fun hc77 => ?_)
      · skip
        replace hc77 := b_ne hc77
        exact (hc77 hre).elim
      · skip
        replace hc77 := b_eq hc77
        refine C.skip ?_
        refine QE.seq ?_
        refine C.seq ?_
        refine C.region ?_
        refine L.step (Ev.fieldAddr rfl rfl rfl rfl rfl rfl (Src.r 0 rfl) (Nat.zero_lt_succ _) rfl) rfl ?_
        refine L.step (Ev.load rfl rfl rfl (Src.r 0 rfl) rfl) rfl ?_
        refine L.step (Ev.pure rfl) rfl ?_
        refine L.nil ?_
        refine QE.seq ?_
        refine C.seq ?_
        refine C.seq ?_
        refine C.region ?_
        refine L.step (Ev.pure rfl) rfl ?_
        refine L.nil ?_
        refine QE.seq ?_
        refine C.condB 80 rfl (fun hc80 => ?_) (fun hc80 => ?_)
        · skip
          refine C.exit ?_
          refine QE.tX ?_
          refine QE.blkX rfl ?_
          refine QE.tX ?_
          refine QE.tX ?_
          refine QE.blk ?_
          refine QE.seq ?_
          refine C.seq ?_
          refine C.seq ?_
          have hfn : (List.range us.length).find? (diffB (area g us) bt p g.size) = none := by
            rcases htow with ⟨h, _⟩ | ⟨s, _, _, _, h⟩
            · exact h
            · rw [h] at hc80; cases hc80
          have hfin : g = wrF f us p bt bt.length := hT.fin ok hu nd hpr hfn
          refine C.region ?_
          refine L.step (Ev.pure rfl) rfl ?_
          refine L.step (Ev.pure rfl) rfl ?_
          refine L.step (Ev.pure rfl) rfl ?_
          refine L.bool 112 rfl (fun hg112 => ?_) (fun hg112 => ?_)
          · skip
            rw [hc80] at hg112; cases hg112
          · skip
            refine L.yes rfl ?_
            refine L.step (Ev.fieldAddr rfl rfl rfl rfl rfl rfl (Src.o 0 rfl) (Nat.zero_lt_succ _) rfl) rfl ?_
            refine L.yes rfl ?_
            refine L.step (Ev.load rfl rfl rfl (Src.o 0 rfl) rfl) rfl ?_
            refine L.yes rfl ?_
            refine L.step (Ev.pure rfl) rfl ?_
            refine L.yes rfl ?_
            refine L.step (Ev.fieldAddr rfl rfl rfl rfl rfl rfl (Src.r 13 rfl) (Nat.zero_lt_succ _) rfl) rfl ?_
            refine L.yes rfl ?_
            refine L.step (Ev.load rfl rfl rfl (Src.r 13 rfl) rfl) rfl ?_
            refine L.yes rfl ?_
            refine L.step (Ev.pure rfl) rfl ?_
            refine L.yes rfl ?_
            refine L.step (Ev.pure rfl) rfl ?_
            refine L.step (Ev.pure rfl) rfl ?_
            refine L.nil ?_
            refine QE.seq ?_
            refine C.condB 120 rfl (fun hc120 => ?_) (fun hc120 => ?_)
            · skip
              replace hc120 := b_ne hc120
              exact (hc120 (by rw [hT.dl])).elim
            · skip
              replace hc120 := b_eq hc120
              refine C.skip ?_
              refine QE.seq ?_
              refine C.seq ?_
              refine C.region ?_
              refine L.step (Ev.loadA rfl rfl rfl (Src.r 13 rfl) rfl rfl (by decide)) rfl ?_
              refine L.call (js := []) (js' := [0]) (copied_c f a ok hb) rfl rfl rfl (by decide) ⟨(Has.r 9 rfl), (Has.r 10 rfl), (Has.r 11 rfl), (Has.r 12 rfl), trivial⟩ rfl ?_
              rintro _ _ _ ⟨b4, rfl, rfl, rfl, hb4⟩
              refine L.norm (H' := [_, _, _, _, _]) [0, 1, 2, 3, 4] ⟨rfl, rfl, rfl, rfl, rfl, trivial⟩ (by decide) ?_
              refine L.alloc rfl rfl rfl (fun A18 => ?_)
              refine L.storeA (j := 5) rfl rfl rfl rfl rfl (Nat.zero_lt_succ _) rfl rfl ?_
              refine L.nil ?_
              refine QE.seq ?_
              refine C.seq ?_
              refine C.seq ?_
              refine C.freeze 0 rfl [1, 2, 3, 4, 5] (by decide) (by decide) ?_
              refine C.norm (H' := [_, _, _, _, _]) [0, 1, 2, 3, 4] ⟨rfl, rfl, rfl, rfl, rfl, trivial⟩ (by decide) ?_
              refine C.freeze 1 rfl [0, 2, 3, 4] (by decide) (by decide) ?_
              refine C.norm (H' := [_, _, _, _]) [0, 1, 2, 3] ⟨rfl, rfl, rfl, rfl, trivial⟩ (by decide) ?_
              refine C.freeze 1 rfl [0, 2, 3] (by decide) (by decide) ?_
              refine C.norm (H' := [_, _, _]) [0, 1, 2] ⟨rfl, rfl, rfl, trivial⟩ (by decide) ?_
              refine C.freeze 2 rfl [0, 1] (by decide) (by decide) ?_
              refine C.norm (H' := [_, _]) [0, 1] ⟨rfl, rfl, trivial⟩ (by decide) ?_
              refine C.region ?_
              refine L.step (Ev.pure rfl) rfl ?_
              refine L.nil ?_
              refine QE.seq ?_
              refine C.block ?_
              refine C.loop (fun k : Nat => [(4, ptrOf A4 0), (7, .bool true), (8, ptrOf A8 0), (9, ptrOf A9 0), (11, ptrOf A11 0), (18, ptrOf A18 0), (19, .int .i64 (k : Int))]) (fun k : Nat => [Rd b.D (rowsV b.hs (B8 g.data)), KidsR b.hs (B8 g.data), Rd b.W (I64 g.wear), Rd b.E (Bs g.dead), Rd b4.D (rowsV b4.hs (B8 f.data)), Rd b4.W (I64 f.wear), Rd b4.E (Bs f.dead), Rd A18 [.int .i64 (f.size : Int), .slice b4.D f.data.length b4.cD, .slice b4.W f.wear.length b4.cW, .int .i64 f.limit, .slice b4.E f.dead.length b4.cE], Rd GA (U8 bt), Rd A4 [.int .i64 (p : Int), .slice GA bt.length gc], Rd U (I64 us), Rd a.D (rowsV a.hs (B8 f.data)), KidsR a.hs (B8 f.data), Rd a.W (I64 f.wear), Rd a.E (Bs f.dead), Rd A8 [.int .i64 (f.size : Int), .slice a.D f.data.length a.cD, .slice a.W f.wear.length a.cW, .int .i64 f.limit, .slice a.E f.dead.length a.cE], Rd A9 [.int .i64 0, .int .i64 0, .int .i64 0, .int .i64 0, .int .i64 0, .slice none 0 0, .slice U us.length uc, .slice none 0 0], Rd MA (rowsV mhs (B8 ms)), KidsR mhs (B8 ms)]) (fun k : Nat => [OwnKids 5 b4.hs (B8 (wrD f.data us f.size p bt k)), Own 32 5 A11 1 1 [.int .i64 (g.size : Int), .slice b.D g.data.length b.cD, .slice b.W g.wear.length b.cW, .int .i64 g.limit, .slice b.E g.dead.length b.cE]]) (fun k : Nat => k ≤ bt.length) (fun k : Nat => bt.length - k) 0 (Nat.zero_le _) (by exact Le.mk' (rs := [6, 7, 8, 9, 3, 2, 1, 0, 10, 11, 12, 13, 14, 15, 16, 17, 18, 19, 20]) (hs := [0, 1]) ⟨rfl, rfl, rfl, rfl, rfl, rfl, rfl, trivial⟩ ⟨rfl, rfl, rfl, rfl, rfl, rfl, rfl, rfl, rfl, rfl, rfl, rfl, rfl, rfl, rfl, rfl, rfl, rfl, rfl, trivial⟩ ⟨rfl, rfl, trivial⟩ (by decide)) ?_
              intro k hk
              refine C.seq ?_
              refine C.seq ?_
              refine C.region ?_
              refine L.step (Ev.pure rfl) rfl ?_
              refine L.step (Ev.fieldAddr rfl rfl rfl rfl rfl rfl (Src.r 9 rfl) (Nat.zero_lt_succ _) rfl) rfl ?_
              refine L.step (Ev.load rfl rfl rfl (Src.r 9 rfl) rfl) rfl ?_
              refine L.step (Ev.pure rfl) rfl ?_
              refine L.step (Ev.pure rfl) rfl ?_
              refine L.nil ?_
              refine QE.seq ?_
              refine C.condB 127 rfl (fun hc127 => ?_) (fun hc127 => ?_)
              · skip
                replace hc127 := of_decide_eq_true hc127
                refine C.skip ?_
                refine QE.seq ?_
                refine C.seq ?_
                refine C.block ?_
                obtain ⟨hp1, hp2, -⟩ := place (z := f.size) (p := p) (n := bt.length) (m := us.length) (by omega) hpr (i := k) (by omega)
                have hui := hu.r _ hp1
                have hpu : (us.getD ((p + k) / f.size) 0).toNat < f.data.length := by omega
                have hprw := orows _ hpu
                refine C.regionM [Rd b.D (rowsV b.hs (B8 g.data)), KidsR b.hs (B8 g.data), Rd b.W (I64 g.wear), Rd b.E (Bs g.dead), Rd b4.D (rowsV b4.hs (B8 f.data)), Rd b4.W (I64 f.wear), Rd b4.E (Bs f.dead), Rd A18 [.int .i64 (f.size : Int), .slice b4.D f.data.length b4.cD, .slice b4.W f.wear.length b4.cW, .int .i64 f.limit, .slice b4.E f.dead.length b4.cE], Rd GA (U8 bt), Rd A4 [.int .i64 (p : Int), .slice GA bt.length gc], Rd U (I64 us), Rd a.D (rowsV a.hs (B8 f.data)), KidsR a.hs (B8 f.data), Rd a.W (I64 f.wear), Rd a.E (Bs f.dead), Rd A8 [.int .i64 (f.size : Int), .slice a.D f.data.length a.cD, .slice a.W f.wear.length a.cW, .int .i64 f.limit, .slice a.E f.dead.length a.cE], Rd A9 [.int .i64 0, .int .i64 0, .int .i64 0, .int .i64 0, .int .i64 0, .slice none 0 0, .slice U us.length uc, .slice none 0 0], Rd MA (rowsV mhs (B8 ms)), KidsR mhs (B8 ms), KidsR b4.hs (B8 (wrD f.data us f.size p bt k))] ⟨Has.r 0 rfl, Has.r 1 rfl, Has.r 2 rfl, Has.r 3 rfl, Has.r 4 rfl, Has.r 5 rfl, Has.r 6 rfl, Has.r 7 rfl, Has.r 8 rfl, Has.r 9 rfl, Has.r 10 rfl, Has.r 11 rfl, Has.r 12 rfl, Has.r 13 rfl, Has.r 14 rfl, Has.r 15 rfl, Has.r 16 rfl, Has.r 17 rfl, Has.r 18 rfl, Has.okids 0 rfl, trivial⟩ ?_
                refine LM.q 0 rfl (by kernel_rfl) (Ev.fieldAddr rfl rfl rfl rfl rfl rfl (Src.r 7 rfl) (Nat.zero_lt_succ _) rfl) rfl ⟨Has.r 0 rfl, Has.r 1 rfl, Has.r 2 rfl, Has.r 3 rfl, Has.r 4 rfl, Has.r 5 rfl, Has.r 6 rfl, Has.r 7 rfl, Has.r 8 rfl, Has.r 9 rfl, Has.r 10 rfl, Has.r 11 rfl, Has.r 12 rfl, Has.r 13 rfl, Has.r 14 rfl, Has.r 15 rfl, Has.r 16 rfl, Has.r 17 rfl, Has.r 18 rfl, Has.okids 0 rfl, trivial⟩ ?_
                refine LM.q 1 rfl (by kernel_rfl) (Ev.load rfl rfl rfl (Src.r 7 rfl) rfl) rfl ⟨Has.r 0 rfl, Has.r 1 rfl, Has.r 2 rfl, Has.r 3 rfl, Has.r 4 rfl, Has.r 5 rfl, Has.r 6 rfl, Has.r 7 rfl, Has.r 8 rfl, Has.r 9 rfl, Has.r 10 rfl, Has.r 11 rfl, Has.r 12 rfl, Has.r 13 rfl, Has.r 14 rfl, Has.r 15 rfl, Has.r 16 rfl, Has.r 17 rfl, Has.r 18 rfl, Has.okids 0 rfl, trivial⟩ ?_
                refine LM.q 2 rfl (by kernel_rfl) (Ev.fieldAddr rfl rfl rfl rfl rfl rfl (Src.r 16 rfl) (Nat.zero_lt_succ _) rfl) rfl ⟨Has.r 0 rfl, Has.r 1 rfl, Has.r 2 rfl, Has.r 3 rfl, Has.r 4 rfl, Has.r 5 rfl, Has.r 6 rfl, Has.r 7 rfl, Has.r 8 rfl, Has.r 9 rfl, Has.r 10 rfl, Has.r 11 rfl, Has.r 12 rfl, Has.r 13 rfl, Has.r 14 rfl, Has.r 15 rfl, Has.r 16 rfl, Has.r 17 rfl, Has.r 18 rfl, Has.okids 0 rfl, trivial⟩ ?_
                refine LM.q 3 rfl (by kernel_rfl) (Ev.load rfl rfl rfl (Src.r 16 rfl) rfl) rfl ⟨Has.r 0 rfl, Has.r 1 rfl, Has.r 2 rfl, Has.r 3 rfl, Has.r 4 rfl, Has.r 5 rfl, Has.r 6 rfl, Has.r 7 rfl, Has.r 8 rfl, Has.r 9 rfl, Has.r 10 rfl, Has.r 11 rfl, Has.r 12 rfl, Has.r 13 rfl, Has.r 14 rfl, Has.r 15 rfl, Has.r 16 rfl, Has.r 17 rfl, Has.r 18 rfl, Has.okids 0 rfl, trivial⟩ ?_
                refine LM.q 4 rfl (by kernel_rfl) (Ev.fieldAddr rfl rfl rfl rfl rfl rfl (Src.r 9 rfl) (Nat.zero_lt_succ _) rfl) rfl ⟨Has.r 0 rfl, Has.r 1 rfl, Has.r 2 rfl, Has.r 3 rfl, Has.r 4 rfl, Has.r 5 rfl, Has.r 6 rfl, Has.r 7 rfl, Has.r 8 rfl, Has.r 9 rfl, Has.r 10 rfl, Has.r 11 rfl, Has.r 12 rfl, Has.r 13 rfl, Has.r 14 rfl, Has.r 15 rfl, Has.r 16 rfl, Has.r 17 rfl, Has.r 18 rfl, Has.okids 0 rfl, trivial⟩ ?_
                refine LM.q 5 rfl (by kernel_rfl) (Ev.load rfl rfl rfl (Src.r 9 rfl) rfl) rfl ⟨Has.r 0 rfl, Has.r 1 rfl, Has.r 2 rfl, Has.r 3 rfl, Has.r 4 rfl, Has.r 5 rfl, Has.r 6 rfl, Has.r 7 rfl, Has.r 8 rfl, Has.r 9 rfl, Has.r 10 rfl, Has.r 11 rfl, Has.r 12 rfl, Has.r 13 rfl, Has.r 14 rfl, Has.r 15 rfl, Has.r 16 rfl, Has.r 17 rfl, Has.r 18 rfl, Has.okids 0 rfl, trivial⟩ ?_
                refine LM.q 6 rfl (by kernel_rfl) (Ev.pure rfl) rfl ⟨Has.r 0 rfl, Has.r 1 rfl, Has.r 2 rfl, Has.r 3 rfl, Has.r 4 rfl, Has.r 5 rfl, Has.r 6 rfl, Has.r 7 rfl, Has.r 8 rfl, Has.r 9 rfl, Has.r 10 rfl, Has.r 11 rfl, Has.r 12 rfl, Has.r 13 rfl, Has.r 14 rfl, Has.r 15 rfl, Has.r 16 rfl, Has.r 17 rfl, Has.r 18 rfl, Has.okids 0 rfl, trivial⟩ ?_
                refine LM.q 7 rfl (by kernel_rfl) (Ev.cast (u := .int .i64 ((p + k : Nat) : Int)) (Ev.add rfl rfl (by omega) (by omega)) (congrArg (Value.int .i64) (by omega))) rfl ⟨Has.r 0 rfl, Has.r 1 rfl, Has.r 2 rfl, Has.r 3 rfl, Has.r 4 rfl, Has.r 5 rfl, Has.r 6 rfl, Has.r 7 rfl, Has.r 8 rfl, Has.r 9 rfl, Has.r 10 rfl, Has.r 11 rfl, Has.r 12 rfl, Has.r 13 rfl, Has.r 14 rfl, Has.r 15 rfl, Has.r 16 rfl, Has.r 17 rfl, Has.r 18 rfl, Has.okids 0 rfl, trivial⟩ ?_
                refine LM.q 8 rfl (by kernel_rfl) (Ev.fieldAddr rfl rfl rfl rfl rfl rfl (Src.r 15 rfl) (Nat.zero_lt_succ _) rfl) rfl ⟨Has.r 0 rfl, Has.r 1 rfl, Has.r 2 rfl, Has.r 3 rfl, Has.r 4 rfl, Has.r 5 rfl, Has.r 6 rfl, Has.r 7 rfl, Has.r 8 rfl, Has.r 9 rfl, Has.r 10 rfl, Has.r 11 rfl, Has.r 12 rfl, Has.r 13 rfl, Has.r 14 rfl, Has.r 15 rfl, Has.r 16 rfl, Has.r 17 rfl, Has.r 18 rfl, Has.okids 0 rfl, trivial⟩ ?_
                refine LM.q 9 rfl (by kernel_rfl) (Ev.load rfl rfl rfl (Src.r 15 rfl) rfl) rfl ⟨Has.r 0 rfl, Has.r 1 rfl, Has.r 2 rfl, Has.r 3 rfl, Has.r 4 rfl, Has.r 5 rfl, Has.r 6 rfl, Has.r 7 rfl, Has.r 8 rfl, Has.r 9 rfl, Has.r 10 rfl, Has.r 11 rfl, Has.r 12 rfl, Has.r 13 rfl, Has.r 14 rfl, Has.r 15 rfl, Has.r 16 rfl, Has.r 17 rfl, Has.r 18 rfl, Has.okids 0 rfl, trivial⟩ ?_
                refine LM.q 10 rfl (by kernel_rfl) (Ev.cast (u := .int .i64 (((p + k) / f.size : Nat) : Int)) (Ev.quo rfl rfl (by omega) (by omega) (by omega)) (congrArg (Value.int .i64) (by rw [Int.natCast_ediv]))) rfl ⟨Has.r 0 rfl, Has.r 1 rfl, Has.r 2 rfl, Has.r 3 rfl, Has.r 4 rfl, Has.r 5 rfl, Has.r 6 rfl, Has.r 7 rfl, Has.r 8 rfl, Has.r 9 rfl, Has.r 10 rfl, Has.r 11 rfl, Has.r 12 rfl, Has.r 13 rfl, Has.r 14 rfl, Has.r 15 rfl, Has.r 16 rfl, Has.r 17 rfl, Has.r 18 rfl, Has.okids 0 rfl, trivial⟩ ?_
                refine LM.q 11 rfl (by kernel_rfl) (Ev.idx1 (k := ((p + k) / f.size)) rfl rfl rfl rfl rfl rfl rfl hp1 (Src.r 10 rfl) (by rw [I64_len]; omega)) rfl ⟨Has.r 0 rfl, Has.r 1 rfl, Has.r 2 rfl, Has.r 3 rfl, Has.r 4 rfl, Has.r 5 rfl, Has.r 6 rfl, Has.r 7 rfl, Has.r 8 rfl, Has.r 9 rfl, Has.r 10 rfl, Has.r 11 rfl, Has.r 12 rfl, Has.r 13 rfl, Has.r 14 rfl, Has.r 15 rfl, Has.r 16 rfl, Has.r 17 rfl, Has.r 18 rfl, Has.okids 0 rfl, trivial⟩ ?_
                refine LM.q 12 rfl (by kernel_rfl) (Ev.load rfl rfl rfl (Src.r 10 rfl) (I64_get hp1)) rfl ⟨Has.r 0 rfl, Has.r 1 rfl, Has.r 2 rfl, Has.r 3 rfl, Has.r 4 rfl, Has.r 5 rfl, Has.r 6 rfl, Has.r 7 rfl, Has.r 8 rfl, Has.r 9 rfl, Has.r 10 rfl, Has.r 11 rfl, Has.r 12 rfl, Has.r 13 rfl, Has.r 14 rfl, Has.r 15 rfl, Has.r 16 rfl, Has.r 17 rfl, Has.r 18 rfl, Has.okids 0 rfl, trivial⟩ ?_
                refine LM.q 13 rfl (by kernel_rfl) (Ev.idx1 (k := (us.getD ((p + k) / f.size) 0).toNat) rfl rfl rfl rfl rfl rfl (by omega) hpu (Src.r 4 rfl) (by rw [rowsV_len (by rw [B8_len]; exact hb4), B8_len]; omega)) rfl ⟨Has.r 0 rfl, Has.r 1 rfl, Has.r 2 rfl, Has.r 3 rfl, Has.r 4 rfl, Has.r 5 rfl, Has.r 6 rfl, Has.r 7 rfl, Has.r 8 rfl, Has.r 9 rfl, Has.r 10 rfl, Has.r 11 rfl, Has.r 12 rfl, Has.r 13 rfl, Has.r 14 rfl, Has.r 15 rfl, Has.r 16 rfl, Has.r 17 rfl, Has.r 18 rfl, Has.okids 0 rfl, trivial⟩ ?_
                refine LM.q 14 rfl (by kernel_rfl) (Ev.load rfl rfl rfl (Src.r 4 rfl) (rows8_get hb4 hpu)) rfl ⟨Has.r 0 rfl, Has.r 1 rfl, Has.r 2 rfl, Has.r 3 rfl, Has.r 4 rfl, Has.r 5 rfl, Has.r 6 rfl, Has.r 7 rfl, Has.r 8 rfl, Has.r 9 rfl, Has.r 10 rfl, Has.r 11 rfl, Has.r 12 rfl, Has.r 13 rfl, Has.r 14 rfl, Has.r 15 rfl, Has.r 16 rfl, Has.r 17 rfl, Has.r 18 rfl, Has.okids 0 rfl, trivial⟩ ?_
                refine LM.q 15 rfl (by kernel_rfl) (Ev.fieldAddr rfl rfl rfl rfl rfl rfl (Src.r 9 rfl) (Nat.zero_lt_succ _) rfl) rfl ⟨Has.r 0 rfl, Has.r 1 rfl, Has.r 2 rfl, Has.r 3 rfl, Has.r 4 rfl, Has.r 5 rfl, Has.r 6 rfl, Has.r 7 rfl, Has.r 8 rfl, Has.r 9 rfl, Has.r 10 rfl, Has.r 11 rfl, Has.r 12 rfl, Has.r 13 rfl, Has.r 14 rfl, Has.r 15 rfl, Has.r 16 rfl, Has.r 17 rfl, Has.r 18 rfl, Has.okids 0 rfl, trivial⟩ ?_
                refine LM.q 16 rfl (by kernel_rfl) (Ev.load rfl rfl rfl (Src.r 9 rfl) rfl) rfl ⟨Has.r 0 rfl, Has.r 1 rfl, Has.r 2 rfl, Has.r 3 rfl, Has.r 4 rfl, Has.r 5 rfl, Has.r 6 rfl, Has.r 7 rfl, Has.r 8 rfl, Has.r 9 rfl, Has.r 10 rfl, Has.r 11 rfl, Has.r 12 rfl, Has.r 13 rfl, Has.r 14 rfl, Has.r 15 rfl, Has.r 16 rfl, Has.r 17 rfl, Has.r 18 rfl, Has.okids 0 rfl, trivial⟩ ?_
                refine LM.q 17 rfl (by kernel_rfl) (Ev.pure rfl) rfl ⟨Has.r 0 rfl, Has.r 1 rfl, Has.r 2 rfl, Has.r 3 rfl, Has.r 4 rfl, Has.r 5 rfl, Has.r 6 rfl, Has.r 7 rfl, Has.r 8 rfl, Has.r 9 rfl, Has.r 10 rfl, Has.r 11 rfl, Has.r 12 rfl, Has.r 13 rfl, Has.r 14 rfl, Has.r 15 rfl, Has.r 16 rfl, Has.r 17 rfl, Has.r 18 rfl, Has.okids 0 rfl, trivial⟩ ?_
                refine LM.q 18 rfl (by kernel_rfl) (Ev.cast (u := .int .i64 ((p + k : Nat) : Int)) (Ev.add rfl rfl (by omega) (by omega)) (congrArg (Value.int .i64) (by omega))) rfl ⟨Has.r 0 rfl, Has.r 1 rfl, Has.r 2 rfl, Has.r 3 rfl, Has.r 4 rfl, Has.r 5 rfl, Has.r 6 rfl, Has.r 7 rfl, Has.r 8 rfl, Has.r 9 rfl, Has.r 10 rfl, Has.r 11 rfl, Has.r 12 rfl, Has.r 13 rfl, Has.r 14 rfl, Has.r 15 rfl, Has.r 16 rfl, Has.r 17 rfl, Has.r 18 rfl, Has.okids 0 rfl, trivial⟩ ?_
                refine LM.q 19 rfl (by kernel_rfl) (Ev.fieldAddr rfl rfl rfl rfl rfl rfl (Src.r 15 rfl) (Nat.zero_lt_succ _) rfl) rfl ⟨Has.r 0 rfl, Has.r 1 rfl, Has.r 2 rfl, Has.r 3 rfl, Has.r 4 rfl, Has.r 5 rfl, Has.r 6 rfl, Has.r 7 rfl, Has.r 8 rfl, Has.r 9 rfl, Has.r 10 rfl, Has.r 11 rfl, Has.r 12 rfl, Has.r 13 rfl, Has.r 14 rfl, Has.r 15 rfl, Has.r 16 rfl, Has.r 17 rfl, Has.r 18 rfl, Has.okids 0 rfl, trivial⟩ ?_
                refine LM.q 20 rfl (by kernel_rfl) (Ev.load rfl rfl rfl (Src.r 15 rfl) rfl) rfl ⟨Has.r 0 rfl, Has.r 1 rfl, Has.r 2 rfl, Has.r 3 rfl, Has.r 4 rfl, Has.r 5 rfl, Has.r 6 rfl, Has.r 7 rfl, Has.r 8 rfl, Has.r 9 rfl, Has.r 10 rfl, Has.r 11 rfl, Has.r 12 rfl, Has.r 13 rfl, Has.r 14 rfl, Has.r 15 rfl, Has.r 16 rfl, Has.r 17 rfl, Has.r 18 rfl, Has.okids 0 rfl, trivial⟩ ?_
                refine LM.q 21 rfl (by kernel_rfl) (Ev.cast (u := .int .i64 (((p + k) % f.size : Nat) : Int)) (Ev.rem rfl rfl (by omega) (by omega)) (congrArg (Value.int .i64) (by rw [Int.natCast_emod]))) rfl ⟨Has.r 0 rfl, Has.r 1 rfl, Has.r 2 rfl, Has.r 3 rfl, Has.r 4 rfl, Has.r 5 rfl, Has.r 6 rfl, Has.r 7 rfl, Has.r 8 rfl, Has.r 9 rfl, Has.r 10 rfl, Has.r 11 rfl, Has.r 12 rfl, Has.r 13 rfl, Has.r 14 rfl, Has.r 15 rfl, Has.r 16 rfl, Has.r 17 rfl, Has.r 18 rfl, Has.okids 0 rfl, trivial⟩ ?_
                refine LM.q 22 rfl (by kernel_rfl) (Ev.fieldAddr rfl rfl rfl rfl rfl rfl (Src.r 9 rfl) (Nat.zero_lt_succ _) rfl) rfl ⟨Has.r 0 rfl, Has.r 1 rfl, Has.r 2 rfl, Has.r 3 rfl, Has.r 4 rfl, Has.r 5 rfl, Has.r 6 rfl, Has.r 7 rfl, Has.r 8 rfl, Has.r 9 rfl, Has.r 10 rfl, Has.r 11 rfl, Has.r 12 rfl, Has.r 13 rfl, Has.r 14 rfl, Has.r 15 rfl, Has.r 16 rfl, Has.r 17 rfl, Has.r 18 rfl, Has.okids 0 rfl, trivial⟩ ?_
                refine LM.q 23 rfl (by kernel_rfl) (Ev.load rfl rfl rfl (Src.r 9 rfl) rfl) rfl ⟨Has.r 0 rfl, Has.r 1 rfl, Has.r 2 rfl, Has.r 3 rfl, Has.r 4 rfl, Has.r 5 rfl, Has.r 6 rfl, Has.r 7 rfl, Has.r 8 rfl, Has.r 9 rfl, Has.r 10 rfl, Has.r 11 rfl, Has.r 12 rfl, Has.r 13 rfl, Has.r 14 rfl, Has.r 15 rfl, Has.r 16 rfl, Has.r 17 rfl, Has.r 18 rfl, Has.okids 0 rfl, trivial⟩ ?_
                refine LM.f 24 rfl (by kernel_rfl) ⟨Has.r 0 rfl, Has.r 1 rfl, Has.r 2 rfl, Has.r 3 rfl, Has.r 4 rfl, Has.r 5 rfl, Has.r 6 rfl, Has.r 7 rfl, Has.r 8 rfl, Has.r 9 rfl, Has.r 10 rfl, Has.r 11 rfl, Has.r 12 rfl, Has.r 13 rfl, Has.r 14 rfl, Has.r 15 rfl, Has.r 16 rfl, Has.r 17 rfl, Has.r 18 rfl, Has.okids 0 rfl, trivial⟩ ?_
                refine L.step (Ev.pure rfl) rfl ?_
                refine L.nil (QE.m (by kernel_rfl) ?_)
                refine LM.f 25 rfl (by kernel_rfl) ⟨Has.r 0 rfl, Has.r 1 rfl, Has.r 2 rfl, Has.r 3 rfl, Has.r 4 rfl, Has.r 5 rfl, Has.r 6 rfl, Has.r 7 rfl, Has.r 8 rfl, Has.r 9 rfl, Has.r 10 rfl, Has.r 11 rfl, Has.r 12 rfl, Has.r 13 rfl, Has.r 14 rfl, Has.r 15 rfl, Has.r 16 rfl, Has.r 17 rfl, Has.r 18 rfl, Has.okids 0 rfl, trivial⟩ ?_
                refine L.step (Ev.idx1 (k := k) rfl rfl rfl rfl rfl rfl rfl (by omega) (Src.r 8 rfl) (by rw [U8_len]; omega)) rfl ?_
                refine L.nil (QE.m (by kernel_rfl) ?_)
                refine LM.f 26 rfl (by kernel_rfl) ⟨Has.r 0 rfl, Has.r 1 rfl, Has.r 2 rfl, Has.r 3 rfl, Has.r 4 rfl, Has.r 5 rfl, Has.r 6 rfl, Has.r 7 rfl, Has.r 8 rfl, Has.r 9 rfl, Has.r 10 rfl, Has.r 11 rfl, Has.r 12 rfl, Has.r 13 rfl, Has.r 14 rfl, Has.r 15 rfl, Has.r 16 rfl, Has.r 17 rfl, Has.r 18 rfl, Has.okids 0 rfl, trivial⟩ ?_
                refine L.step (Ev.load rfl rfl rfl (Src.r 8 rfl) (U8_get (by omega))) rfl ?_
                refine L.nil (QE.m (by kernel_rfl) ?_)
                refine LM.cut [] (by kernel_rfl) ⟨Has.r 0 rfl, Has.r 1 rfl, Has.r 2 rfl, Has.r 3 rfl, Has.r 4 rfl, Has.r 5 rfl, Has.r 6 rfl, Has.r 7 rfl, Has.r 8 rfl, Has.r 9 rfl, Has.r 10 rfl, Has.r 11 rfl, Has.r 12 rfl, Has.r 13 rfl, Has.r 14 rfl, Has.r 15 rfl, Has.r 16 rfl, Has.r 17 rfl, Has.r 18 rfl, Has.okids 0 rfl, trivial⟩ ?_
                refine LM.f 27 rfl (by kernel_rfl) trivial ?_
                refine L.step (Ev.idx1 (k := (p + k) % f.size) rfl rfl rfl rfl rfl rfl rfl (by rw [hprw]; exact hp2) (Src.okid 0 rfl (by rw [B8_len, wrD_len]; exact hb4) (us.getD ((p + k) / f.size) 0).toNat (by rw [B8_len, wrD_len]; exact hpu)) (by rw [B8_get, U8_len, wrD_row, hprw]; omega)) rfl ?_
                refine L.nil (QE.m (by kernel_rfl) ?_)
                refine LM.f 28 rfl (by kernel_rfl) trivial ?_
                refine L.storeKid (j := 0) (i := (us.getD ((p + k) / f.size) 0).toNat) rfl rfl (by rw [B8_len, wrD_len]; exact hb4) (by rw [B8_len, wrD_len]; exact hpu) rfl rfl rfl rfl rfl (by rw [B8_get, U8_len, wrD_row, hprw]; exact hp2) ?_
                refine L.nil (QE.m (by kernel_rfl) ?_)
                refine LM.nil (by kernel_rfl) trivial ?_
                refine QE.blkN ?_
                refine QE.seq ?_
                refine C.region ?_
                refine L.step (Ev.pure rfl) rfl ?_
                refine L.step (Ev.add rfl rfl (by omega) (by omega)) rfl ?_
                refine L.step (Ev.pure rfl) rfl ?_
                refine L.nil ?_
                refine QE.round (k + 1) (by omega) (by omega) (by exact Le.mk' (rs := [0, 1, 2, 3, 4, 5, 6, 7, 8, 9, 10, 11, 12, 13, 14, 15, 16, 17, 18]) (hs := [0, 1]) ⟨rfl, rfl, rfl, rfl, rfl, rfl, rfl, trivial⟩ ⟨rfl, rfl, rfl, rfl, rfl, rfl, rfl, rfl, rfl, rfl, rfl, rfl, rfl, rfl, rfl, rfl, rfl, rfl, rfl, trivial⟩ ⟨(congrArg some (by rw [B8_get, U8_set, B8_set]; rfl)), rfl, trivial⟩ (by decide))
              · skip
                replace hc127 := of_decide_eq_false hc127
                refine C.exit ?_
                refine QE.tX ?_
                refine QE.tX ?_
                refine QE.blk ?_
                refine QE.seq ?_
                refine C.seq ?_
                obtain rfl : k = bt.length := by omega
                refine C.region ?_
                refine L.step (Ev.loadA rfl rfl rfl (Src.o 1 rfl) rfl rfl (by decide)) rfl ?_
                refine L.step (Ev.cast (u := .agg (List.toArray [.int .i64 ((wrF f us p bt bt.length).size : Int), .slice b4.D (wrF f us p bt bt.length).data.length b4.cD, .slice b4.W (wrF f us p bt bt.length).wear.length b4.cW, .int .i64 (wrF f us p bt bt.length).limit, .slice b4.E (wrF f us p bt bt.length).dead.length b4.cE])) (Ev.loadA (A := A18) (k := 0) (xs := [.int .i64 (f.size : Int), .slice b4.D f.data.length b4.cD, .slice b4.W f.wear.length b4.cW, .int .i64 f.limit, .slice b4.E f.dead.length b4.cE]) (vs := [.int .i64 (f.size : Int), .slice b4.D f.data.length b4.cD, .slice b4.W f.wear.length b4.cW, .int .i64 f.limit, .slice b4.E f.dead.length b4.cE]) rfl rfl rfl (Src.r 7 rfl) rfl rfl (by decide)) (by show Value.agg (List.toArray [.int .i64 (f.size : Int), .slice b4.D f.data.length b4.cD, .slice b4.W f.wear.length b4.cW, .int .i64 f.limit, .slice b4.E f.dead.length b4.cE]) = .agg (List.toArray [_, .slice b4.D (wrD f.data us f.size p bt bt.length).length b4.cD, _, _, _]); rw [wrD_len]; rfl)) rfl ?_
                refine L.call (js := []) (js' := [0, 1]) (Ctr.tb true (sameF_c g (wrF f us p bt bt.length) b b4 gok.sm (wrF_ok ok _).sm gbh (by show b4.hs.length = (wrD f.data us f.size p bt bt.length).length; rw [wrD_len]; exact hb4)) (decide_eq_true hfin)) rfl rfl rfl (by decide) ⟨(Has.r 0 rfl), (Has.r 1 rfl), (Has.r 2 rfl), (Has.r 3 rfl), (((Has.r 4 rfl)).cast (wrD_rows hb4 _ _).symm), (Has.okids 0 rfl), (Has.r 5 rfl), (Has.r 6 rfl), trivial⟩ rfl ?_
                rintro _ _ _ ⟨rfl, rfl, rfl⟩
                refine L.norm (H' := [_, _]) [0, 1] ⟨rfl, rfl, trivial⟩ (by decide) ?_
                refine L.step (Ev.pure rfl) rfl ?_
                refine L.yes rfl ?_
                refine L.step (Ev.pure rfl) rfl ?_
                refine L.step (Ev.pure rfl) rfl ?_
                refine L.step (Ev.pure rfl) rfl ?_
                refine L.nil ?_
                refine QE.seq ?_
                refine C.ret ?_
                refine QE.ret (js := []) (hs := []) (vs := [_]) rfl ⟨rfl, trivial⟩ (by decide) ?_
                exact ⟨rfl, rfl, rfl⟩
        · skip
          refine C.skip ?_
          refine QE.seq ?_
          refine C.seq ?_
          obtain ⟨s, hs, hfs, hfn, hrx⟩ : ∃ s, s < us.length ∧ frm p f.size s < too p f.size bt.length s ∧ (List.range us.length).find? (diffB (area g us) bt p g.size) = some s ∧ r.x = towA g us bt p s := by
            rcases htow with ⟨_, h⟩ | ⟨s, h1, h2, h3, h⟩
            · rw [h] at hc80; cases hc80
            · exact ⟨s, h1, h2, h3, by rw [h]⟩
          have hE : checkE g r.x = 0 := by rw [hrx]; exact (hT.step hu nd hbk.live hs hfs (fun _ => 255)).1
          have hT1 : ∀ mk, Tw f us p bt (cutF g r.x mk) := fun mk => by rw [hrx]; exact (hT.step hu nd hbk.live hs hfs mk).2.1
          have hcs : i - cu ≤ s := find_le hfi hfn
          have hil : i < cu + us.length := by omega
          refine C.region ?_
          refine L.step (Ev.loadA rfl rfl rfl (Src.o 0 rfl) rfl rfl (by decide)) rfl ?_
          refine L.step (Ev.fieldAddr rfl rfl rfl rfl rfl rfl (Src.r 0 rfl) (Nat.zero_lt_succ _) rfl) rfl ?_
          refine L.step (Ev.loadA rfl rfl rfl (Src.r 0 rfl) rfl rfl (by decide)) rfl ?_
          refine L.callR (js := []) (js' := [0]) (do2_c g b gok gbh r.x T74 t74 hxl hcg) rfl rfl rfl (by decide) ⟨(Has.r 2 rfl), (Has.r 3 rfl), (Has.r 4 rfl), (Has.r 5 rfl), (Has.r 1 rfl), trivial⟩ rfl ?_
          rintro _ _ _ ⟨b2, ⟨hb2, hc2⟩, rfl, rfl, rfl⟩
          rw [cutR_ok hE] at hb2 hc2
          rw [cutR_ok hE, hE]
          obtain ⟨g2, hg2⟩ : ∃ g2, g2 = cutF g r.x (fun _ => 255) := ⟨_, rfl⟩
          rw [← hg2] at hb2 hc2 ⊢
          have hT2 : Tw f us p bt g2 := by rw [hg2]; exact hT1 _
          refine L.norm (H' := [_]) [0] ⟨rfl, trivial⟩ (by decide) ?_
          refine L.step (Ev.pure rfl) rfl ?_
          refine L.step (Ev.pure rfl) rfl ?_
          refine L.step (Ev.pure rfl) rfl ?_
          refine L.alloc rfl rfl rfl (fun A16 => ?_)
          refine L.storeA (j := 1) rfl rfl rfl rfl rfl (Nat.zero_lt_succ _) rfl rfl ?_
          refine L.step (Ev.pure rfl) rfl ?_
          refine L.nil ?_
          refine QE.seq ?_
          refine C.seqJ (fun q : Fl × Fa => [(2, .slice MA ms.length mc), (4, ptrOf A4 0), (7, .bool true), (8, ptrOf A8 0), (9, ptrOf A9 0), (11, ptrOf A11 0), (13, .int .i64 (cu : Int)), (14, .int .i64 (i : Int)), (16, ptrOf A16 0), (17, .int .i64 0), (12, .bool false)]) (fun q : Fl × Fa => [Rd q.2.D (rowsV q.2.hs (B8 q.1.data)), KidsR q.2.hs (B8 q.1.data), Rd q.2.W (I64 q.1.wear), Rd q.2.E (Bs q.1.dead), Rd GA (U8 bt), Rd A4 [.int .i64 (p : Int), .slice GA bt.length gc], Rd U (I64 us), Rd a.D (rowsV a.hs (B8 f.data)), KidsR a.hs (B8 f.data), Rd a.W (I64 f.wear), Rd a.E (Bs f.dead), Rd A8 [.int .i64 (f.size : Int), .slice a.D f.data.length a.cD, .slice a.W f.wear.length a.cW, .int .i64 f.limit, .slice a.E f.dead.length a.cE], Rd A9 [.int .i64 0, .int .i64 0, .int .i64 0, .int .i64 0, .int .i64 0, .slice none 0 0, .slice U us.length uc, .slice none 0 0], Rd MA (rowsV mhs (B8 ms)), KidsR mhs (B8 ms)]) (fun q : Fl × Fa => [Own 32 5 A11 1 1 [.int .i64 (g.size : Int), .slice b.D g.data.length b.cD, .slice b.W g.wear.length b.cW, .int .i64 g.limit, .slice b.E g.dead.length b.cE], Own 32 5 A16 1 1 [.int .i64 (q.1.size : Int), .slice q.2.D q.1.data.length q.2.cD, .slice q.2.W q.1.wear.length q.2.cW, .int .i64 q.1.limit, .slice q.2.E q.1.dead.length q.2.cE]]) (fun q : Fl × Fa => Tw f us p bt q.1 ∧ Caps q.1 q.2 ∧ q.2.hs.length = q.1.data.length ∧ (List.range (i + 1 - cu)).find? (diffB (area q.1 us) bt p q.1.size) = none) ?_ ?_
          · skip
            refine C.seq ?_
            refine C.region ?_
            refine L.step (Ev.pure rfl) rfl ?_
            refine L.step (Ev.pure rfl) rfl ?_
            refine L.step (Ev.pure rfl) rfl ?_
            refine L.nil ?_
            refine QE.seq ?_
            refine C.condB 90 rfl (fun hc90 => ?_) (fun hc90 => ?_)
            · skip
              replace hc90 := of_decide_eq_true hc90
              refine C.regionM [Rd T74 (U8 r.x.data), Rd GA (U8 bt), Rd A4 [.int .i64 (p : Int), .slice GA bt.length gc], Rd U (I64 us), Rd a.D (rowsV a.hs (B8 f.data)), KidsR a.hs (B8 f.data), Rd a.W (I64 f.wear), Rd a.E (Bs f.dead), Rd A8 [.int .i64 (f.size : Int), .slice a.D f.data.length a.cD, .slice a.W f.wear.length a.cW, .int .i64 f.limit, .slice a.E f.dead.length a.cE], Rd A9 [.int .i64 0, .int .i64 0, .int .i64 0, .int .i64 0, .int .i64 0, .slice none 0 0, .slice U us.length uc, .slice none 0 0], Rd MA (rowsV mhs (B8 ms)), KidsR mhs (B8 ms), Rd A15 [.int .i64 r.x.kind, .int .i64 r.x.sec, .int .i64 r.x.at_, .slice T74 r.x.data.length t74, .bool r.done, .int .i64 r.e], Rd b.D (rowsV b.hs (B8 g.data)), KidsR b.hs (B8 g.data), Rd b.W (I64 g.wear), Rd b.E (Bs g.dead), Rd A11 [.int .i64 (g.size : Int), .slice b.D g.data.length b.cD, .slice b.W g.wear.length b.cW, .int .i64 g.limit, .slice b.E g.dead.length b.cE]] ⟨Has.r 5 rfl, Has.r 10 rfl, Has.r 11 rfl, Has.r 12 rfl, Has.r 13 rfl, Has.r 14 rfl, Has.r 15 rfl, Has.r 16 rfl, Has.r 17 rfl, Has.r 18 rfl, Has.r 19 rfl, Has.r 20 rfl, Has.r 4 rfl, Has.r 6 rfl, Has.r 7 rfl, Has.r 8 rfl, Has.r 9 rfl, Has.o 0 rfl, trivial⟩ ?_
              refine LM.q 0 rfl (by kernel_rfl) (Ev.loadA rfl rfl rfl (Src.r 17 rfl) rfl rfl (by decide)) rfl ⟨Has.r 5 rfl, Has.r 10 rfl, Has.r 11 rfl, Has.r 12 rfl, Has.r 13 rfl, Has.r 14 rfl, Has.r 15 rfl, Has.r 16 rfl, Has.r 17 rfl, Has.r 18 rfl, Has.r 19 rfl, Has.r 20 rfl, Has.r 4 rfl, Has.r 6 rfl, Has.r 7 rfl, Has.r 8 rfl, Has.r 9 rfl, Has.o 0 rfl, trivial⟩ ?_
              refine LM.q 1 rfl (by kernel_rfl) (Ev.fieldAddr rfl rfl rfl rfl rfl rfl (Src.r 12 rfl) (Nat.zero_lt_succ _) rfl) rfl ⟨Has.r 5 rfl, Has.r 10 rfl, Has.r 11 rfl, Has.r 12 rfl, Has.r 13 rfl, Has.r 14 rfl, Has.r 15 rfl, Has.r 16 rfl, Has.r 17 rfl, Has.r 18 rfl, Has.r 19 rfl, Has.r 20 rfl, Has.r 4 rfl, Has.r 6 rfl, Has.r 7 rfl, Has.r 8 rfl, Has.r 9 rfl, Has.o 0 rfl, trivial⟩ ?_
              refine LM.q 2 rfl (by kernel_rfl) (Ev.loadA rfl rfl rfl (Src.r 12 rfl) rfl rfl (by decide)) rfl ⟨Has.r 5 rfl, Has.r 10 rfl, Has.r 11 rfl, Has.r 12 rfl, Has.r 13 rfl, Has.r 14 rfl, Has.r 15 rfl, Has.r 16 rfl, Has.r 17 rfl, Has.r 18 rfl, Has.r 19 rfl, Has.r 20 rfl, Has.r 4 rfl, Has.r 6 rfl, Has.r 7 rfl, Has.r 8 rfl, Has.r 9 rfl, Has.o 0 rfl, trivial⟩ ?_
              refine LM.q 3 rfl (by kernel_rfl) (Ev.pure rfl) rfl ⟨Has.r 5 rfl, Has.r 10 rfl, Has.r 11 rfl, Has.r 12 rfl, Has.r 13 rfl, Has.r 14 rfl, Has.r 15 rfl, Has.r 16 rfl, Has.r 17 rfl, Has.r 18 rfl, Has.r 19 rfl, Has.r 20 rfl, Has.r 4 rfl, Has.r 6 rfl, Has.r 7 rfl, Has.r 8 rfl, Has.r 9 rfl, Has.o 0 rfl, trivial⟩ ?_
              refine LM.q 4 rfl (by kernel_rfl) (Ev.pure rfl) rfl ⟨Has.r 5 rfl, Has.r 10 rfl, Has.r 11 rfl, Has.r 12 rfl, Has.r 13 rfl, Has.r 14 rfl, Has.r 15 rfl, Has.r 16 rfl, Has.r 17 rfl, Has.r 18 rfl, Has.r 19 rfl, Has.r 20 rfl, Has.r 4 rfl, Has.r 6 rfl, Has.r 7 rfl, Has.r 8 rfl, Has.r 9 rfl, Has.o 0 rfl, trivial⟩ ?_
              refine LM.q 5 rfl (by kernel_rfl) (Ev.idx1 (k := i) rfl rfl rfl rfl rfl rfl rfl (by omega) (Src.r 10 rfl) (by rw [rowsV_len (by rw [B8_len]; exact hmh), B8_len]; omega)) rfl ⟨Has.r 5 rfl, Has.r 10 rfl, Has.r 11 rfl, Has.r 12 rfl, Has.r 13 rfl, Has.r 14 rfl, Has.r 15 rfl, Has.r 16 rfl, Has.r 17 rfl, Has.r 18 rfl, Has.r 19 rfl, Has.r 20 rfl, Has.r 4 rfl, Has.r 6 rfl, Has.r 7 rfl, Has.r 8 rfl, Has.r 9 rfl, Has.o 0 rfl, trivial⟩ ?_
              refine LM.q 6 rfl (by kernel_rfl) (Ev.load rfl rfl rfl (Src.r 10 rfl) (rows8_get hmh (by omega))) rfl ⟨Has.r 5 rfl, Has.r 10 rfl, Has.r 11 rfl, Has.r 12 rfl, Has.r 13 rfl, Has.r 14 rfl, Has.r 15 rfl, Has.r 16 rfl, Has.r 17 rfl, Has.r 18 rfl, Has.r 19 rfl, Has.r 20 rfl, Has.r 4 rfl, Has.r 6 rfl, Has.r 7 rfl, Has.r 8 rfl, Has.r 9 rfl, Has.o 0 rfl, trivial⟩ ?_
              refine LM.f 7 rfl (by kernel_rfl) ⟨Has.r 5 rfl, Has.r 10 rfl, Has.r 11 rfl, Has.r 12 rfl, Has.r 13 rfl, Has.r 14 rfl, Has.r 15 rfl, Has.r 16 rfl, Has.r 17 rfl, Has.r 18 rfl, Has.r 19 rfl, Has.r 20 rfl, Has.r 4 rfl, Has.r 6 rfl, Has.r 7 rfl, Has.r 8 rfl, Has.r 9 rfl, Has.o 0 rfl, trivial⟩ ?_
              refine L.callR (js := []) (js' := [0, 1]) (cut2_c g b gok gbh r.x T74 t74 hxl (ms.getD i []) (mhs.getD i (none, 0)).1 (ms.getD i []).length (mhs.getD i (none, 0)).2 rfl (hmr i) hcg) rfl rfl rfl (by decide) ⟨(Has.r 6 rfl), (Has.r 7 rfl), (Has.r 8 rfl), (Has.r 9 rfl), (Has.r 5 rfl), ((Has.kid 20 rfl (by rw [B8_len]; exact hmh) (i) (by rw [B8_len]; exact (by omega))).cast (B8_get _)), trivial⟩ rfl ?_
              rintro _ _ _ ⟨b3, ⟨hb3, hc3⟩, rfl, rfl, rfl⟩
              rw [cutR_ok hE] at hb3 hc3
              rw [cutR_ok hE, hE]
              obtain ⟨g3, hg3⟩ : ∃ g3, g3 = cutF g r.x (fun j => (ms.getD i []).getD j 0) := ⟨_, rfl⟩
              rw [← hg3] at hb3 hc3 ⊢
              have hT3 : Tw f us p bt g3 := by rw [hg3]; exact hT1 _
              refine L.norm (H' := [_, _]) [0, 1] ⟨rfl, rfl, trivial⟩ (by decide) ?_
              refine L.nil (QE.m (by kernel_rfl) ?_)
              refine LM.q 8 rfl (by kernel_rfl) (Ev.pure rfl) rfl ⟨Has.r 9 rfl, Has.r 14 rfl, Has.r 15 rfl, Has.r 16 rfl, Has.r 17 rfl, Has.r 18 rfl, Has.r 19 rfl, Has.r 20 rfl, Has.r 21 rfl, Has.r 22 rfl, Has.r 23 rfl, Has.r 24 rfl, Has.r 8 rfl, Has.r 10 rfl, Has.r 11 rfl, Has.r 12 rfl, Has.r 13 rfl, Has.o 0 rfl, trivial⟩ ?_
              refine LM.q 9 rfl (by kernel_rfl) (Ev.pure rfl) rfl ⟨Has.r 9 rfl, Has.r 14 rfl, Has.r 15 rfl, Has.r 16 rfl, Has.r 17 rfl, Has.r 18 rfl, Has.r 19 rfl, Has.r 20 rfl, Has.r 21 rfl, Has.r 22 rfl, Has.r 23 rfl, Has.r 24 rfl, Has.r 8 rfl, Has.r 10 rfl, Has.r 11 rfl, Has.r 12 rfl, Has.r 13 rfl, Has.o 0 rfl, trivial⟩ ?_
              refine LM.q 10 rfl (by kernel_rfl) (Ev.pure rfl) rfl ⟨Has.r 9 rfl, Has.r 14 rfl, Has.r 15 rfl, Has.r 16 rfl, Has.r 17 rfl, Has.r 18 rfl, Has.r 19 rfl, Has.r 20 rfl, Has.r 21 rfl, Has.r 22 rfl, Has.r 23 rfl, Has.r 24 rfl, Has.r 8 rfl, Has.r 10 rfl, Has.r 11 rfl, Has.r 12 rfl, Has.r 13 rfl, Has.o 0 rfl, trivial⟩ ?_
              refine LM.f 11 rfl (by kernel_rfl) ⟨Has.r 9 rfl, Has.r 14 rfl, Has.r 15 rfl, Has.r 16 rfl, Has.r 17 rfl, Has.r 18 rfl, Has.r 19 rfl, Has.r 20 rfl, Has.r 21 rfl, Has.r 22 rfl, Has.r 23 rfl, Has.r 24 rfl, Has.r 8 rfl, Has.r 10 rfl, Has.r 11 rfl, Has.r 12 rfl, Has.r 13 rfl, Has.o 0 rfl, trivial⟩ ?_
              refine L.storeA (j := 1) rfl rfl rfl rfl rfl (Nat.zero_lt_succ _) rfl rfl ?_
              refine L.nil (QE.m (by kernel_rfl) ?_)
              refine LM.cut [] (by kernel_rfl) ⟨Has.r 9 rfl, Has.r 14 rfl, Has.r 15 rfl, Has.r 16 rfl, Has.r 17 rfl, Has.r 18 rfl, Has.r 19 rfl, Has.r 20 rfl, Has.r 21 rfl, Has.r 22 rfl, Has.r 23 rfl, Has.r 24 rfl, Has.r 8 rfl, Has.r 10 rfl, Has.r 11 rfl, Has.r 12 rfl, Has.r 13 rfl, Has.o 0 rfl, trivial⟩ ?_
              refine LM.f 12 rfl (by kernel_rfl) trivial ?_
              refine L.step (Ev.pure rfl) rfl ?_
              refine L.nil (QE.m (by kernel_rfl) ?_)
              refine LM.nil (by kernel_rfl) trivial ?_
              refine QE.join ((g3, b3)) (by exact ⟨hT3, hc3, hb3, by dsimp only; rw [show i + 1 - cu = 0 from by omega]; rfl⟩) (by exact Le.mk' (rs := [0, 1, 2, 3, 14, 15, 16, 17, 18, 19, 20, 21, 22, 23, 24]) (hs := [0, 1]) ⟨rfl, rfl, rfl, rfl, rfl, rfl, rfl, rfl, rfl, rfl, (congrArg (fun x => some (Value.bool x)) hc80), trivial⟩ ⟨rfl, rfl, rfl, rfl, rfl, rfl, rfl, rfl, rfl, rfl, rfl, rfl, rfl, rfl, rfl, trivial⟩ ⟨rfl, rfl, trivial⟩ (by decide))
            · skip
              replace hc90 := of_decide_eq_false hc90
              refine C.skip ?_
              refine QE.join ((g2, b2)) (by exact ⟨hT2, hc2, hb2, by dsimp only; rw [hg2, hrx]; exact find_less (hT.done1 hu nd hbk.live hs hfn) (by omega)⟩) (by exact Le.mk' (rs := [0, 1, 2, 3, 10, 11, 12, 13, 14, 15, 16, 17, 18, 19, 20]) (hs := [0, 1]) ⟨rfl, rfl, rfl, rfl, rfl, rfl, rfl, rfl, rfl, rfl, (congrArg (fun x => some (Value.bool x)) hc80), trivial⟩ ⟨rfl, rfl, rfl, rfl, rfl, rfl, rfl, rfl, rfl, rfl, rfl, rfl, rfl, rfl, rfl, trivial⟩ ⟨rfl, rfl, trivial⟩ (by decide))
          · skip
            rintro ⟨h, b5⟩ ⟨hT5, hc5, hb5, hf5⟩
            dsimp only at hT5 hc5 hb5 hf5 ⊢
            refine C.seq ?_
            refine C.seq ?_
            refine C.region ?_
            refine L.step (Ev.pure rfl) rfl ?_
            refine L.step (Ev.pure rfl) rfl ?_
            refine L.step (Ev.pure rfl) rfl ?_
            refine L.bool 104 rfl (fun hg104 => ?_) (fun hg104 => ?_)
            · skip
              replace hg104 := b_ne hg104
              exact (hg104 rfl).elim
            · skip
              replace hg104 := b_eq hg104
              refine L.yes rfl ?_
              refine L.step (Ev.loadA rfl rfl rfl (Src.o 1 rfl) rfl rfl (by decide)) rfl ?_
              refine L.yes rfl ?_
              refine L.call (js := []) (js' := [0, 1]) (Ctr.tb true (valid17_c (h.size : Int) h b5 hb5 (by have := hT5.ok.n2; omega)) (okB_ok hT5.ok)) rfl rfl rfl (by decide) ⟨(Has.r 0 rfl), (Has.r 1 rfl), (Has.r 2 rfl), (Has.r 3 rfl), trivial⟩ rfl ?_
              rintro _ _ _ ⟨rfl, rfl, rfl⟩
              refine L.norm (H' := [_, _]) [0, 1] ⟨rfl, rfl, trivial⟩ (by decide) ?_
              refine L.yes rfl ?_
              refine L.step (Ev.pure rfl) rfl ?_
              refine L.step (Ev.pure rfl) rfl ?_
              refine L.nil ?_
              refine QE.seq ?_
              refine C.cond rfl (fun h => by cases h) (fun _ => ?_)
              refine C.skip ?_
              refine QE.seq ?_
              refine C.region ?_
              refine L.step (Ev.loadA rfl rfl rfl (Src.o 1 rfl) rfl rfl (by decide)) rfl ?_
              refine L.storeA (j := 0) rfl rfl rfl rfl rfl (Nat.zero_lt_succ _) rfl rfl ?_
              refine L.nil ?_
              refine QE.blkN ?_
              refine QE.seq ?_
              refine C.region ?_
              refine L.step (Ev.pure rfl) rfl ?_
              refine L.step (Ev.add rfl rfl (by omega) (by omega)) rfl ?_
              refine L.step (Ev.pure rfl) rfl ?_
              refine L.nil ?_
              refine QE.round (i := (i, g, b)) ((i + 1, h, b5)) (by exact ⟨hT5, hc5, hb5, by dsimp only; omega, hf5⟩) (by dsimp only; omega) (by exact Le.mk' (rs := [0, 1, 2, 3, 4, 5, 6, 7, 8, 9, 10, 11, 12, 13, 14]) (hs := [0]) ⟨rfl, rfl, rfl, rfl, rfl, rfl, rfl, rfl, rfl, trivial⟩ ⟨rfl, rfl, rfl, rfl, rfl, rfl, rfl, rfl, rfl, rfl, rfl, rfl, rfl, rfl, rfl, trivial⟩ ⟨rfl, trivial⟩ (by decide))
    · skip
      cases hc68
  · skip
    replace hg65 := of_decide_eq_false hg65
    omega

end Go.Proofs.Ythfjkdgopkmgoaa
