/-
  The small separation logic: one inner slice is taken out of the owned ones; rows of structs; contracts whose results are only read.
-/
import Derived.Test.YthfjkdgopkmgoaaSlI
namespace Go.Sl

section
variable {X : Cx} {β : Base} {n : Nat} {ds : List Deferred} {ops : Array Oper} {Q : Exit → Act → World → Prop} {rest : List Oper} {Γ : Env} {R H : List Pr}

theorem Own.none (e : TypeId) (w : World) : (Own e 1 none 0 0 []).p w := World.ownsRow_nil w 0 e 1

/-- One inner slice is taken out: in its place stands an empty one. -/
theorem Sat.takeKid {w : World} (h : Sat β w R H) {j e i : Nat} {hs : List Hd} {vss : List (List Value)} (hj : H[j]? = some (OwnKids e hs vss)) (hi : i < vss.length) (js : List Nat) (hn : (j :: js).Nodup) :
    Sat β w R (Own e 1 (hs.getD i (none, 0)).1 (vss.getD i []).length (hs.getD i (none, 0)).2 (vss.getD i []) :: OwnKids e (hs.set i (none, 0)) (vss.set i []) :: Sl.sel H js) := by
  have hjs : j ∉ js := (List.nodup_cons.1 hn).1
  have nd : js.Nodup := (List.nodup_cons.1 hn).2
  have ok := h.own j _ hj
  have hil : i < hs.length := by rw [ok.1]; exact hi
  have gh : hs[i]? = some (hs.getD i (none, 0)) := getD_some hil
  have gv : vss[i]? = some (vss.getD i []) := getD_some hi
  have f1 : ∀ k, (Own e 1 (hs.getD i (none, 0)).1 (vss.getD i []).length (hs.getD i (none, 0)).2 (vss.getD i [])).fp k → hblk (hs.getD i (none, 0)) k := fun k hk => hk
  have f2 : ∀ k, (OwnKids e (hs.set i (none, 0)) (vss.set i [])).fp k → ∃ (q : Nat) (g : Hd), q ≠ i ∧ hs[q]? = some g ∧ hblk g k := by
    rintro k ⟨q, g, hg, hk⟩
    rw [List.getElem?_set] at hg
    by_cases hqi : i = q
    · rw [if_pos hqi, if_pos hil] at hg
      injection hg with hg
      subst hg
      obtain ⟨a, ha, _⟩ := hk
      cases ha
    · rw [if_neg hqi] at hg
      exact ⟨q, g, fun x => hqi x.symm, hg, hk⟩
  refine h.put (Stp.refl w fun _ => False) (fun _ hk => hk.elim) R _ (fun r hr => .inl hr) ?_ ?_ ?_
  · intro q d hd
    match q with
    | 0 =>
      simp at hd
      subst hd
      refine ⟨?_, fun k hk => ⟨(h.ofp j _ hj k ⟨i, _, gh, hk⟩).1, .inr ⟨j, _, hj, ⟨i, _, gh, hk⟩⟩⟩⟩
      have := ok.2.1 i _ _ gh gv
      simpa using this
    | 1 =>
      simp at hd
      subst hd
      refine ⟨⟨by simp [ok.1], ?_, ?_⟩, fun k hk => ?_⟩
      · intro q g v hg hv
        rw [List.getElem?_set] at hg hv
        by_cases hqi : i = q
        · rw [if_pos hqi, if_pos hil] at hg
          rw [if_pos hqi, if_pos hi] at hv
          injection hg with hg
          injection hv with hv
          subst hg hv
          exact Own.none e w
        · rw [if_neg hqi] at hg hv
          exact ok.2.1 q g v hg hv
      · intro p q g d hg hd hpq k hk
        rw [List.getElem?_set] at hg hd
        by_cases hpi : i = p
        · rw [if_pos hpi, if_pos hil] at hg
          injection hg with hg
          subst hg
          obtain ⟨a, ha, _⟩ := hk
          cases ha
        · rw [if_neg hpi] at hg
          by_cases hqi : i = q
          · rw [if_pos hqi, if_pos hil] at hd
            injection hd with hd
            subst hd
            rintro ⟨a, ha, _⟩
            cases ha
          · rw [if_neg hqi] at hd
            exact ok.2.2 p q g d hg hd hpq k hk
      · obtain ⟨q, g, _, hg, hb⟩ := f2 k hk
        exact ⟨(h.ofp j _ hj k ⟨q, g, hg, hb⟩).1, .inr ⟨j, _, hj, ⟨q, g, hg, hb⟩⟩⟩
    | q + 2 =>
      simp at hd
      obtain ⟨p, hp, hpd⟩ := sel_mem (List.mem_of_getElem? hd)
      exact ⟨h.own p d hpd, fun k hk => ⟨(h.ofp p d hpd k hk).1, .inr ⟨p, d, hpd, hk⟩⟩⟩
  · have apart : ∀ k, hblk (hs.getD i (none, 0)) k → (∃ (q : Nat) (g : Hd), q ≠ i ∧ hs[q]? = some g ∧ hblk g k) → False := by
      rintro k hk ⟨p, g, hne, hg, hb⟩
      exact ok.2.2 i p _ _ gh hg (fun x => hne x.symm) k hk hb
    have old : ∀ (q : Nat) (d : Pr), (Sl.sel H js)[q]? = some d → ∀ k, (∃ (p : Nat) (g : Hd), hs[p]? = some g ∧ hblk g k) → ¬ d.fp k := by
      intro q d hd k hk hdk
      obtain ⟨p, hp, hpd⟩ := sel_mem (List.mem_of_getElem? hd)
      exact h.dis j p _ _ hj hpd (fun x => hjs (x ▸ hp)) k hk hdk
    intro p q c d hc hd hne k hck hdk
    match p, q with
    | 0, 0 => exact hne rfl
    | 1, 1 => exact hne rfl
    | 0, 1 => simp at hc hd; subst hc hd; exact apart k hck (f2 k hdk)
    | 1, 0 => simp at hc hd; subst hc hd; exact apart k hdk (f2 k hck)
    | 0, q + 2 => simp at hc hd; subst hc; exact old q d hd k ⟨i, _, gh, hck⟩ hdk
    | p + 2, 0 => simp at hc hd; subst hd; exact old p c hc k ⟨i, _, gh, hdk⟩ hck
    | 1, q + 2 => simp at hc hd; subst hc; obtain ⟨s, g, _, hg, hb⟩ := f2 k hck; exact old q d hd k ⟨s, g, hg, hb⟩ hdk
    | p + 2, 1 => simp at hc hd; subst hd; obtain ⟨s, g, _, hg, hb⟩ := f2 k hdk; exact old p c hc k ⟨s, g, hg, hb⟩ hck
    | p + 2, q + 2 =>
      simp at hc hd
      exact (h.sel nd).dis p q c d hc hd (fun x => hne (by omega)) k hck hdk
  · intro r hr q d hd k hrk hdk
    match q with
    | 0 => simp at hd; subst hd; exact h.sep r hr j _ hj k hrk ⟨i, _, gh, hdk⟩
    | 1 => simp at hd; subst hd; obtain ⟨s, g, _, hg, hb⟩ := f2 k hdk; exact h.sep r hr j _ hj k hrk ⟨s, g, hg, hb⟩
    | q + 2 =>
      simp at hd
      obtain ⟨p, hp, hpd⟩ := sel_mem (List.mem_of_getElem? hd)
      exact h.sep r hr p d hpd k hrk hdk
theorem C.takeKid {c : Code} (j i : Nat) {e : Nat} {hs : List Hd} {vss : List (List Value)} (hj : H[j]? = some (OwnKids e hs vss)) (hi : i < vss.length) (js : List Nat) (hn : (j :: js).Nodup)
    (h : C X β n ds Q c Γ R (Own e 1 (hs.getD i (none, 0)).1 (vss.getD i []).length (hs.getD i (none, 0)).2 (vss.getD i []) :: OwnKids e (hs.set i (none, 0)) (vss.set i []) :: Sl.sel H js)) : C X β n ds Q c Γ R H :=
  fun a w hf hs' => h a w hf (hs'.takeKid hj hi js hn)

/-- A contract's further read facts. -/
theorem Ctr.moreR {f : FuncId} {args : List Value} {Φ : Value → List Pr → List Pr → Prop} {r : Pr} (h : Ctr X f args R H Φ) (hr : ∀ v R' H', Φ v R' H' → Has R' [] r) : Ctr X f args R H (fun v R' H' => ∃ R0, R' = r :: R0 ∧ Φ v R0 H') :=
  ⟨h.1, fun w hs => (h.2 w hs).mono fun _ _ ⟨v, R', H', hv, he, hsat⟩ => ⟨v, r :: R', H', ⟨R', rfl, hv⟩, he, hsat.more (hr v R' H' hv)⟩⟩

theorem C.cap {x : Code} (j : Nat) {e sz m c : Nat} {A : Option Addr} {xs : List Value} (hj : H[j]? = some (Own e sz A m c xs)) (h : m ≤ c → C X β n ds Q x Γ R H) : C X β n ds Q x Γ R H :=
  fun a w hf hs => h (Own.cap (hs.own j _ hj)).1 a w hf hs
theorem C.takeKid8 {x : Code} (j i : Nat) {e : Nat} {hs : List Hd} {ls : List (List UInt8)} (hj : H[j]? = some (OwnKids e hs (B8 ls))) (hi : i < ls.length) (js : List Nat) (hn : (j :: js).Nodup)
    (h : C X β n ds Q x Γ R (Own e 1 (hs.getD i (none, 0)).1 (ls.getD i []).length (hs.getD i (none, 0)).2 (U8 (ls.getD i [])) :: OwnKids e (hs.set i (none, 0)) (B8 (ls.set i [])) :: Sl.sel H js)) : C X β n ds Q x Γ R H := by
  refine C.takeKid j i hj (by rw [B8_len]; exact hi) js hn ?_
  rw [B8_get, U8_len, show ([] : List Value) = U8 [] from rfl, B8_set]
  exact h
/-- The slice that was taken out stands in its place again. -/
theorem Has.kidsSet8 (i j s c : Nat) {hs : List Hd} {ls : List (List UInt8)} {A : Option Addr} {xs : List Value} {l : List UInt8} (hi : R[i]? = some (KidsR (hs.set s (none, 0)) (B8 (ls.set s [])))) (hj : R[j]? = some (Rd A xs)) (hx : xs = U8 l) :
    Has R H (KidsR (hs.set s (A, c)) (B8 (ls.set s l))) := by
  subst hx
  have h := Has.kidsSet (H := H) i j s c hi hj
  rwa [List.set_set, B8_set, List.set_set] at h
theorem Has.drop1 {A : Option Addr} {xs : List Value} (h : Has R H (Rd A xs)) (c : Nat) (hc : xs.length ≤ c) : Has R H (Rd (subA A c 1 1) (xs.drop 1)) := by
  have h2 := h.sub c 1 1 xs.length (by omega)
  rwa [Nat.mul_one, List.take_of_length_le (by rw [List.length_drop]; omega)] at h2
theorem Has.kidsDrop {hs : List Hd} {vss : List (List Value)} (h : Has R H (KidsR hs vss)) (k : Nat) : Has R H (KidsR (hs.drop k) (vss.drop k)) := by
  refine ⟨fun β w hsat i g v hg hv => ?_, fun q hq => ?_⟩
  · rw [List.getElem?_drop] at hg hv
    exact h.1 β w hsat (k + i) g v hg hv
  · obtain ⟨i, g, v, hg, hv, hk⟩ := hq
    rw [List.getElem?_drop] at hg hv
    exact h.2 q ⟨k + i, g, v, hg, hv, hk⟩
theorem rowsV_drop (hs : List Hd) (vss : List (List Value)) (k : Nat) : (rowsV hs vss).drop k = rowsV (hs.drop k) (vss.drop k) := by unfold rowsV; rw [List.drop_zipWith]
theorem U8_drop (l : List UInt8) (k : Nat) : (U8 l).drop k = U8 (l.drop k) := by simp [U8, List.map_drop]
theorem I64_drop (l : List Int) (k : Nat) : (I64 l).drop k = I64 (l.drop k) := by simp [I64, List.map_drop]
theorem B8_drop (l : List (List UInt8)) (k : Nat) : (B8 l).drop k = B8 (l.drop k) := by simp [B8, List.map_drop]
theorem Bs_app (a b : List Bool) : Bs a ++ Bs b = Bs (a ++ b) := by simp [Bs]

/-- The cells of a step of a script: the fields and where the bytes lie. -/
structure Stp6 where
  er : Bool
  se : UInt8
  at_ : UInt8
  data : List UInt8
  yA : Option Addr
  yc : Nat
  torn : Bool
  mask : List UInt8
  mA : Option Addr
  mc : Nat
def Stp6.cells (s : Stp6) : List Value := [.bool s.er, .int .u8 (s.se.toNat : Int), .int .u8 (s.at_.toNat : Int), .slice s.yA s.data.length s.yc, .bool s.torn, .slice s.mA s.mask.length s.mc]
def stepsV (l : List Stp6) : List Value := l.flatMap Stp6.cells
def Stp6.zero : Stp6 := ⟨false, 0, 0, [], none, 0, false, [], none, 0⟩
theorem stepsV_len (l : List Stp6) : (stepsV l).length = l.length * 6 := by
  induction l with
  | nil => rfl
  | cons s l ih => rw [show stepsV (s :: l) = s.cells ++ stepsV l from rfl, List.length_append, ih, List.length_cons]; simp [Stp6.cells]; omega
theorem stepsV_at (l : List Stp6) (k : Nat) (hk : k < l.length) : ((stepsV l).drop (k * 6)).take 6 = (l.getD k Stp6.zero).cells := by
  induction l generalizing k with
  | nil => simp at hk
  | cons s l ih =>
    rw [show stepsV (s :: l) = s.cells ++ stepsV l from rfl]
    cases k with
    | zero => simp [Stp6.cells]
    | succ k =>
      have e : (k + 1) * 6 = s.cells.length + k * 6 := by simp [Stp6.cells]; omega
      rw [e, List.drop_append, List.drop_eq_nil_of_le (by omega), List.nil_append, show s.cells.length + k * 6 - s.cells.length = k * 6 from by omega]
      exact ih k (by simpa using hk)
theorem stepsV_get (l : List Stp6) (k q : Nat) (hk : k < l.length) (hq : q < 6) : (stepsV l)[k * 6 + q]? = (l.getD k Stp6.zero).cells[q]? := by
  have h := congrArg (fun x => x[q]?) (stepsV_at l k hk)
  simp only [List.getElem?_take, if_pos hq, List.getElem?_drop] at h
  exact h
theorem steps_pos {l : List Stp6} {k : Nat} (hk : k < l.length) : 0 < (stepsV l).length := by rw [stepsV_len]; omega
def stepsY (l : List Stp6) : List Hd := l.map fun s => (s.yA, s.yc)
def stepsM (l : List Stp6) : List Hd := l.map fun s => (s.mA, s.mc)
theorem Has.stepY (j : Nat) {l : List Stp6} {k : Nat} (hj : R[j]? = some (KidsR (stepsY l) (B8 (l.map Stp6.data)))) (hk : k < l.length) : Has R [] (Rd (l.getD k Stp6.zero).yA (U8 (l.getD k Stp6.zero).data)) := by
  have h := Has.kid (H := []) j hj (by simp [stepsY, B8]) k (by rw [B8_len, List.length_map]; exact hk)
  rw [B8_get] at h
  simpa [stepsY, hk] using h
theorem Has.stepM (j : Nat) {l : List Stp6} {k : Nat} (hj : R[j]? = some (KidsR (stepsM l) (B8 (l.map Stp6.mask)))) (hk : k < l.length) : Has R [] (Rd (l.getD k Stp6.zero).mA (U8 (l.getD k Stp6.zero).mask)) := by
  have h := Has.kid (H := []) j hj (by simp [stepsM, B8]) k (by rw [B8_len, List.length_map]; exact hk)
  rw [B8_get] at h
  simpa [stepsM, hk] using h
end
end Go.Sl
