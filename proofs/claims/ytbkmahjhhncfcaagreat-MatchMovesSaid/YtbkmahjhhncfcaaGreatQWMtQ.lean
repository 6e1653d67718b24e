/-
  The cost by the program; lifted patches; Best.
-/
import Derived.Test.YtbkmahjhhncfcaaGreatQMp
import Derived.Test.YtbkmahjhhncfcaaGreatQWLaL
import Derived.Test.YtbkmahjhhncfcaaGreatQWLaI
import Derived.Test.YtbkmahjhhncfcaaGreatQWMtG
section
namespace Go.Proofs.YtbkmahjhhncfcaaGreat
open Go.Sl

set_option maxHeartbeats 2000000 in
theorem applyL_c (B : Option Addr) (old new : List UInt8) (bc : Nat) (lf : Bool) (inn out : Int) (ops : List Pq) (OA : Option Addr) (oc : Nat) (hops : ops.length ≤ 9223372036854775807) (hlf : lf = true) (hco : codeB old) (hcn : codeB new) (hbc : old.length ≤ bc) (hE : chkP inn out ops = 0) (hin : inn = ((foF old).length : Int)) (hrun : outsQ (foF old) ops = foF new) :
   Ctr X 53 [.slice B old.length bc, .agg (List.toArray [.bool lf, .int .i64 inn, .int .i64 out, .slice OA ops.length oc])] [Rd B (U8 old), Rd OA (pqV ops), KidsR (pqH ops) (B8 (pqD ops))] [] (fun v R' H' => ∃ (A : Option Addr) (c : Nat), v = .tuple #[.slice A new.length c, .int .i64 0] ∧ R' = [] ∧ H' = [Own 5 1 A new.length c (U8 new)]) := by
 refine Ctr.of (X := X) (fn := Tryz.f53) Tryz.func53 rfl (by kernel_rfl) rfl ?_
 intro β
 change inn = ((formF (liftR old)).length : Int) at hin
 change outsQ (formF (liftR old)) ops = formF (liftR new) at hrun
 have hr := run_ok (old := formF (liftR old)) hE hin
 have hsr := sys_run (old := formF (liftR old)) hE
 have hrd := read_form_lift hcn
 have hlw := low_lift_yes hcn
 have hfn := foF_len (b := new)
 change (formF (liftR new)).length ≤ _ at hfn
 have ho6 := code_len hco
 have hn6 := code_len hcn
 have hln := liftR_lens new
 have hlo := liftR_lens old
 refine C.seq (C.region ?_)
 refine L.boxA rfl rfl (fun A3 => ?_)
 refine Lpu rfl rfl ?_; refine Lpu rfl rfl ?_; refine L.nil (QE.seq (C.seq ?_)); refine C.freeze 0 rfl [] (by decide) (by decide) ?_; refine C.region ?_; refine L.step (Ev.loadA (vs := [.bool lf, .int .i64 inn, .int .i64 out, .slice OA ops.length oc]) rfl rfl rfl (Src.r 0 rfl) rfl rfl (by decide)) rfl ?_; refine L.call (js := []) (js' := []) (symbolsQ_c lf inn out ops OA oc hops) rfl rfl rfl (by decide) (Hq [2, 3] rfl) rfl ?_
 rintro _ _ _ ⟨SA, sc, rfl, rfl, rfl⟩
 refine L.norm (H' := [_]) [0] ⟨rfl, trivial⟩ (by decide) ?_; refine Lpu rfl rfl ?_; refine Lpu rfl rfl ?_; refine Lpu rfl rfl ?_; refine Lpu rfl rfl ?_; refine Lpu rfl rfl ?_; refine L.nil (QE.seq (C.seq (C.seq ?_))); refine C.freeze 0 rfl [] (by decide) (by decide) ?_; refine C.region ?_; refine Lpu rfl rfl ?_; refine Lpu rfl rfl ?_; refine L.nil (QE.seq ?_)
 refine C.condB 18 rfl (fun hc18 => ?_) (fun hc18 => ?_)
 ·
  replace hc18 := b_ne hc18
  exact absurd hE hc18
 ·
  replace hc18 := b_eq hc18
  refine C.skip (QE.seq (C.seq (C.seq (C.region ?_)))); refine L.step (Ev.fieldAddr rfl rfl rfl rfl rfl rfl (Src.r 1 rfl) (Nat.zero_lt_succ _) rfl) rfl ?_; refine L.step (Ev.cast (u := .bool true) (Ev.load rfl rfl rfl (Src.r 1 rfl) rfl) (congrArg Value.bool hlf)) rfl ?_; refine L.nil (QE.seq ?_)
  refine C.condB 21 rfl (fun hc21 => ?_) (fun hc21 => ?_)
  ·
   refine C.seq (C.region ?_); refine Lpu rfl rfl ?_; refine L.call (js := []) (js' := []) (lift_c B old bc hbc (by omega)) rfl rfl rfl (by decide) (Hq [2] rfl) rfl ?_
   rw [liftE_code hco]
   rintro _ _ _ ⟨W1, M1, L1, l1, rfl, rfl, rfl⟩
   refine L.norm (H' := [_, _, _]) [0, 1, 2] ⟨rfl, rfl, rfl, trivial⟩ (by decide) ?_; refine Lpu rfl rfl ?_; refine Lpu rfl rfl ?_; refine Lpu rfl rfl ?_
   refine L.alloc rfl rfl rfl (fun A8 => ?_)
   refine L.storeA (j := 3) rfl rfl rfl rfl rfl (Nat.zero_lt_succ _) rfl rfl ?_; refine Lpu rfl rfl ?_; refine L.nil (QE.seq (C.seq (C.seq ?_))); refine C.freeze 0 rfl [1, 2, 3] (by decide) (by decide) ?_; refine C.norm (H' := [_, _, _]) [0, 1, 2] ⟨rfl, rfl, rfl, trivial⟩ (by decide) ?_; refine C.freeze 0 rfl [1, 2] (by decide) (by decide) ?_; refine C.norm (H' := [_, _]) [0, 1] ⟨rfl, rfl, trivial⟩ (by decide) ?_; refine C.freeze 0 rfl [1] (by decide) (by decide) ?_; refine C.norm (H' := [_]) [0] ⟨rfl, trivial⟩ (by decide) ?_; refine C.region ?_; refine Lpu rfl rfl ?_; refine Lpu rfl rfl ?_; refine L.nil (QE.seq ?_)
   refine C.condB 28 rfl (fun hc28 => ?_) (fun hc28 => ?_)
   ·
    replace hc28 := b_ne hc28
    exact absurd rfl hc28
   ·
    replace hc28 := b_eq hc28
    refine C.skip (QE.seq (C.region ?_)); refine L.step (Ev.loadA (vs := [.slice W1 (liftR old).ws.length (liftR old).ws.length, .slice M1 (liftR old).ms.length (liftR old).ms.length, .slice L1 (liftR old).ls.length l1]) rfl rfl rfl (Src.o 0 rfl) rfl rfl (by decide)) rfl ?_; refine L.call (js := []) (js' := [0]) (form_c W1 M1 L1 (liftR old).ws.length (liftR old).ms.length l1 (liftR old) (by omega) (by omega) (by omega) (liftR_w32 old) (Nat.le_refl _) liftR_asc) rfl rfl rfl (by decide) (Hq [2, 1, 0] rfl) rfl ?_
    rintro _ _ _ ⟨F1, f1, rfl, rfl, rfl⟩
    refine L.norm (H' := [_, _]) [0, 1] ⟨rfl, rfl, trivial⟩ (by decide) ?_; refine Lpu rfl rfl ?_; refine L.nil (QE.seq (C.seq (C.seq ?_))); refine C.freeze 0 rfl [1] (by decide) (by decide) ?_; refine C.norm (H' := [_]) [0] ⟨rfl, trivial⟩ (by decide) ?_; refine C.region ?_; refine Lpu rfl rfl ?_; refine Lpu rfl rfl ?_; refine L.step (Ev.fieldAddr rfl rfl rfl rfl rfl rfl (Src.r 5 rfl) (Nat.zero_lt_succ _) rfl) rfl ?_; refine L.step (Ev.load rfl rfl rfl (Src.r 5 rfl) rfl) rfl ?_; refine Lpu rfl rfl ?_; refine L.nil (QE.seq ?_)
    refine C.condB 35 rfl (fun hc35 => ?_) (fun hc35 => ?_)
    ·
     replace hc35 := b_ne hc35
     omega
    ·
     replace hc35 := b_eq hc35
     refine C.skip (QE.seq (C.seq (C.region ?_))); refine Lpu rfl rfl ?_; refine Lpu rfl rfl ?_; refine L.call (js := []) (js' := [0]) (runQ_c F1 SA (formF (liftR old)) (sysQ inn out ops) f1 sc (by have := hr.2; omega) hr.1) rfl rfl rfl (by decide) (Hq [0, 4] rfl) rfl ?_
     rw [hsr, hrun]
     rintro _ _ _ ⟨YA, yc, rfl, rfl, rfl⟩
     refine L.norm (H' := [_, _]) [0, 1] ⟨rfl, rfl, trivial⟩ (by decide) ?_; refine Lpu rfl rfl ?_; refine Lpu rfl rfl ?_; refine Lpu rfl rfl ?_; refine Lpu rfl rfl ?_; refine Lpu rfl rfl ?_; refine L.nil (QE.seq (C.seq (C.seq (C.region ?_)))); refine Lpu rfl rfl ?_; refine Lpu rfl rfl ?_; refine Lpu rfl rfl ?_
     refine L.bool 44 rfl (fun hg44 => ?_) (fun hg44 => ?_)
     ·
      replace hg44 := b_ne hg44
      exact absurd rfl hg44
     ·
      replace hg44 := b_eq hg44
      refine L.yes rfl ?_; refine L.step (Ev.fieldAddr rfl rfl rfl rfl rfl rfl (Src.r 5 rfl) (Nat.zero_lt_succ _) rfl) rfl ?_; refine L.yes rfl ?_; refine L.step (Ev.cast (u := .bool true) (Ev.load rfl rfl rfl (Src.r 5 rfl) rfl) (congrArg Value.bool hlf)) rfl ?_; refine L.yes rfl ?_; refine Lpu rfl rfl ?_; refine Lpu rfl rfl ?_; refine L.nil (QE.seq ?_)
      refine C.condB 48 rfl (fun hc48 => ?_) (fun hc48 => ?_)
      ·
       cases hc48
      ·
       refine C.skip (QE.seq (C.seq ?_))
       refine C.capO 0 rfl (fun hyc => ?_)
       refine C.freeze 0 rfl [1] (by decide) (by decide) ?_; refine C.norm (H' := [_]) [0] ⟨rfl, trivial⟩ (by decide) ?_; refine C.region ?_; refine Lpu rfl rfl ?_; refine L.call (js := []) (js' := [0]) (read_c YA (formF (liftR new)) yc hyc (by omega)) rfl rfl rfl (by decide) (Hq [0] rfl) rfl ?_
       rw [hrd.1, hrd.2]
       rintro _ _ _ ⟨W2, M2, L2, w2, m2, l2, rfl, rfl, rfl⟩
       refine L.norm (H' := [_, _, _, _]) [0, 1, 2, 3] ⟨rfl, rfl, rfl, rfl, trivial⟩ (by decide) ?_; refine Lpu rfl rfl ?_; refine Lpu rfl rfl ?_; refine Lpu rfl rfl ?_
       refine L.alloc rfl rfl rfl (fun A11 => ?_)
       refine L.storeA (j := 4) rfl rfl rfl rfl rfl (Nat.zero_lt_succ _) rfl rfl ?_; refine Lpu rfl rfl ?_; refine L.nil (QE.seq (C.seq (C.seq ?_))); refine C.freeze 0 rfl [1, 2, 3, 4] (by decide) (by decide) ?_; refine C.norm (H' := [_, _, _, _]) [0, 1, 2, 3] ⟨rfl, rfl, rfl, rfl, trivial⟩ (by decide) ?_; refine C.freeze 0 rfl [1, 2, 3] (by decide) (by decide) ?_; refine C.norm (H' := [_, _, _]) [0, 1, 2] ⟨rfl, rfl, rfl, trivial⟩ (by decide) ?_; refine C.freeze 0 rfl [1, 2] (by decide) (by decide) ?_; refine C.norm (H' := [_, _]) [0, 1] ⟨rfl, rfl, trivial⟩ (by decide) ?_; refine C.region ?_; refine Lpu rfl rfl ?_; refine Lpu rfl rfl ?_; refine L.nil (QE.seq ?_)
       refine C.condB 57 rfl (fun hc57 => ?_) (fun hc57 => ?_)
       ·
        replace hc57 := b_ne hc57
        exact absurd rfl hc57
       ·
        replace hc57 := b_eq hc57
        refine C.skip (QE.seq (C.seq (C.region ?_))); refine L.step (Ev.loadA (vs := [.slice W2 (liftR new).ws.length w2, .slice M2 (liftR new).ms.length m2, .slice L2 (liftR new).ls.length l2]) rfl rfl rfl (Src.o 1 rfl) rfl rfl (by decide)) rfl ?_; refine L.call (js := []) (js' := [0, 1]) (lower_c W2 M2 L2 w2 m2 l2 (liftR new) (by omega) (by omega) (by omega) (liftR_w32 new)) rfl rfl rfl (by decide) (Hq [2, 1, 0] rfl) rfl ?_
        rw [hlw.1, hlw.2]
        rintro _ _ _ ⟨ZA, zc, rfl, rfl, rfl⟩
        refine L.norm (H' := [_, _, _]) [0, 1, 2] ⟨rfl, rfl, rfl, trivial⟩ (by decide) ?_; refine Lpu rfl rfl ?_; refine Lpu rfl rfl ?_; refine Lpu rfl rfl ?_; refine Lpu rfl rfl ?_; refine L.nil (QE.seq (C.ret ?_)); refine QE.ret (js := []) (hs := [0]) (vs := [_, _]) rfl ⟨rfl, rfl, trivial⟩ (by decide) ?_
        exact ⟨ZA, zc, rfl, rfl, rfl⟩
  ·
   cases hc21

theorem madeL_c (B C_ : Option Addr) (old new : List UInt8) (bc cc : Nat) (lf : Bool) (inn out : Int) (ops : List Pq) (OA : Option Addr) (oc : Nat) (hops : ops.length ≤ 9223372036854775807) (hlf : lf = true) (hco : codeB old) (hcn : codeB new) (hbc : old.length ≤ bc) (hE : chkP inn out ops = 0) (hin : inn = ((foF old).length : Int)) (hrun : outsQ (foF old) ops = foF new) :
   Ctr X 22 [.agg (List.toArray [.bool lf, .int .i64 inn, .int .i64 out, .slice OA ops.length oc]), .slice B old.length bc, .slice C_ new.length cc] [Rd B (U8 old), Rd C_ (U8 new), Rd OA (pqV ops), KidsR (pqH ops) (B8 (pqD ops))] [] (fun v R' H' => v = .bool true ∧ R' = [] ∧ H' = []) := by
 refine Ctr.of (X := X) (fn := Tryz.f22) Tryz.func22 rfl (by kernel_rfl) rfl ?_
 intro β
 refine C.seq (C.region ?_)
 refine L.boxA rfl rfl (fun A3 => ?_)
 refine Lpu rfl rfl ?_; refine L.nil (QE.seq (C.seq (C.seq ?_))); refine C.freeze 0 rfl [] (by decide) (by decide) ?_; refine C.region ?_; refine L.step (Ev.loadA (vs := [.bool lf, .int .i64 inn, .int .i64 out, .slice OA ops.length oc]) rfl rfl rfl (Src.r 0 rfl) rfl rfl (by decide)) rfl ?_; refine L.call (js := []) (js' := []) (Ctr.tbM true (right06Q_c lf inn out ops OA oc hops) (by rw [hE]; rfl)) rfl rfl rfl (by decide) (Hq [3] rfl) rfl ?_
 rintro _ _ _ ⟨rfl, rfl, rfl⟩
 refine Lpu rfl rfl ?_; refine L.nil (QE.seq ?_)
 refine C.cond rfl (fun h => by cases h) (fun _ => ?_)
 refine C.skip (QE.seq (C.seq (C.region ?_))); refine Lpu rfl rfl ?_; refine L.step (Ev.loadA (vs := [.bool lf, .int .i64 inn, .int .i64 out, .slice OA ops.length oc]) rfl rfl rfl (Src.r 0 rfl) rfl rfl (by decide)) rfl ?_; refine L.call (js := []) (js' := []) (applyL_c B old new bc lf inn out ops OA oc hops hlf hco hcn hbc hE hin hrun) rfl rfl rfl (by decide) (Hq [1, 3, 4] rfl) rfl ?_
 rintro _ _ _ ⟨YA, yc, rfl, rfl, rfl⟩
 refine L.norm (H' := [_]) [0] ⟨rfl, trivial⟩ (by decide) ?_; refine Lpu rfl rfl ?_; refine Lpu rfl rfl ?_; refine Lpu rfl rfl ?_; refine Lpu rfl rfl ?_; refine Lpu rfl rfl ?_; refine L.nil (QE.seq (C.seq (C.region ?_))); refine Lpu rfl rfl ?_; refine Lpu rfl rfl ?_; refine Lpu rfl rfl ?_
 refine L.bool 20 rfl (fun hg20 => ?_) (fun hg20 => ?_)
 ·
  replace hg20 := i_eq hg20
  refine L.yes rfl ?_; refine Lpu rfl rfl ?_; refine L.yes rfl ?_; refine L.step (Ev.toStr rfl rfl rfl rfl rfl rfl rfl (Src.o 0 rfl)) rfl ?_; refine L.yes rfl ?_; refine Lpu rfl rfl ?_; refine L.yes rfl ?_; refine L.step (Ev.toStr rfl rfl rfl rfl rfl rfl rfl (Src.r 2 rfl)) rfl ?_; refine L.yes rfl ?_; refine L.step (Ev.cast (u := .bool true) (Ev.eqStr rfl rfl) (by simp)) rfl ?_; refine Lpu rfl rfl ?_; refine Lpu rfl rfl ?_; refine L.nil (QE.seq (C.ret ?_)); refine QE.ret (js := []) (hs := []) (vs := [_]) rfl ⟨rfl, trivial⟩ (by decide) ?_
  exact ⟨rfl, rfl, rfl⟩
 ·
  replace hg20 := i_ne hg20
  exact absurd rfl hg20

end Go.Proofs.YtbkmahjhhncfcaaGreat
end
/-
  The better one of two patches; the quotient of bytes.
-/
section
namespace Go.Sl

section
variable {X : Cx} {β : Base} {Γ : Env} {R H : List Pr}
end
def bstN (old new : List UInt8) : Nat := if betB old new = true then refL (foF old) (foF new) else refL old new
theorem BsOk.cost {old new : List UInt8} {x : Cd} (h : BsOk old new x) : cosL x.l = (bstN old new : Int) := by
 unfold bstN
 cases hb : betB old new with
 | true => rw [if_pos rfl]; exact (h.yes hb).mq.cost
 | false => rw [if_neg (by decide)]; exact (h.no hb).mq.cost
theorem BsOk.lf {old new : List UInt8} {x : Cd} (h : BsOk old new x) : x.lf = betB old new := by
 cases hb : betB old new with
 | true => exact (h.yes hb).lf
 | false => exact (h.no hb).lf
theorem BsOk.chk {old new : List UInt8} {x : Cd} (h : BsOk old new x) : chkP x.inn x.out x.l = 0 := by
 cases hb : betB old new with
 | true => exact (h.yes hb).chk
 | false => exact (h.no hb).chk
end Go.Sl
end
/-
  What the form of moved code costs.
-/
section
namespace Go.Sl

def ptC (x : Bool × List UInt8) : Nat := if x.1 = true then 4 else 2 + x.2.length
def ptL (ps : List (Bool × List UInt8)) : List UInt8 := ps.flatMap Prod.snd
def ptS (ps : List (Bool × List UInt8)) : Nat := (ps.map ptC).sum
def ptOk (old : List UInt8) (x : Bool × List UInt8) : Prop := x.1 = true → x.2 <:+: old ∨ ∃ b, x.2 = List.replicate x.2.length b
theorem dp_part {old new pre rest : List UInt8} {D : Nat → Nat} {x : Bool × List UInt8} (h : DpOk (alN old new) D new.length) (he : new = pre ++ (x.2 ++ rest)) (hx : ptOk old x) : D (pre.length + x.2.length) ≤ D pre.length + ptC x := by
 have hl : new.length = pre.length + (x.2.length + rest.length) := by rw [he, List.length_append, List.length_append]
 by_cases h0 : x.2.length = 0
 · rw [h0, Nat.add_zero]
   omega
 · unfold ptC
   split
   · rename_i hb
     have hseg : segN new pre.length (pre.length + x.2.length) = x.2 := by
       unfold segN
       rw [he, ← List.append_assoc, List.take_append_of_le_length (by rw [List.length_append]; omega), List.take_of_length_le (by rw [List.length_append]; omega), List.drop_left]
     refine h.piece _ _ (by omega) (by omega) ?_
     rcases hx hb with hi | ⟨b, hr⟩
     · exact .inl (by rw [hseg]; exact hi)
     · refine .inr fun j j1 j2 => ?_
       have hg : ∀ i, pre.length ≤ i → i < pre.length + x.2.length → new.getD i 0 = b := fun i i1 i2 => by
         rw [he, List.getD_eq_getElem?_getD, List.getElem?_append_right i1, List.getElem?_append_left (by omega), hr, List.getElem?_replicate, if_pos (by omega)]
         rfl
       rw [hg j j1 j2, hg _ (Nat.le_refl _) (by omega)]
   · have := h.lit pre.length (pre.length + x.2.length) (by omega) (by omega)
     omega
theorem dp_parts {old new : List UInt8} {D : Nat → Nat} (h : DpOk (alN old new) D new.length) : ∀ (ps : List (Bool × List UInt8)) (pre : List UInt8), new = pre ++ ptL ps → (∀ x ∈ ps, ptOk old x) → D new.length ≤ D pre.length + ptS ps
 | [], pre, he, _ => by
   have : new = pre := by rw [he]; exact List.append_nil pre
   rw [this]
   exact Nat.le_add_right _ _
 | x :: ps, pre, he, hp => by
   have e : ptL (x :: ps) = x.2 ++ ptL ps := rfl
   have h1 := dp_part h (by rw [he, e]) (hp x (by simp))
   have h2 := dp_parts h ps (pre ++ x.2) (by rw [he, e, List.append_assoc]) fun y hy => hp y (by simp [hy])
   rw [List.length_append] at h2
   have h3 : ptS (x :: ps) = ptC x + ptS ps := by simp [ptS]
   omega
theorem ref_parts {old new : List UInt8} (ps : List (Bool × List UInt8)) (he : new = ptL ps) (hp : ∀ x ∈ ps, ptOk old x) : refL old new ≤ ptS ps := by
 have h := dp_parts (ref_dp old new) ps [] (by rw [he]; rfl) hp
 have h0 := (ref_dp old new).zero
 try dsimp only at h h0
 unfold refL
 rw [show ([] : List UInt8).length = 0 from rfl] at h
 omega
theorem flat_congr {α β : Type} {f g : α → List β} : ∀ {l : List α}, (∀ a ∈ l, f a = g a) → l.flatMap f = l.flatMap g
 | [], _ => rfl
 | a :: l, h => by rw [List.flatMap_cons, List.flatMap_cons, h a (by simp), flat_congr (l := l) fun b hb => h b (by simp [hb])]
/-! ### Labels -/
def labsR (ls : List Int) (c k : Nat) : List UInt8 := (List.range' c k).flatMap fun i => twoB (difL ls i)
theorem labs_cut (ls : List Int) {c k : Nat} (h : c < k) : labsB ls k = labsB ls c ++ (twoB (difL ls c) ++ labsR ls (c + 1) (k - (c + 1))) := by
 unfold labsB labsR
 have e : List.range k = List.range c ++ (c :: List.range' (c + 1) (k - (c + 1))) := by
   rw [List.range_eq_range', List.range_eq_range', ← List.range'_succ, show k - (c + 1) + 1 = k - c by omega]
   have := List.range'_append_1 (s := 0) (m := c) (n := k - c)
   rw [Nat.zero_add, show c + (k - c) = k by omega] at this
   exact this.symm
 rw [e, List.flatMap_append, List.flatMap_cons]
theorem asc_mono {ls : List Int} (h : ascL ls) : ∀ (d i : Nat), i + d < ls.length → ls.getD i 0 ≤ ls.getD (i + d) 0
 | 0, _, _ => Int.le_refl _
 | d + 1, i, hi => by
   have h1 := asc_mono h d i (by omega)
   have h2 := (h (i + (d + 1)) hi).2.1
   unfold prevL at h2
   rw [if_neg (by omega), show i + (d + 1) - 1 = i + d by omega] at h2
   omega
/-- The first label that moves. -/
theorem lab_first (ls : List Int) (z : Int) : ∃ c, c ≤ ls.length ∧ (∀ i, i < c → ls.getD i 0 < z) ∧ (c < ls.length → z ≤ ls.getD c 0) := by
 have key : ∀ n, n ≤ ls.length → ∃ c, c ≤ n ∧ (∀ i, i < c → ls.getD i 0 < z) ∧ (c < n → z ≤ ls.getD c 0) := by
   intro n
   induction n with
   | zero => exact fun _ => ⟨0, Nat.le_refl _, fun i hi => absurd hi (Nat.not_lt_zero i), fun h => absurd h (Nat.lt_irrefl 0)⟩
   | succ n ih =>
     intro hn
     obtain ⟨c, h1, h2, h3⟩ := ih (by omega)
     by_cases e : c = n
     · subst e
       by_cases g : ls.getD c 0 < z
       · exact ⟨c + 1, Nat.le_refl _, fun i hi => by
           by_cases e : i = c
           · rw [e]; exact g
           · exact h2 i (by omega), fun h => absurd h (Nat.lt_irrefl _)⟩
       · exact ⟨c, by omega, h2, fun _ => by omega⟩
     · exact ⟨c, by omega, h2, fun _ => h3 (by omega)⟩
 exact key ls.length (Nat.le_refl _)
theorem map_getD (ls : List Int) (p q : Nat) {i : Nat} (h : i < ls.length) : (ls.map (mvN p q)).getD i 0 = mvN p q (ls.getD i 0) := by
 simp [List.getD_eq_getElem?_getD, h]
theorem dif_low {ls : List Int} {p q c i : Nat} (hc : c ≤ ls.length) (hlo : ∀ i, i < c → ls.getD i 0 < 4 * (p : Int)) (hi : i < c) : difL (ls.map (mvN p q)) i = difL ls i := by
 have h1 := hlo i hi
 have e1 : (ls.map (mvN p q)).getD i 0 = ls.getD i 0 := by
   rw [map_getD ls p q (by omega), mvN, if_neg (by omega)]
 have e2 : prevL (ls.map (mvN p q)) i = prevL ls i := by
   unfold prevL
   by_cases h0 : i = 0
   · rw [if_pos h0, if_pos h0]
   · have := hlo (i - 1) (by omega)
     rw [if_neg h0, if_neg h0, map_getD ls p q (by omega), mvN, if_neg (by omega)]
 unfold difL
 rw [e1, e2]
theorem dif_high {ls : List Int} {p q c i : Nat} (hhi : ∀ i, c ≤ i → i < ls.length → 4 * (p : Int) ≤ ls.getD i 0) (hi : c < i) (hl : i < ls.length) : difL (ls.map (mvN p q)) i = difL ls i := by
 have h1 := hhi i (by omega) hl
 have h2 := hhi (i - 1) (by omega) (by omega)
 have e1 : (ls.map (mvN p q)).getD i 0 = ls.getD i 0 + 4 * (q : Int) := by
   rw [map_getD ls p q hl, mvN, if_pos (by omega)]
 have e2 : prevL (ls.map (mvN p q)) i = prevL ls i + 4 * (q : Int) := by
   unfold prevL
   rw [if_neg (by omega), if_neg (by omega), map_getD ls p q (by omega), mvN, if_pos (by omega)]
 unfold difL
 rw [e1, e2]
 congr 2
 omega
theorem labs_low {ls : List Int} {p q c : Nat} (hc : c ≤ ls.length) (hlo : ∀ i, i < c → ls.getD i 0 < 4 * (p : Int)) : labsB (ls.map (mvN p q)) c = labsB ls c := by
 unfold labsB
 refine flat_congr fun i hi => ?_
 rw [dif_low hc hlo (List.mem_range.1 hi)]
theorem labs_high {ls : List Int} {p q c : Nat} (hhi : ∀ i, c ≤ i → i < ls.length → 4 * (p : Int) ≤ ls.getD i 0) : labsR (ls.map (mvN p q)) (c + 1) (ls.length - (c + 1)) = labsR ls (c + 1) (ls.length - (c + 1)) := by
 unfold labsR
 refine flat_congr fun i hi => ?_
 have := List.mem_range'_1.1 hi
 rw [dif_high hhi (by omega) (by omega)]
/-! ### The bound -/
theorem infix_mid {α : Type} (a b c : List α) : b <:+: a ++ (b ++ c) := ⟨a, c, by rw [List.append_assoc]⟩
theorem bytes_zero (q : Nat) : bytesF (List.replicate q 0) = List.replicate (bytesF (List.replicate q 0)).length 0 := by
 rw [bytesF_len, List.length_replicate]
 induction q with
 | zero => rfl
 | succ q ih =>
   rw [List.replicate_succ, show bytesF (0 :: List.replicate q 0) = b4 0 ++ bytesF (List.replicate q 0) from rfl, ih, show 4 * (q + 1) = 4 + 4 * q by omega, ← List.replicate_append_replicate]
   rfl
theorem mov_cost {x : Lf} (hasc : ascL x.ls) (hm : x.ms.length = x.ws.length) {p q : Nat} (hp : p ≤ x.ws.length) : refL (formF x) (formF (moveF x p q)) ≤ 30 + (x.ws.length + q + 7) / 8 := by
 have hl := moveF_lens x (at_ := p) (by_ := q) hp hm
 obtain ⟨c, hc, hlo, hfi⟩ := lab_first x.ls (4 * (p : Int))
 have hhi : ∀ i, c ≤ i → i < x.ls.length → 4 * (p : Int) ≤ x.ls.getD i 0 := fun i h1 h2 => by
   have := asc_mono hasc (i - c) c (by omega)
   rw [show c + (i - c) = i by omega] at this
   have := hfi (by omega)
   omega
 have hb : bytesF (moveF x p q).ws = bytesF (x.ws.take p) ++ (bytesF (List.replicate q 0) ++ bytesF (x.ws.drop p)) := by
   show bytesF (x.ws.take p ++ List.replicate q 0 ++ x.ws.drop p) = _
   rw [bytesF_app, bytesF_app, List.append_assoc]
 have hbo : bytesF x.ws = bytesF (x.ws.take p) ++ bytesF (x.ws.drop p) := by rw [← bytesF_app, List.take_append_drop]
 have hml : (marksB (moveF x p q).ms).length = (x.ws.length + q + 7) / 8 := by
   unfold marksB
   rw [marksN_len, hl.2.1, hm]
 have hK : (moveF x p q).ls.length = x.ls.length := hl.2.2
 have hls : (moveF x p q).ls = x.ls.map (mvN p q) := rfl
 have z := bytes_zero q
 rcases Nat.lt_or_ge c x.ls.length with hk | hk
 · have h1 := labs_cut x.ls hk
   have h2 : labsB (moveF x p q).ls x.ls.length = labsB x.ls c ++ (twoB (difL (moveF x p q).ls c) ++ labsR x.ls (c + 1) (x.ls.length - (c + 1))) := by
     rw [labs_cut _ hk, hls, labs_low hc hlo, labs_high hhi]
   have h := ref_parts (old := formF x) (new := formF (moveF x p q)) [(false, twoB (moveF x p q).ws.length), (true, twoB x.ls.length ++ labsB x.ls c), (false, twoB (difL (moveF x p q).ls c)), (true, labsR x.ls (c + 1) (x.ls.length - (c + 1))), (false, marksB (moveF x p q).ms), (true, bytesF (x.ws.take p)), (true, bytesF (List.replicate q 0)), (true, bytesF (x.ws.drop p))] (by
     show formH (moveF x p q) ++ labsB (moveF x p q).ls (moveF x p q).ls.length ++ marksB (moveF x p q).ms ++ bytesF (moveF x p q).ws = _
     rw [hK, h2, hb]
     unfold formH
     rw [hK]
     simp [ptL, List.append_assoc]) ?_
   · have e : ptS [(false, twoB (moveF x p q).ws.length), (true, twoB x.ls.length ++ labsB x.ls c), (false, twoB (difL (moveF x p q).ls c)), (true, labsR x.ls (c + 1) (x.ls.length - (c + 1))), (false, marksB (moveF x p q).ms), (true, bytesF (x.ws.take p)), (true, bytesF (List.replicate q 0)), (true, bytesF (x.ws.drop p))] = 28 + (2 + (marksB (moveF x p q).ms).length) := by
       simp [ptS, ptC, twoB_len]
       omega
     rw [e, hml] at h
     omega
   · have hF : formF x = twoB x.ws.length ++ ((twoB x.ls.length ++ labsB x.ls c) ++ (twoB (difL x.ls c) ++ (labsR x.ls (c + 1) (x.ls.length - (c + 1)) ++ (marksB x.ms ++ (bytesF (x.ws.take p) ++ bytesF (x.ws.drop p)))))) := by
       unfold formF formH
       rw [h1, hbo]
       simp only [List.append_assoc]
     intro y hy
     simp only [List.mem_cons, List.not_mem_nil, or_false] at hy
     rcases hy with rfl | rfl | rfl | rfl | rfl | rfl | rfl | rfl <;> intro hb' <;> try (exact absurd hb' Bool.false_ne_true)
     · left; rw [hF]; exact infix_mid _ _ _
     · left; rw [hF]; exact ⟨twoB x.ws.length ++ ((twoB x.ls.length ++ labsB x.ls c) ++ twoB (difL x.ls c)), _, by simp only [List.append_assoc]; rfl⟩
     · left; rw [hF]; exact ⟨twoB x.ws.length ++ ((twoB x.ls.length ++ labsB x.ls c) ++ (twoB (difL x.ls c) ++ (labsR x.ls (c + 1) (x.ls.length - (c + 1)) ++ marksB x.ms))), _, by simp only [List.append_assoc]; rfl⟩
     · right; exact ⟨0, z⟩
     · left; rw [hF]; exact ⟨twoB x.ws.length ++ ((twoB x.ls.length ++ labsB x.ls c) ++ (twoB (difL x.ls c) ++ (labsR x.ls (c + 1) (x.ls.length - (c + 1)) ++ (marksB x.ms ++ bytesF (x.ws.take p))))), [], by simp only [List.append_assoc, List.append_nil]⟩
 · have hcK : c = x.ls.length := by omega
   have h2 : labsB (moveF x p q).ls x.ls.length = labsB x.ls x.ls.length := by
     rw [hls]
     have := labs_low (p := p) (q := q) hc hlo
     rwa [hcK] at this
   have h := ref_parts (old := formF x) (new := formF (moveF x p q)) [(false, twoB (moveF x p q).ws.length), (true, twoB x.ls.length ++ labsB x.ls x.ls.length), (false, marksB (moveF x p q).ms), (true, bytesF (x.ws.take p)), (true, bytesF (List.replicate q 0)), (true, bytesF (x.ws.drop p))] (by
     show formH (moveF x p q) ++ labsB (moveF x p q).ls (moveF x p q).ls.length ++ marksB (moveF x p q).ms ++ bytesF (moveF x p q).ws = _
     rw [hK, h2, hb]
     unfold formH
     rw [hK]
     simp [ptL, List.append_assoc]) ?_
   · have e : ptS [(false, twoB (moveF x p q).ws.length), (true, twoB x.ls.length ++ labsB x.ls x.ls.length), (false, marksB (moveF x p q).ms), (true, bytesF (x.ws.take p)), (true, bytesF (List.replicate q 0)), (true, bytesF (x.ws.drop p))] = 20 + (2 + (marksB (moveF x p q).ms).length) := by
       simp [ptS, ptC, twoB_len]
       omega
     rw [e, hml] at h
     omega
   · have hF : formF x = twoB x.ws.length ++ ((twoB x.ls.length ++ labsB x.ls x.ls.length) ++ (marksB x.ms ++ (bytesF (x.ws.take p) ++ bytesF (x.ws.drop p)))) := by
       unfold formF formH
       rw [hbo]
       simp only [List.append_assoc]
     intro y hy
     simp only [List.mem_cons, List.not_mem_nil, or_false] at hy
     rcases hy with rfl | rfl | rfl | rfl | rfl | rfl <;> intro hb' <;> try (exact absurd hb' Bool.false_ne_true)
     · left; rw [hF]; exact infix_mid _ _ _
     · left; rw [hF]; exact ⟨twoB x.ws.length ++ ((twoB x.ls.length ++ labsB x.ls x.ls.length) ++ marksB x.ms), _, by simp only [List.append_assoc]; rfl⟩
     · right; exact ⟨0, z⟩
     · left; rw [hF]; exact ⟨twoB x.ws.length ++ ((twoB x.ls.length ++ labsB x.ls x.ls.length) ++ (marksB x.ms ++ bytesF (x.ws.take p))), [], by simp only [List.append_assoc, List.append_nil]⟩
theorem movC_30 {b : List UInt8} {p q : Int} (h : ¬ movC b p q = 0) : movC b p q = 30 := by
 unfold movC at h ⊢
 split
 · rename_i hok
   rw [if_pos hok] at h
   unfold lowC at h ⊢
   split
   · rename_i hs
     rw [if_pos hs] at h
     exact absurd rfl h
   · rfl
 · rfl
theorem mov_bound {b : List UInt8} {p q : Nat} (h : movC b (p : Int) (q : Int) = 0) : (refL (foF b) (foF (movB b (p : Int) (q : Int))) : Int) ≤ 30 + (((b.length / 4 + q + 7) / 8 : Nat) : Int) := by
 obtain ⟨h1, _, hok, _⟩ := mov_lift h
 have hl := lift_len hok.1
 have h2 := mov_cost (x := liftR b) liftR_asc (liftR_marks b) (p := p) (q := q) (by have := hok.2.2.1; omega)
 unfold foF
 rw [h1]
 rw [hl.1] at h2
 exact_mod_cast h2
end Go.Sl
end
