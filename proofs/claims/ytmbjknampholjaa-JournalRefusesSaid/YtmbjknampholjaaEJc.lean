/-
  The journal's examples, evaluated.
-/
import Derived.Test.YtmbjknampholjaaEJb
namespace Go.Sl

def Z9 : List Int := [0, 0, 0, 0, 0, 0, 0, 0, 0]
def st1 : List Int := [0, 258, 0, 0, 0, 0, 0, 0, 0]
def sb1 : List Int := [0, 0, 1, 0, 0, 0, 0, 0, 0]
def sng : List Int := [0, -1, 0, 0, 0, 0, 0, 0, 0]
def zslot : List UInt8 := [0, 255, 0, 255, 0, 255, 0, 255, 0, 255, 0, 255, 0, 255, 0, 255, 0, 255, 0, 255, 0, 255, 0, 255, 0, 255, 0, 255, 0, 255]
def stslot : List UInt8 := [0, 255, 1, 254, 2, 253, 0, 255, 0, 255, 0, 255, 0, 255, 0, 255, 0, 255, 0, 255, 0, 255, 0, 255, 0, 255, 0, 255, 0, 255]
def sbslot : List UInt8 := [0, 255, 0, 255, 0, 255, 1, 254, 0, 255, 0, 255, 0, 255, 0, 255, 0, 255, 0, 255, 0, 255, 0, 255, 0, 255, 0, 255, 0, 255]
def exS : Fl := ⟨68, List.replicate 2 (List.replicate 68 255), List.replicate 2 0, 9, List.replicate 2 false⟩
def exG : Fl := (formatF exS 0 1 Z9).1
def exA : Nx := ⟨⟨2, 0, 38, stslot⟩, false, 0⟩
def exH : Fl := cutR exG ⟨2, 0, 38, stslot⟩ (fun _ => 255)
def exB : Nx := ⟨⟨2, 1, 0, contF 68 0 sbslot⟩, false, 0⟩
def exJ : Fl := cutR exH ⟨2, 1, 0, contF 68 0 sbslot⟩ (fun _ => 255)
def exC : Nx := ⟨⟨2, 1, 0, [0, 255, 0, 255, 0, 255, 2, 253]⟩, false, 0⟩
theorem ex1 : (formatF exS 0 1 Z9).2 = 0 := by kernel_rfl
theorem ex2 : (readF exS 0 1).2.2 = 200 := by kernel_rfl
theorem ex3 : readF exG 0 1 = (Z9, 0, 0) := by kernel_rfl
theorem ex4 : slotF Z9 = zslot := by kernel_rfl
theorem ex5 : nextF exG 0 1 st1 = exA := by kernel_rfl
theorem ex6 : checkE exG ⟨2, 0, 38, stslot⟩ = 0 := by kernel_rfl
theorem ex7 : nextF exH 0 1 sb1 = exB := by kernel_rfl
theorem ex8 : checkE exH ⟨2, 1, 0, contF 68 0 sbslot⟩ = 0 := by kernel_rfl
theorem ex9 : nextF exJ 0 1 sb1 = exC := by kernel_rfl
theorem ex10 : slotF sng = [] := by kernel_rfl
theorem ex11 : (nextF exJ 0 1 st1).done = true := by kernel_rfl
theorem exG_size : exG.size = 68 := by kernel_rfl
theorem exG_len : exG.data.length = 2 := by kernel_rfl
theorem exS_ok : exS.Ok := by
 refine ⟨by decide, by decide, by decide, by decide, rfl, rfl, fun i hi => ?_, by decide, by decide, fun i hi => ?_⟩
 · match i, hi with
   | 0, _ => rfl
   | 1, _ => rfl
 · match i, hi with
   | 0, _ => decide
   | 1, _ => decide
theorem formatF_ok {f : Fl} {a b : Int} {s : List Int} (ok : f.Ok) (h : (formatF f a b s).2 = 0) : (formatF f a b s).1.Ok ∧ (formatF f a b s).1.size = f.size ∧ (formatF f a b s).1.data.length = f.data.length := by
 by_cases h0 : fitsF f a b = false ∨ rightS s = false
 · rw [formatF_1 h0] at h; cases h
 · have h1 : fitsF f a b = true := by cases hf : fitsF f a b with | true => rfl | false => exact absurd (.inl hf) h0
   have h2 : rightS s = true := by cases hf : rightS s with | true => rfl | false => exact absurd (.inr hf) h0
   have hft := fitsF_ok h1
   have hsl : 8 + (slotF s).length ≤ f.size := by have := slotF_len h2; omega
   have k1 := reachF_kept (sec := a) (want := contF f.size 1 (slotF s)) 3 f ok ⟨hft.2.1, hft.2.2.2.1⟩ (contF_len hsl)
   by_cases e1 : (reachF a (contF f.size 1 (slotF s)) 3 f).2 = 0
   · have r1 : reachF a (contF f.size 1 (slotF s)) 3 f = ((reachF a (contF f.size 1 (slotF s)) 3 f).1, 0) := Prod.ext rfl e1
     have k2 := reachF_kept (sec := b) (want := contF f.size 0 []) 3 (reachF a (contF f.size 1 (slotF s)) 3 f).1 k1.1 ⟨hft.2.2.1, by rw [k1.2.2]; exact hft.2.2.2.2.1⟩ (by rw [k1.2.1]; exact contF_len (by simp; omega))
     by_cases e2 : (reachF b (contF f.size 0 []) 3 (reachF a (contF f.size 1 (slotF s)) 3 f).1).2 = 0
     · rw [formatF_4 h1 h2 r1 (Prod.ext rfl e2)]
       exact ⟨k2.1, k2.2.1.trans k1.2.1, k2.2.2.trans k1.2.2⟩
     · rw [formatF_3 h1 h2 r1 rfl e2] at h
       exact absurd h e2
   · rw [formatF_2 h1 h2 rfl e1] at h
     exact absurd h e1
theorem exG_ok : exG.Ok := (formatF_ok exS_ok ex1).1
theorem exH_ok : exH.Ok := (cutR_kept exG_ok ex6 _).ok
theorem exJ_ok : exJ.Ok := (cutR_kept exH_ok ex8 _).ok
theorem zslot_step : ∀ k, k < 15 → zslot.take (2 * k) ++ [0, 255] = zslot.take (2 * (k + 1)) := by decide
def rs11 (r : List Int × Nat × Int) : List Int := [r.1.getD 0 0, r.1.getD 1 0, r.1.getD 2 0, r.1.getD 3 0, r.1.getD 4 0, r.1.getD 5 0, r.1.getD 6 0, r.1.getD 7 0, r.1.getD 8 0, (r.2.1 : Int), r.2.2]
/-- A state, made of nine bytes. -/
def madeS (r : List UInt8) : List Int := [((r.getD 0 0).toNat : Int), 257 * ((r.getD 1 0).toNat : Int), ((r.getD 2 0).toNat : Int), 16777216 * ((r.getD 3 0).toNat : Int), ((r.getD 4 0).toNat : Int), ((r.getD 5 0).toNat : Int), ((r.getD 6 0).toNat : Int), 256 + ((r.getD 7 0).toNat : Int), ((r.getD 8 0).toNat : Int)]
def y01 : Ly := ⟨0, 0, 1, 0, 0, none, 0, 0, none, 0, 0, none, 0, 0⟩
end Go.Sl
