/-
  Lines of proofs, by numbers: what is done is the default value of a hypothesis.
-/
import Derived.KernelRfl
set_option maxRecDepth 8000
set_option linter.all false
namespace Go.Sl
inductive Tg:Nat→Prop
  |k (n:Nat):Tg n
theorem Zt (n:Nat):Tg n:=Tg.k n
structure Xo (n:Nat)(Q P:Prop):Prop where
  h:Q→P
structure Zs (s:Nat)(Q P:Prop):Prop where
  h:Q→P
structure Bx (Q:Prop):Prop where
  h:Q
theorem Zom {n:Nat}{Q P:Prop}(h:Bx Q→P)(_b:Tg (n%16)):Xo n Q P:=⟨fun q=>h ⟨q⟩⟩
theorem Zop {n:Nat}{Q1 Q2 P:Prop}(h:Bx Q1→Bx Q2→P)(_b:Tg (n%16)):Xo n (Q1∧Q2) P:=⟨fun q=>h ⟨q.1⟩ ⟨q.2⟩⟩
theorem Zoz {n:Nat}{P:Prop}(h:P)(_b:Tg (n%16)):Xo n True P:=⟨fun _=>h⟩
theorem Zod {n:Nat}{Q P:Prop}(_b:Tg (n%16))(h:Xo (n/16) Q P):Xo n Q P:=⟨h.h⟩
theorem oa {P:Prop}(zh:P:=by kernel_rfl):P:=zh
theorem ob {P:Prop}(zh:P:=by decide):P:=zh
theorem oe {P:Prop}(zh:P:=by omega):P:=zh
theorem og {P:Prop}(zh:P:=by exact aA (rs:=[0]) (hs:=[0,1,2]) ⟨rfl,rfl,rfl,rfl,rfl,trivial⟩ ⟨rfl,trivial⟩ ⟨rfl,om,rfl,trivial⟩ ob):P:=zh
theorem oh {P:Prop}(zh:P:=by exact aA (rs:=[1]) (hs:=[0]) ⟨rfl,rfl,rfl,trivial⟩ ⟨rfl,trivial⟩ ⟨rfl,trivial⟩ ob):P:=zh
theorem om {P:Prop}(zh:P:=by rw [← Al (l:=l) (k:=k) oe,← hZ];rfl):P:=zh
theorem oo {P:Prop}(zh:P:=by rw [List.length_drop];omega):P:=zh
theorem ot {P:Prop}(zh:P:=by exact aA (rs:=[0,1,2,3,4,5,6,7,8,9,10,11,12,13,14,15]) (hs:=[0,1]) ⟨rfl,rfl,rfl,rfl,rfl,trivial⟩ ⟨rfl,rfl,rfl,rfl,rfl,rfl,rfl,rfl,rfl,rfl,rfl,rfl,rfl,rfl,rfl,rfl,trivial⟩ ⟨rfl,rfl,trivial⟩ ob):P:=zh
theorem ou {P:Prop}(zh:P:=by dsimp only;omega):P:=zh
theorem ov {P:Prop}(zh:P:=by exact aH oR):P:=zh
theorem ow {P:Prop}(zh:P:=by rw [bk oC,bF];omega):P:=zh
theorem ox {P:Prop}(zh:P:=by rw [bu];omega):P:=zh
theorem oy {P:Prop}(zh:P:=by rw [← ka hk];exact hk1):P:=zh
theorem oA {P:Prop}(zh:P:=by rw [bu,cz];decide):P:=zh
theorem oB {P:Prop}(zh:P:=by simp only [Nat.zero_add];rfl):P:=zh
theorem oC {P:Prop}(zh:P:=by rw [bF];exact hh):P:=zh
theorem oD {P:Prop}(zh:P:=by exact aA (rs:=[0,1]) (hs:=[]) ⟨rfl,rfl,rfl,trivial⟩ ⟨rfl,rfl,trivial⟩ trivial ob):P:=zh
theorem oE {P:Prop}(zh:P:=by show -1000000≤(x.n:Int)∧(x.n:Int)≤1000000;have:=x.n_le;omega):P:=zh
theorem oF {P:Prop}(zh:P:=by exact aA (rs:=[0,1,2,3,4]) (hs:=[0,3,1,2]) ⟨rfl,rfl,rfl,rfl,trivial⟩ ⟨rfl,rfl,rfl,rfl,rfl,trivial⟩ ⟨rfl,oB,oB,oB,trivial⟩ ob):P:=zh
theorem oG {P:Prop}(zh:P:=by exact aA (rs:=[0,1,2,3]) (hs:=[0,1]) ⟨rfl,rfl,rfl,rfl,rfl,rfl,rfl,rfl,rfl,trivial⟩ ⟨rfl,rfl,rfl,rfl,trivial⟩ ⟨(congrArg some OW),(congrArg some OW),trivial⟩ ob):P:=zh
theorem oH {P:Prop}(zh:P:=by exact aA (rs:=[0,1]) (hs:=[]) ⟨rfl,rfl,rfl,rfl,trivial⟩ ⟨rfl,rfl,trivial⟩ trivial ob):P:=zh
theorem oI {P:Prop}(zh:P:=by rw [aG];omega):P:=zh
theorem oJ {P:Prop}(zh:P:=by show _*1≤_;omega):P:=zh
theorem oK {P:Prop}(zh:P:=by exact aA (rs:=[0]) (hs:=[0,1,2]) ⟨rfl,rfl,rfl,rfl,rfl,trivial⟩ ⟨rfl,trivial⟩ ⟨rfl,(congrArg some (ax rfl OU)),(congrArg some (ax OU QG)),trivial⟩ ob):P:=zh
theorem oL {P:Prop}(zh:P:=by exact aA (rs:=[0,1,2,3,4,5,6,7,8,9]) (hs:=[]) ⟨rfl,rfl,rfl,rfl,rfl,trivial⟩ ⟨rfl,rfl,rfl,rfl,rfl,rfl,rfl,rfl,rfl,rfl,trivial⟩ trivial ob):P:=zh
theorem oM {P:Prop}(zh:P:=by exact aA (rs:=[0,1,2,3,4,5,6,7,8]) (hs:=[0,1,2]) ⟨rfl,rfl,rfl,rfl,rfl,rfl,trivial⟩ ⟨rfl,rfl,rfl,rfl,rfl,rfl,rfl,rfl,rfl,trivial⟩ ⟨rfl,rfl,rfl,trivial⟩ ob):P:=zh
theorem oN {P:Prop}(zh:P:=by exact aA (rs:=[0,1,2,3,4,5,6,7,8,9,10,11,12]) (hs:=[0,1,2,3,4,5]) ⟨rfl,rfl,rfl,rfl,rfl,rfl,rfl,rfl,rfl,trivial⟩ ⟨rfl,rfl,rfl,rfl,rfl,rfl,rfl,rfl,rfl,rfl,rfl,rfl,rfl,trivial⟩ ⟨rfl,(congrArg some (ax x.dat_len.symm hrows)),(congrArg some (by rw [hdat];rfl)),(congrArg some (ax List.length_replicate.symm rfl)),(congrArg some (ax List.length_replicate.symm rfl)),(congrArg some (ax rfl hcel)),trivial⟩ ob):P:=zh
theorem oO {P:Prop}(zh:P:=by exact aA (rs:=[0,1,2,3,4,5,6,7,8,9,10,11,12,13]) (hs:=[1,2]) ⟨rfl,rfl,rfl,rfl,rfl,rfl,rfl,trivial⟩ ⟨rfl,rfl,rfl,rfl,rfl,rfl,rfl,rfl,rfl,rfl,rfl,rfl,rfl,rfl,trivial⟩ ⟨rfl,rfl,trivial⟩ ob):P:=zh
theorem oP {P:Prop}(zh:P:=by rw [List.length_take];omega):P:=zh
theorem oQ {P:Prop}(zh:P:=by exact aA (rs:=[0,1,2,3,4,5,6,7,8,9]) (hs:=[0]) ⟨rfl,rfl,rfl,rfl,rfl,rfl,trivial⟩ ⟨rfl,rfl,rfl,rfl,rfl,rfl,rfl,rfl,rfl,rfl,trivial⟩ ⟨rfl,trivial⟩ ob):P:=zh
theorem oR {P:Prop}(zh:P:=by rw [cz];omega):P:=zh
theorem oS {P:Prop}(zh:P:=by simp):P:=zh
theorem oT {P:Prop}(zh:P:=by rfl):P:=zh
theorem oU {P:Prop}(zh:P:=by simpa [Nat.blt_eq] using hd):P:=zh
theorem oV {P:Prop}(zh:P:=by exact aA (rs:=[0,1,2,3,4]) (hs:=[0,2,1,3]) ⟨rfl,rfl,rfl,rfl,trivial⟩ ⟨rfl,rfl,rfl,rfl,rfl,trivial⟩ ⟨rfl,oB,oB,oB,trivial⟩ ob):P:=zh
theorem oW {P:Prop}(zh:P:=by exact aA (rs:=[0,1,2,3,4]) (hs:=[0,3,2,1]) ⟨rfl,rfl,rfl,rfl,trivial⟩ ⟨rfl,rfl,rfl,rfl,rfl,trivial⟩ ⟨rfl,oB,oB,oB,trivial⟩ ob):P:=zh
theorem oX {P:Prop}(zh:P:=by exact ⟨hk1,hcc'⟩):P:=zh
theorem oY {P:Prop}(zh:P:=by show _*8≤_;omega):P:=zh
theorem oZ {P:Prop}(zh:P:=by rw [bF];omega):P:=zh
theorem Oa {P:Prop}(zh:P:=by exact aA (rs:=[0,1,2,3,4,5,6,7]) (hs:=[5,6,1,2,3,4,0]) ⟨rfl,rfl,rfl,rfl,rfl,rfl,trivial⟩ ⟨rfl,rfl,rfl,rfl,rfl,rfl,rfl,rfl,trivial⟩ ⟨rfl,rfl,rfl,rfl,rfl,rfl,rfl,trivial⟩ ob):P:=zh
theorem Ob {P:Prop}(zh:P:=by exact aA (rs:=[0,1,2,3,4,5]) (hs:=[0,1]) ⟨rfl,rfl,rfl,rfl,rfl,rfl,trivial⟩ ⟨rfl,rfl,rfl,rfl,rfl,rfl,trivial⟩ ⟨rfl,rfl,trivial⟩ ob):P:=zh
theorem Oc {P:Prop}(zh:P:=by exact Nat.zero_lt_succ _):P:=zh
theorem Od {P:Prop}(zh:P:=by exact aA (rs:=[0,1,2,3]) (hs:=[0,1,2]) ⟨rfl,rfl,rfl,rfl,rfl,trivial⟩ ⟨rfl,rfl,rfl,rfl,trivial⟩ ⟨rfl,rfl,rfl,trivial⟩ ob):P:=zh
theorem Oe {P:Prop}(zh:P:=by rw [bu];exact (Nat.mul_one _).symm):P:=zh
theorem Of {P:Prop}(zh:P:=by exact aA (rs:=[2,3,4,5,6,7,8,9]) (hs:=[0,1]) ⟨rfl,rfl,rfl,rfl,rfl,rfl,O9,trivial⟩ ⟨rfl,rfl,rfl,rfl,rfl,rfl,rfl,rfl,trivial⟩ ⟨rfl,rfl,trivial⟩ ob):P:=zh
theorem Og {P:Prop}(zh:P:=by rw [lJ];exact (Nat.mul_one _).symm):P:=zh
theorem Oh {P:Prop}(zh:P:=by exact aA (rs:=[0,1]) (hs:=[0]) ⟨rfl,rfl,rfl,rfl,trivial⟩ ⟨rfl,rfl,trivial⟩ ⟨rfl,trivial⟩ ob):P:=zh
theorem Oi {P:Prop}(zh:P:=by exact aA (rs:=[0]) (hs:=[]) ⟨rfl,rfl,rfl,trivial⟩ ⟨rfl,trivial⟩ trivial ob):P:=zh
theorem Oj {P:Prop}(zh:P:=by show _=([.int .i64 (x.S:Int),.slice b.D x.dat.length b.cD,.slice b.W (List.replicate (x.n+x.more) (0:Int)).length b.cW,.int .i64 100000,.slice b.E (List.replicate (x.n+x.more) false).length b.cE]:List Value);rw [x.dat_len,List.length_replicate,List.length_replicate]):P:=zh
theorem Ol {P:Prop}(zh:P:=by exact aA (rs:=[0,1,2,3,4,5,6,7]) (hs:=[]) ⟨rfl,rfl,rfl,rfl,rfl,rfl,rfl,rfl,rfl,rfl,trivial⟩ ⟨rfl,rfl,rfl,rfl,rfl,rfl,rfl,rfl,trivial⟩ trivial ob):P:=zh
theorem Om {P:Prop}(zh:P:=by exact aA (rs:=[0]) (hs:=[0,1,2,3]) ⟨rfl,rfl,rfl,rfl,rfl,rfl,trivial⟩ ⟨rfl,trivial⟩ ⟨rfl,rfl,rfl,(congrArg some (ax rfl (by rw [hbk];rfl))),trivial⟩ ob):P:=zh
theorem Oo {P:Prop}(zh:P:=by exact aA (rs:=[0,1,2,3,4]) (hs:=[]) ⟨rfl,rfl,rfl,rfl,rfl,trivial⟩ ⟨rfl,rfl,rfl,rfl,rfl,trivial⟩ trivial ob):P:=zh
theorem Oq {P:Prop}(zh:P:=by exact aA (rs:=[0,1,2,3,8,9,10,11,12,13,14,15,16,17,18,19]) (hs:=[0,1]) ⟨rfl,rfl,rfl,rfl,rfl,rfl,rfl,rfl,trivial⟩ ⟨rfl,rfl,rfl,rfl,rfl,rfl,rfl,rfl,rfl,rfl,rfl,rfl,rfl,rfl,rfl,rfl,trivial⟩ ⟨rfl,rfl,trivial⟩ ob):P:=zh
theorem Ot {P:Prop}(zh:P:=by exact ⟨h9,h13⟩):P:=zh
theorem Ou {P:Prop}(zh:P:=by exact aA (rs:=[0,1,2,3]) (hs:=[]) ⟨rfl,rfl,rfl,rfl,rfl,trivial⟩ ⟨rfl,rfl,rfl,rfl,trivial⟩ trivial ob):P:=zh
theorem Ov {P:Prop}(zh:P:=by exact aA (rs:=[0,1,2]) (hs:=[0]) ⟨rfl,rfl,rfl,rfl,rfl,trivial⟩ ⟨rfl,rfl,rfl,trivial⟩ ⟨rfl,trivial⟩ ob):P:=zh
theorem Ow {P:Prop}(zh:P:=by exact aA (rs:=[0,1,2,3,4]) (hs:=[0,1,2,3]) ⟨rfl,rfl,rfl,rfl,trivial⟩ ⟨rfl,rfl,rfl,rfl,rfl,trivial⟩ ⟨rfl,oB,oB,oB,trivial⟩ ob):P:=zh
theorem Ox {P:Prop}(zh:P:=by exact aA (rs:=[0,1,2,3,4]) (hs:=[]) ⟨rfl,rfl,rfl,trivial⟩ ⟨rfl,rfl,rfl,rfl,rfl,trivial⟩ trivial ob):P:=zh
theorem Oy {P:Prop}(zh:P:=by exact aA (rs:=[4,5,6,7,8,9,10,11,12,13,14,15,16,17,18,19]) (hs:=[0]) ⟨rfl,rfl,rfl,rfl,rfl,rfl,rfl,trivial⟩ ⟨rfl,rfl,rfl,rfl,rfl,rfl,rfl,rfl,rfl,rfl,rfl,rfl,rfl,rfl,rfl,rfl,trivial⟩ ⟨rfl,trivial⟩ ob):P:=zh
theorem Oz {P:Prop}(zh:P:=by exact trivial):P:=zh
theorem OB {P:Prop}(zh:P:=by exact aA (rs:=[0,1]) (hs:=[0]) ⟨rfl,rfl,rfl,rfl,rfl,trivial⟩ ⟨rfl,rfl,trivial⟩ ⟨rfl,trivial⟩ ob):P:=zh
theorem OC {P:Prop}(zh:P:=by exact aA (rs:=[0,1,2,3,7,6]) (hs:=[0,1]) ⟨rfl,rfl,rfl,rfl,rfl,trivial⟩ ⟨rfl,rfl,rfl,rfl,rfl,rfl,trivial⟩ ⟨rfl,rfl,trivial⟩ ob):P:=zh
theorem OD {P:Prop}(zh:P:=by exact aA (rs:=[0,1,2,3,4,5,6,7,8,9]) (hs:=[0,1]) ⟨rfl,rfl,rfl,rfl,rfl,rfl,rfl,rfl,rfl,rfl,rfl,rfl,rfl,rfl,trivial⟩ ⟨rfl,rfl,rfl,rfl,rfl,rfl,rfl,rfl,rfl,rfl,trivial⟩ ⟨rfl,rfl,trivial⟩ ob):P:=zh
theorem OE {P:Prop}(zh:P:=by exact aA (rs:=[0,1,2]) (hs:=[0]) ⟨rfl,rfl,rfl,rfl,qK,trivial⟩ ⟨rfl,rfl,rfl,trivial⟩ ⟨(congrArg some (ax hel.symm qg)),trivial⟩ ob):P:=zh
theorem OF {P:Prop}(zh:P:=by exact aA (rs:=[0,1,2,3,4,5,6]) (hs:=[]) ⟨rfl,rfl,rfl,rfl,rfl,trivial⟩ ⟨rfl,rfl,rfl,rfl,rfl,rfl,rfl,trivial⟩ trivial ob):P:=zh
theorem OG {P:Prop}(zh:P:=by exact aA (rs:=[0,1]) (hs:=[0]) ⟨rfl,rfl,obl,rfl,trivial⟩ ⟨rfl,rfl,trivial⟩ ⟨(congrArg some (ax e2.symm oau)),trivial⟩ ob):P:=zh
theorem OH {P:Prop}(zh:P:=by exact aA (rs:=[0]) (hs:=[0]) ⟨rfl,rfl,rfl,rfl,rfl,trivial⟩ ⟨rfl,trivial⟩ ⟨rfl,trivial⟩ ob):P:=zh
theorem OI {P:Prop}(zh:P:=by exact aA (rs:=[0,1]) (hs:=[]) ⟨rfl,rfl,rfl,rfl,rfl,trivial⟩ ⟨rfl,rfl,trivial⟩ trivial ob):P:=zh
theorem OJ {P:Prop}(zh:P:=by exact aA (rs:=[0]) (hs:=[0,1,2,3,4]) ⟨rfl,rfl,rfl,rfl,rfl,rfl,trivial⟩ ⟨rfl,trivial⟩ ⟨rfl,rfl,rfl,rfl,rfl,trivial⟩ ob):P:=zh
theorem OK {P:Prop}(zh:P:=by exact aA (rs:=[0,1,2,3,4,5,6,7,8,9,10,11]) (hs:=[0,1,2]) ⟨rfl,rfl,rfl,rfl,rfl,rfl,trivial⟩ ⟨rfl,rfl,rfl,rfl,rfl,rfl,rfl,rfl,rfl,rfl,rfl,rfl,trivial⟩ ⟨rfl,rfl,rfl,trivial⟩ ob):P:=zh
theorem OL {P:Prop}(zh:P:=by exact aA (rs:=[0,1,2,3]) (hs:=[0,1,2]) ⟨rfl,rfl,rfl,rfl,trivial⟩ ⟨rfl,rfl,rfl,rfl,trivial⟩ ⟨rfl,rfl,rfl,trivial⟩ ob):P:=zh
theorem OM {P:Prop}(zh:P:=by dsimp only;rw [he,List.length_append];rfl):P:=zh
theorem ON {P:Prop}(zh:P:=by exact aA (rs:=[0,1,2,3]) (hs:=[0,2]) ⟨rfl,rfl,rfl,rfl,rfl,trivial⟩ ⟨rfl,rfl,rfl,rfl,trivial⟩ ⟨rfl,rfl,trivial⟩ ob):P:=zh
theorem OO {P:Prop}(zh:P:=by exact aA (rs:=[0,1,2,3,4,5]) (hs:=[]) ⟨rfl,rfl,rfl,rfl,trivial⟩ ⟨rfl,rfl,rfl,rfl,rfl,rfl,trivial⟩ trivial ob):P:=zh
theorem OP {P:Prop}(zh:P:=by rw [show be2 (b.drop 1)-(k+1)+1=be2 (b.drop 1)-k from by omega];exact hh):P:=zh
theorem OQ {P:Prop}(zh:P:=by rw [hlb,show e.toNat-(e.toNat-(be2 ((aM f us).drop (e.toNat-2))))=(be2 ((aM f us).drop (e.toNat-2))) from by omega];rfl):P:=zh
theorem OR {P:Prop}(zh:P:=by exact aA (rs:=[0,1,2,3,4,5,6,7,8,9]) (hs:=[0]) ⟨rfl,rfl,rfl,rfl,rfl,rfl,rfl,rfl,trivial⟩ ⟨rfl,rfl,rfl,rfl,rfl,rfl,rfl,rfl,rfl,rfl,trivial⟩ ⟨rfl,trivial⟩ ob):P:=zh
theorem OS {P:Prop}(zh:P:=by unfold ndU;rw [show (((ndT old (bg old (ah ops)) S seq):Nat):Int)+(S:Int)-1=(((ndT old (bg old (ah ops)) S seq)+S-1:Nat):Int) by omega];exact (Int.natCast_ediv _ _).symm):P:=zh
theorem OT {P:Prop}(zh:P:=by rw [Int.natCast_emod];rfl):P:=zh
theorem OU {P:Prop}(zh:P:=by dsimp only;rw [hgo];dsimp only;rw [List.length_append];rfl):P:=zh
theorem OV {P:Prop}(zh:P:=by exact aA (rs:=[0,1,2,3,4,5,6,7,8,9]) (hs:=[1,2]) ⟨rfl,rfl,rfl,trivial⟩ ⟨rfl,rfl,rfl,rfl,rfl,rfl,rfl,rfl,rfl,rfl,trivial⟩ ⟨rfl,rfl,trivial⟩ ob):P:=zh
theorem OW {P:Prop}(zh:P:=by dsimp only;rw [he]):P:=zh
theorem OX {P:Prop}(zh:P:=by rw [List.length_take,List.length_drop,Nat.min_eq_left oe];rfl):P:=zh
theorem OY {P:Prop}(zh:P:=by unfold cG;rw [if_neg oe,hinv,hno];rfl):P:=zh
theorem O0 {P:Prop}(zh:P:=by exact aA (rs:=[0]) (hs:=[0]) ⟨rfl,rfl,rfl,rfl,rfl,rfl,trivial⟩ ⟨rfl,trivial⟩ ⟨rfl,trivial⟩ ob):P:=zh
theorem O3 {P:Prop}(zh:P:=by exact aA (rs:=[0,1,2,3,4,5]) (hs:=[0,1]) ⟨rfl,rfl,rfl,rfl,rfl,rfl,rfl,rfl,trivial⟩ ⟨rfl,rfl,rfl,rfl,rfl,rfl,trivial⟩ ⟨rfl,rfl,trivial⟩ ob):P:=zh
theorem O4 {P:Prop}(zh:P:=by rw [hcl,show too at_.toNat f.size b.length s-at_.toNat-(frm at_.toNat f.size s-at_.toNat)=too at_.toNat f.size b.length s-frm at_.toNat f.size s from by omega];rfl):P:=zh
theorem O5 {P:Prop}(zh:P:=by rw [bk qu,bU];omega):P:=zh
theorem O6 {P:Prop}(zh:P:=by exact aA (rs:=[0,1,2,3,4,5,6,7]) (hs:=[]) ⟨rfl,rfl,rfl,rfl,rfl,rfl,trivial⟩ ⟨rfl,rfl,rfl,rfl,rfl,rfl,rfl,rfl,trivial⟩ trivial ob):P:=zh
theorem O7 {P:Prop}(zh:P:=by exact aA (rs:=[0,1,2,3,4,5,6]) (hs:=[0]) ⟨rfl,rfl,rfl,rfl,rfl,rfl,trivial⟩ ⟨rfl,rfl,rfl,rfl,rfl,rfl,rfl,trivial⟩ ⟨rfl,trivial⟩ ob):P:=zh
theorem O8 {P:Prop}(zh:P:=by exact aA (rs:=[0,1]) (hs:=[]) ⟨rfl,rfl,rfl,rfl,(congrArg some (congrArg (Value.int .i64) oe)),trivial⟩ ⟨rfl,rfl,trivial⟩ trivial ob):P:=zh
theorem O9 {P:Prop}(zh:P:=by dsimp only;rw [(eE (n:=b.length) hps).1];exact congrArg some (congrArg (Value.int .i64) oe)):P:=zh
theorem qa {P:Prop}(zh:P:=by simp only [if_true];split<;>omega):P:=zh
theorem qb {P:Prop}(zh:P:=by simp;omega):P:=zh
theorem qd {P:Prop}(zh:P:=by exact aA (rs:=[0]) (hs:=[]) ⟨rfl,rfl,rfl,rfl,rfl,trivial⟩ ⟨rfl,trivial⟩ trivial ob):P:=zh
theorem qe {P:Prop}(zh:P:=by exact aA (rs:=[0,1,2,3,4,5]) (hs:=[0,1]) ⟨rfl,rfl,rfl,rfl,trivial⟩ ⟨rfl,rfl,rfl,rfl,rfl,rfl,trivial⟩ ⟨rfl,rfl,trivial⟩ ob):P:=zh
theorem qf {P:Prop}(zh:P:=by exact aA (rs:=[0]) (hs:=[0]) ⟨rfl,rfl,rfl,trivial⟩ ⟨rfl,trivial⟩ ⟨rfl,trivial⟩ ob):P:=zh
theorem qg {P:Prop}(zh:P:=by dsimp only;rw [he,Fz,← c5];rfl):P:=zh
theorem qh {P:Prop}(zh:P:=by exact aA (rs:=[0,1,2,3,4,5,6]) (hs:=[]) ⟨rfl,rfl,rfl,rfl,trivial⟩ ⟨rfl,rfl,rfl,rfl,rfl,rfl,rfl,trivial⟩ trivial ob):P:=zh
theorem qi {P:Prop}(zh:P:=by rw [he,List.length_append];rfl):P:=zh
theorem qj {P:Prop}(zh:P:=by exact congrArg some (ax qB oaU)):P:=zh
theorem qk {P:Prop}(zh:P:=by exact aA (rs:=[0,1,2]) (hs:=[0]) ⟨rfl,rfl,rfl,rfl,rfl,rfl,rfl,trivial⟩ ⟨rfl,rfl,rfl,trivial⟩ ⟨rfl,trivial⟩ ob):P:=zh
theorem qm {P:Prop}(zh:P:=by exact aA (rs:=[0,1]) (hs:=[0,1]) ⟨rfl,rfl,rfl,rfl,rfl,rfl,trivial⟩ ⟨rfl,rfl,trivial⟩ ⟨rfl,rfl,trivial⟩ ob):P:=zh
theorem qo {P:Prop}(zh:P:=by exact aA (rs:=[0,1]) (hs:=[0,1,2]) ⟨rfl,rfl,rfl,rfl,trivial⟩ ⟨rfl,rfl,trivial⟩ ⟨rfl,rfl,rfl,trivial⟩ ob):P:=zh
theorem qp {P:Prop}(zh:P:=by exact aA (rs:=[0,1,2,3,4]) (hs:=[]) ⟨rfl,rfl,rfl,rfl,trivial⟩ ⟨rfl,rfl,rfl,rfl,rfl,trivial⟩ trivial ob):P:=zh
theorem qq {P:Prop}(zh:P:=by exact aA (rs:=[0]) (hs:=[0,1,2]) ⟨rfl,rfl,rfl,rfl,rfl,trivial⟩ ⟨rfl,trivial⟩ ⟨rfl,rfl,rfl,trivial⟩ ob):P:=zh
theorem qt {P:Prop}(zh:P:=by exact aA (rs:=[0,1,2,3]) (hs:=[1]) ⟨rfl,rfl,rfl,trivial⟩ ⟨rfl,rfl,rfl,rfl,trivial⟩ ⟨rfl,trivial⟩ ob):P:=zh
theorem qu {P:Prop}(zh:P:=by rw [bU];exact hh):P:=zh
theorem qw {P:Prop}(zh:P:=by rw [lJ];omega):P:=zh
theorem qx {P:Prop}(zh:P:=by rw [show (aX f ((((aY (aM f y.us) (f.size:Int) p3).b.getD 0 0).toNat:Nat):Int)).length=f.size from hrw];omega):P:=zh
theorem qz {P:Prop}(zh:P:=by exact aA (rs:=[0,1,2]) (hs:=[0]) ⟨rfl,rfl,rfl,rfl,trivial⟩ ⟨rfl,rfl,rfl,trivial⟩ ⟨rfl,trivial⟩ ob):P:=zh
theorem qA {P:Prop}(zh:P:=by unfold dL;omega):P:=zh
theorem qB {P:Prop}(zh:P:=by dsimp only;rw [hst,List.length_append (bs:=[_,_])];rfl):P:=zh
theorem qC {P:Prop}(zh:P:=by exact aA (rs:=[0]) (hs:=[1]) ⟨rfl,rfl,trivial⟩ ⟨rfl,trivial⟩ ⟨(by rw [← b9];rfl),trivial⟩ ob):P:=zh
theorem qD {P:Prop}(zh:P:=by simpa using h):P:=zh
theorem qE {P:Prop}(zh:P:=by rw [aG];exact (Nat.mul_one _).symm):P:=zh
theorem qF {P:Prop}(zh:P:=by exact aA (rs:=[0]) (hs:=[0,1]) ⟨rfl,rfl,rfl,rfl,trivial⟩ ⟨rfl,trivial⟩ ⟨rfl,rfl,trivial⟩ ob):P:=zh
theorem qG {P:Prop}(zh:P:=by exact ⟨by omega,bB hno hx⟩):P:=zh
theorem qH {P:Prop}(zh:P:=by unfold eqGuard;rfl):P:=zh
theorem qI {P:Prop}(zh:P:=by rw [bk QH,bF];omega):P:=zh
theorem qJ {P:Prop}(zh:P:=by rw [bk oad,bU,cu];omega):P:=zh
theorem qK {P:Prop}(zh:P:=by dsimp only;rw [hel];rfl):P:=zh
theorem qL {P:Prop}(zh:P:=by dsimp only;rw [e1];simp only [List.length_append];rfl):P:=zh
theorem qM {P:Prop}(zh:P:=by exact aA (rs:=[0,1]) (hs:=[0]) ⟨rfl,rfl,rfl,trivial⟩ ⟨rfl,rfl,trivial⟩ ⟨rfl,trivial⟩ ob):P:=zh
theorem qN {P:Prop}(zh:P:=by rw [bk Qe,bU,kH];omega):P:=zh
theorem qO {P:Prop}(zh:P:=by simp [pev,hx,hy,HT]):P:=zh
theorem qP {P:Prop}(zh:P:=by exact aA (rs:=[0]) (hs:=[0]) ⟨rfl,rfl,rfl,rfl,trivial⟩ ⟨rfl,trivial⟩ ⟨rfl,trivial⟩ ob):P:=zh
theorem qQ {P:Prop}(zh:P:=by rw [Int.toNat_natCast];exact gA (fun h=>GB h hx oe)):P:=zh
theorem qR {P:Prop}(zh:P:=by unfold cG;rw [if_pos oe]):P:=zh
theorem qS {P:Prop}(zh:P:=by exact congrArg some (congrArg (Value.int .i64) ou)):P:=zh
theorem qT {P:Prop}(zh:P:=by unfold dV aX;rw [hg72,Bool.true_and,← hc77,List.length_take,hwl,Nat.min_eq_left oe]):P:=zh
theorem qU {P:Prop}(zh:P:=by rw [Int.toNat_natCast];omega):P:=zh
theorem qV {P:Prop}(zh:P:=by unfold chY;rw [if_neg oe];exact decide_eq_true oe):P:=zh
theorem qW {P:Prop}(zh:P:=by exact aA (rs:=[0]) (hs:=[]) ⟨rfl,rfl,rfl,rfl,trivial⟩ ⟨rfl,trivial⟩ trivial ob):P:=zh
theorem qX {P:Prop}(zh:P:=by rw [bU];omega):P:=zh
theorem qY {P:Prop}(zh:P:=by exact aA (rs:=[0,1]) (hs:=[]) ⟨rfl,rfl,trivial⟩ ⟨rfl,rfl,trivial⟩ trivial ob):P:=zh
theorem qZ {P:Prop}(zh:P:=by rw [aG,aG,List.length_append,List.length_replicate,List.length_replicate,hyl];omega):P:=zh
theorem q7 {P:Prop}(zh:P:=by rw [List.length_take,List.length_drop,List.length_drop];omega):P:=zh
theorem q8 {P:Prop}(zh:P:=by exact ⟨by dsimp only;omega,by dsimp only;omega,by dsimp only;rw [List.length_drop];omega⟩):P:=zh
theorem q9 {P:Prop}(zh:P:=by exact congrArg some (congrArg (Value.int .i64) oa1)):P:=zh
theorem Qa {P:Prop}(zh:P:=by rw [show (be2 (rec.drop 1))-(k+1)+1=(be2 (rec.drop 1))-k from by omega];exact hh):P:=zh
theorem Qb {P:Prop}(zh:P:=by unfold maxLen;omega):P:=zh
theorem Qd {P:Prop}(zh:P:=by rw [aG,List.length_drop];omega):P:=zh
theorem Qe {P:Prop}(zh:P:=by rw [bU,kH];exact hss):P:=zh
theorem Qg {P:Prop}(zh:P:=by unfold eL;rw [if_pos oe]):P:=zh
theorem Qh {P:Prop}(zh:P:=by rintro ⟨q|q,_⟩;exact hg26 q;exact hg30 q):P:=zh
theorem Qi {P:Prop}(zh:P:=by rw [hf.eval hx,ag,Option.map_some,adz]):P:=zh
theorem Qj {P:Prop}(zh:P:=by show _*24≤_;omega):P:=zh
theorem Qk {P:Prop}(zh:P:=by rw [aG,List.length_take,List.length_drop];show _=_*1;rw [Nat.mul_one];omega):P:=zh
theorem Ql {P:Prop}(zh:P:=by rw [bk QV,bU];omega):P:=zh
theorem Qm {P:Prop}(zh:P:=by simp only [Bool.false_eq_true,if_false];split<;>omega):P:=zh
theorem Qo {P:Prop}(zh:P:=by simp [zeroValue,typeInfo,hj,h3]):P:=zh
theorem Qp {P:Prop}(zh:P:=by dsimp only;rw [he,← b9];rfl):P:=zh
theorem Qq {P:Prop}(zh:P:=by dsimp only;rw [he];rfl):P:=zh
theorem Qr {P:Prop}(zh:P:=by unfold HV;rw [Int.toNat_natCast,Int.toNat_natCast,Int.toNat_natCast,hst];rfl):P:=zh
theorem Qs {P:Prop}(zh:P:=by exact ⟨by dsimp only;omega,hhs⟩):P:=zh
theorem Qt {P:Prop}(zh:P:=by rw [bu,bp];omega):P:=zh
theorem Qu {P:Prop}(zh:P:=by rw [List.length_take,hwl,Nat.min_eq_left oe]):P:=zh
theorem Qv {P:Prop}(zh:P:=by rw [List.length_map];omega):P:=zh
theorem Qw {P:Prop}(zh:P:=by apply Array.ext';simpa using e1):P:=zh
theorem Qy {P:Prop}(zh:P:=by rw [h];exact Bool.false_ne_true):P:=zh
theorem Qz {P:Prop}(zh:P:=by unfold fm;omega):P:=zh
theorem QB {P:Prop}(zh:P:=by unfold syS;rw [if_pos hE]):P:=zh
theorem QC {P:Prop}(zh:P:=by exact ⟨by dsimp only;omega,by dsimp only;rw [List.length_append,hhs];rfl⟩):P:=zh
theorem QD {P:Prop}(zh:P:=by exact ⟨by omega,Cr hallj htj hx⟩):P:=zh
theorem QF {P:Prop}(zh:P:=by rw [Nat.mul_one,hY,bz];rfl):P:=zh
theorem QG {P:Prop}(zh:P:=by dsimp only;rw [hgo];dsimp only;rw [mm];rfl):P:=zh
theorem QH {P:Prop}(zh:P:=by rw [bF];exact hdh):P:=zh
theorem QI {P:Prop}(zh:P:=by rw [h2];decide):P:=zh
theorem QJ {P:Prop}(zh:P:=by show (if _<_ then _ else _)=_;split<;>omega):P:=zh
theorem QK {P:Prop}(zh:P:=by rw [List.length_drop,bu];omega):P:=zh
theorem QL {P:Prop}(zh:P:=by rw [List.length_take,Nat.min_eq_left oe]):P:=zh
theorem QN {P:Prop}(zh:P:=by exact ⟨by omega,.inr obP⟩):P:=zh
theorem QP {P:Prop}(zh:P:=by dsimp only;rw [jO oe,Nat.mul_add,← List.drop_drop];rfl):P:=zh
theorem QQ {P:Prop}(zh:P:=by simp [List.getD_eq_getElem?_getD,h]):P:=zh
theorem QR {P:Prop}(zh:P:=by rw [aW,aQ oe,aG,gq oe];omega):P:=zh
theorem QS {P:Prop}(zh:P:=by rw [m1];omega):P:=zh
theorem QT {P:Prop}(zh:P:=by rw [hl];exact (Nat.mul_one _).symm):P:=zh
theorem QU {P:Prop}(zh:P:=by dsimp only;rw [he,← c5];rfl):P:=zh
theorem QV {P:Prop}(zh:P:=by rw [bU];exact hmhs):P:=zh
theorem QW {P:Prop}(zh:P:=by rw [List.length_drop,List.length_drop];omega):P:=zh
theorem QX {P:Prop}(zh:P:=by unfold chY;rw [if_neg oe];exact decide_eq_false oe):P:=zh
theorem QY {P:Prop}(zh:P:=by exact ⟨by omega,bB hall hx⟩):P:=zh
theorem QZ {P:Prop}(zh:P:=by rw [Nat.mul_one,hY,bz]):P:=zh
theorem Q1 {P:Prop}(zh:P:=by rw [aG,List.length_replicate]):P:=zh
theorem Q2 {P:Prop}(zh:P:=by dsimp only;rw [show kO _ 0=[] from rfl,List.append_nil];rfl):P:=zh
theorem Q3 {P:Prop}(zh:P:=by dsimp only;rw [e1,List.length_append];rfl):P:=zh
theorem Q4 {P:Prop}(zh:P:=by rw [List.length_replicate];omega):P:=zh
theorem Q5 {P:Prop}(zh:P:=by show _*56≤_;omega):P:=zh
theorem Q6 {P:Prop}(zh:P:=by rw [hdesc,hk,if_neg (by simp [wO])];exact aH oe):P:=zh
theorem Q7 {P:Prop}(zh:P:=by rw [List.length_drop];rfl):P:=zh
theorem Q8 {P:Prop}(zh:P:=by rw [aG,dE];rfl):P:=zh
theorem Q9 {P:Prop}(zh:P:=by simpa using hc19):P:=zh
theorem oaa {P:Prop}(zh:P:=by simpa using hc16):P:=zh
theorem oab {P:Prop}(zh:P:=by show 1*_≤_;omega):P:=zh
theorem oac {P:Prop}(zh:P:=by unfold ptF ptE;rw [hB,if_neg oe]):P:=zh
theorem oad {P:Prop}(zh:P:=by rw [bU,cu];exact hhs):P:=zh
theorem oae {P:Prop}(zh:P:=by dsimp only;rw [show kO _ 0=[] from rfl,List.append_nil]):P:=zh
theorem oaf {P:Prop}(zh:P:=by rw [aE,if_neg (fun e=>hc23 (dN.2 e)),nA hst]):P:=zh
theorem oag {P:Prop}(zh:P:=by show some (Value.int IntKind.i64 ((w:Int)-1))=_;simp):P:=zh
theorem oah {P:Prop}(zh:P:=by rw [aG,gq oe];omega):P:=zh
theorem oai {P:Prop}(zh:P:=by dsimp only;rw [e1,List.length_append]):P:=zh
theorem oaj {P:Prop}(zh:P:=by rw [iY oe];exact decide_eq_false oe):P:=zh
theorem oak {P:Prop}(zh:P:=by rw [← Int.natCast_mul];omega):P:=zh
theorem oal {P:Prop}(zh:P:=by unfold iE;omega):P:=zh
theorem oam {P:Prop}(zh:P:=by rw [IntKind.wrap_i64];omega):P:=zh
theorem oan {P:Prop}(zh:P:=by rw [m2];omega):P:=zh
theorem oao {P:Prop}(zh:P:=by simpa using hc22):P:=zh
theorem oap {P:Prop}(zh:P:=by rw [Bool.eq_iff_iff,dB,decide_eq_true_eq];omega):P:=zh
theorem oaq {P:Prop}(zh:P:=by simpa using hc21):P:=zh
theorem oar {P:Prop}(zh:P:=by rw [bu,hyl];rfl):P:=zh
theorem oas {P:Prop}(zh:P:=by unfold syS;rw [if_pos hE0]):P:=zh
theorem oat {P:Prop}(zh:P:=by simp [pev,hs,hd,hj,hx]):P:=zh
theorem oau {P:Prop}(zh:P:=by dsimp only;rw [e1];exact eX _ (k,k+1)):P:=zh
theorem oav {P:Prop}(zh:P:=by simp [jG,List.range_succ,List.filter_append,h]):P:=zh
theorem oaw {P:Prop}(zh:P:=by simp [aL,List.range_succ,List.filter_append,h]):P:=zh
theorem oax {P:Prop}(zh:P:=by rw [cr];exact Nat.le_refl _):P:=zh
theorem oay {P:Prop}(zh:P:=by dsimp only;rw [jH,List.length_append];rfl):P:=zh
theorem oaz {P:Prop}(zh:P:=by dsimp only;rw [kB,List.length_append];rfl):P:=zh
theorem oaA {P:Prop}(zh:P:=by rw [hno];exact Bool.false_ne_true):P:=zh
theorem oaB {P:Prop}(zh:P:=by rw [Int.toNat_natCast];exact hfit):P:=zh
theorem oaC {P:Prop}(zh:P:=by rw [bu,hyl];decide):P:=zh
theorem oaD {P:Prop}(zh:P:=by exact ⟨by omega,bB hu2 hx⟩):P:=zh
theorem oaE {P:Prop}(zh:P:=by rw [bU,bY];exact hmhs):P:=zh
theorem oaF {P:Prop}(zh:P:=by rw [h];decide):P:=zh
theorem oaG {P:Prop}(zh:P:=by rw [lJ,dT];exact Nat.zero_lt_of_lt hlt):P:=zh
theorem oaH {P:Prop}(zh:P:=by rw [Int.toNat_natCast,Int.toNat_natCast];omega):P:=zh
theorem oaI {P:Prop}(zh:P:=by rw [List.length_take,List.length_drop,hl];rfl):P:=zh
theorem oaJ {P:Prop}(zh:P:=by dsimp only;rw [e1];simp only [xm];rfl):P:=zh
theorem oaK {P:Prop}(zh:P:=by rw [e,d];rintro (q|q);exact q rfl;cases q):P:=zh
theorem oaL {P:Prop}(zh:P:=by rw [List.length_take,List.length_drop];omega):P:=zh
theorem oaM {P:Prop}(zh:P:=by unfold zL;rw [Bool.eq_iff_iff];simp;omega):P:=zh
theorem oaN {P:Prop}(zh:P:=by unfold chY;rw [if_pos oe];exact hg34):P:=zh
theorem oaO {P:Prop}(zh:P:=by unfold chY;rw [if_pos oe];exact hc51):P:=zh
theorem oaP {P:Prop}(zh:P:=by unfold Dw;exact decide_eq_false oe):P:=zh
theorem oaQ {P:Prop}(zh:P:=by unfold ndQ;exact (Int.natCast_ediv _ _).symm):P:=zh
theorem oaR {P:Prop}(zh:P:=by rw [bp,List.length_range]):P:=zh
theorem oaS {P:Prop}(zh:P:=by rintro ⟨q|q,_⟩;exact hg31 q;exact hg36 q):P:=zh
theorem oaT {P:Prop}(zh:P:=by unfold dm;simp [*]):P:=zh
theorem oaU {P:Prop}(zh:P:=by dsimp only;rw [hst,← b9 _ [_,_]];rfl):P:=zh
theorem oaV {P:Prop}(zh:P:=by exact ⟨by dsimp only;omega,g1ok,hb1,hc1⟩):P:=zh
theorem oaW {P:Prop}(zh:P:=by rw [List.length_map];exact h):P:=zh
theorem oaX {P:Prop}(zh:P:=by dsimp only;rw [e1,← b9]):P:=zh
theorem oaY {P:Prop}(zh:P:=by rw [run_store _ _ _ _ _ h1];simp [hc,hfr]):P:=zh
theorem oaZ {P:Prop}(zh:P:=by simpa using List.nodup_range):P:=zh
theorem oa0 {P:Prop}(zh:P:=by unfold ptF ptE;rw [hB,if_pos oe]):P:=zh
theorem oa1 {P:Prop}(zh:P:=by rw [aG,List.length_replicate];omega):P:=zh
theorem oa2 {P:Prop}(zh:P:=by cases A<;>simp [Addr.add]):P:=zh
theorem oa3 {P:Prop}(zh:P:=by unfold aj;split<;>rfl):P:=zh
theorem oa4 {P:Prop}(zh:P:=by have:=Nat.two_pow_pos ls.length;omega):P:=zh
theorem oa5 {P:Prop}(zh:P:=by simpa using hc38):P:=zh
theorem oa6 {P:Prop}(zh:P:=by rw [dE];omega):P:=zh
theorem oa7 {P:Prop}(zh:P:=by rw [cr];omega):P:=zh
theorem oa8 {P:Prop}(zh:P:=by unfold dV aX;rw [hab];exact hc84):P:=zh
theorem oa9 {P:Prop}(zh:P:=by rw [Int.natCast_mul]):P:=zh
theorem oba {P:Prop}(zh:P:=by rw [bU,kH];omega):P:=zh
theorem obb {P:Prop}(zh:P:=by rw [cu];omega):P:=zh
theorem obc {P:Prop}(zh:P:=by rw [lW,List.length_take];omega):P:=zh
theorem obd {P:Prop}(zh:P:=by rw [Nat.zero_add];exact Nat.mul_one _):P:=zh
theorem obe {P:Prop}(zh:P:=by rw [bF,List.length_set];exact hb):P:=zh
theorem obf {P:Prop}(zh:P:=by simpa using hc9):P:=zh
theorem obg {P:Prop}(zh:P:=by rw [hE];decide):P:=zh
theorem obh {P:Prop}(zh:P:=by rw [jg h0 h1]):P:=zh
theorem obi {P:Prop}(zh:P:=by simpa using hsmall):P:=zh
theorem obk {P:Prop}(zh:P:=by exact ⟨by omega,bB hallu hux⟩):P:=zh
theorem obl {P:Prop}(zh:P:=by dsimp only;rw [e2];rfl):P:=zh
theorem obm {P:Prop}(zh:P:=by rw [← j3];simpa using hc16):P:=zh
theorem obn {P:Prop}(zh:P:=by rw [← j3];simpa using hg25):P:=zh
theorem obo {P:Prop}(zh:P:=by exact aH oe):P:=zh
theorem obp {P:Prop}(zh:P:=by rw [← hs9];exact CN f y.a y.b):P:=zh
theorem obq {P:Prop}(zh:P:=by rw [← so hok];simpa using hc15):P:=zh
theorem obr {P:Prop}(zh:P:=by rw [← so hok];simpa using hc19):P:=zh
theorem obs {P:Prop}(zh:P:=by simpa using hl):P:=zh
theorem obt {P:Prop}(zh:P:=by exact ⟨by omega,bB hno hc17⟩):P:=zh
theorem obu {P:Prop}(zh:P:=by simpa using hh):P:=zh
theorem obv {P:Prop}(zh:P:=by simpa using hv):P:=zh
theorem obw {P:Prop}(zh:P:=by decide+kernel):P:=zh
theorem obx {P:Prop}(zh:P:=by rw [cu];exact hhs):P:=zh
theorem oby {P:Prop}(zh:P:=by rw [aG,hrow];simp):P:=zh
theorem obz {P:Prop}(zh:P:=by rw [cX];exact hi2):P:=zh
theorem obA {P:Prop}(zh:P:=by unfold ndN;omega):P:=zh
theorem obB {P:Prop}(zh:P:=by unfold ndW;omega):P:=zh
theorem obC {P:Prop}(zh:P:=by unfold ndC;omega):P:=zh
theorem obD {P:Prop}(zh:P:=by apply Array.ext';simp):P:=zh
theorem obE {P:Prop}(zh:P:=by rw [kH];exact hss):P:=zh
theorem obF {P:Prop}(zh:P:=by show 24*_≤_;omega):P:=zh
theorem obG {P:Prop}(zh:P:=by rw [bU];exact hhs):P:=zh
theorem obH {P:Prop}(zh:P:=by show _*16≤_;omega):P:=zh
theorem obI {P:Prop}(zh:P:=by simpa using hc29):P:=zh
theorem obJ {P:Prop}(zh:P:=by simpa using hg17):P:=zh
theorem obK {P:Prop}(zh:P:=by simpa using hc23):P:=zh
theorem obL {P:Prop}(zh:P:=by rw [bF];exact hi):P:=zh
theorem obM {P:Prop}(zh:P:=by simp [hx]):P:=zh
theorem obN {P:Prop}(zh:P:=by rw [bp];exact hl):P:=zh
theorem obO {P:Prop}(zh:P:=by simp [bu];omega):P:=zh
theorem obP {P:Prop}(zh:P:=by rw [← hkp.2.2];omega):P:=zh
theorem obQ {P:Prop}(zh:P:=by simpa using hlt):P:=zh
theorem obR {P:Prop}(zh:P:=by simpa using hB.1.1.2):P:=zh
theorem obS {P:Prop}(zh:P:=by rw [bF];exact h):P:=zh
theorem obT {P:Prop}(zh:P:=by rw [h3];decide):P:=zh
theorem obU {P:Prop}(zh:P:=by simpa using hc4):P:=zh
theorem obV {P:Prop}(zh:P:=by exact ⟨hb,hkc,hkD⟩):P:=zh
theorem obW {P:Prop}(zh:P:=by rw [hrw];omega):P:=zh
theorem obX {P:Prop}(zh:P:=by rw [hcl];omega):P:=zh
theorem obY {P:Prop}(zh:P:=by rw [gW];omega):P:=zh
theorem obZ {P:Prop}(zh:P:=by simpa using hn):P:=zh
theorem ob0 {P:Prop}(zh:P:=by simpa using hz):P:=zh
theorem ob1 {P:Prop}(zh:P:=by unfold ef;omega):P:=zh
theorem ob2 {P:Prop}(zh:P:=by rw [bp];omega):P:=zh
theorem ob3 {P:Prop}(zh:P:=by rw [kH];omega):P:=zh
theorem ob4 {P:Prop}(zh:P:=by rw [e1];simp):P:=zh
theorem ob5 {P:Prop}(zh:P:=by exact ⟨hb2,hbc2⟩):P:=zh
theorem ob6 {P:Prop}(zh:P:=by exact ⟨hb,hbc⟩):P:=zh
theorem ob7 {P:Prop}(zh:P:=by rw [h]):P:=zh
theorem Zz {Q:Prop}:Zs 0 Q Q:=⟨id⟩
theorem Zn1 {s:Nat}{Q Q' P:Prop}(h:Xo s Q' P)(k:Zs (s/16) Q Q'):Zs s Q P:=⟨fun q=>h.h (k.h q)⟩
theorem Zn2 {s:Nat}{Q Q' P:Prop}(h:Xo s Q' P)(k:Zs (s/256) Q Q'):Zs s Q P:=⟨fun q=>h.h (k.h q)⟩
theorem Zn3 {s:Nat}{Q Q' P:Prop}(h:Xo s Q' P)(k:Zs (s/4096) Q Q'):Zs s Q P:=⟨fun q=>h.h (k.h q)⟩
theorem Zn4 {s:Nat}{Q Q' P:Prop}(h:Xo s Q' P)(k:Zs (s/65536) Q Q'):Zs s Q P:=⟨fun q=>h.h (k.h q)⟩
variable {n:Nat}{Q R P:Prop}
theorem Zga (zh:Xo n Q P:=by
 apply Zom;intro zq;rotate_left;simp
 first
 |(exact Zt 1;apply Y 0x886)
 |(exact Zt 3;refine L.nil (QE.m oa ?_))
 |(exact Zt 4;refine L.yes rfl ?_)
 |(exact Zt 5;refine C.seq ?_)
 |(exact Zt 6;refine sp (Ev.pure rfl) ?_)
 |(exact Zt 7;apply Y 0x685)
 exact zq.h):Xo n Q P:=zh
theorem RR (zh:Xo n Q P:=by
 apply Zom;intro zq;rotate_left;simp
 first
 |(exact Zt 2;refine LQ.yes rfl ?_)
 |(exact Zt 3;apply Y 0x16)
 |(exact Zt 4;apply Y 0x66)
 |(exact Zt 5;apply Y 0x75)
 |(exact Zt 6;refine C.region ?_)
 |(exact Zt 7;refine L.nil (QE.a oa ?_))
 |(exact Zt 8;apply Y 0x6afd)
 |(exact Zt 9;refine L.alloc rfl rfl rfl ?_)
 |(exact Zt 10;(rintro _ _ _ ⟨rfl,rfl,rfl⟩))
 |(exact Zt 11;apply Y 0x648)
 |(exact Zt 12;apply Y 0x387)
 |(exact Zt 13;refine C.ret ?_)
 |(exact Zt 14;apply Y 0x148)
 |(exact Zt 15;apply Y 0xc4ec0e)
 exact zq.h):Xo n Q P:=zh
theorem RP (zh:Xo n Q P:=by
 apply Zom;intro zq;rotate_left;simp
 first
 |(exact Zt 1;(rintro _ _ _ ⟨y1,y2,rfl,rfl,rfl⟩);revert y1 y2)
 |(exact Zt 2;(rintro _ _ ⟨y1,rfl,rfl⟩);revert y1)
 |(exact Zt 3;apply Y 0xdddd)
 |(exact Zt 4;apply Y 0x51)
 |(exact Zt 5;apply Y 0x2bed8)
 |(exact Zt 6;apply Y 0xc84f3)
 |(exact Zt 8;apply Y 0xba9d)
 |(exact Zt 9;apply Y 0x6a5a)
 |(exact Zt 10;apply Y 0x6a66e)
 |(exact Zt 11;apply Y 0x4ac)
 |(exact Zt 12;apply Y 0x17)
 |(exact Zt 13;apply Y 0x8bd8)
 |(exact Zt 15;apply Y 0x67)
 exact zq.h):Xo n Q P:=zh
theorem RO (zh:Xo n Q P:=by
 apply Zom;intro zq;rotate_left;simp
 first
 |(exact Zt 2;apply Y 0xfcfc)
 |(exact Zt 3;refine lnr [_] [0] ?_)
 |(exact Zt 4;apply Y 0x2b7)
 |(exact Zt 5;refine C.skip ?_)
 |(exact Zt 6;refine QE.seq ?_)
 |(exact Zt 7;apply Y 0x786)
 |(exact Zt 8;apply Y 0x400f74e)
 |(exact Zt 9;apply Y 0xcddd)
 |(exact Zt 10;refine sp (faO 0) ?_)
 |(exact Zt 11;refine C.block ?_)
 |(exact Zt 12;refine sp (Ev.add rfl rfl oe oe) ?_)
 |(exact Zt 13;apply Y 0x6ee91e)
 |(exact Zt 14;apply Y 0x3948)
 |(exact Zt 15;refine sp (Ev.build rfl rfl rfl rfl rfl rfl rfl) ?_)
 exact zq.h):Xo n Q P:=zh
theorem RM (zh:Xo n Q P:=by
 apply Zom;intro zq;rotate_left;simp
 first
 |(exact Zt 1;apply Y 0x61e40e)
 |(exact Zt 2;refine Lx rfl rfl ?_)
 |(exact Zt 3;refine L.lit rfl rfl rfl rfl rfl oT oT oT rfl rfl ?_)
 |(exact Zt 4;(rintro _ _ _ ⟨rfl,y1,rfl,rfl⟩);revert y1)
 |(exact Zt 5;refine cN (j:=0) rfl rfl rfl rfl rfl (Nat.zero_lt_succ _) rfl rfl ?_)
 |(exact Zt 6;refine cN (j:=1) rfl rfl rfl rfl rfl (Nat.zero_lt_succ _) rfl rfl ?_)
 |(exact Zt 7;apply Y 0x588)
 |(exact Zt 8;refine qrt [] [] [_] rfl rt ?_)
 |(exact Zt 9;apply Y 0x885b)
 |(exact Zt 10;refine lnr [_,_] [0,1] ?_)
 |(exact Zt 11;apply Y 0xcbe91e)
 |(exact Zt 12;apply Y 0xfa7)
 |(exact Zt 13;refine cfz 0 [1] ?_)
 |(exact Zt 14;refine cnr [_] [0] ?_)
 |(exact Zt 15;apply Y 0x3ae3ae)
 exact zq.h):Xo n Q P:=zh
theorem RL (zh:Xo n Q P:=by
 apply Zom;intro zq;rotate_left;simp
 first
 |(exact Zt 1;apply Y 0xb2e4)
 |(exact Zt 2;apply Y 0x668)
 |(exact Zt 3;apply Y 0x799)
 |(exact Zt 4;apply Y 0x8b17e)
 |(exact Zt 5;apply Y 0x6deb02f)
 |(exact Zt 6;apply Y 0xcc6)
 |(exact Zt 7;apply Y 0x687ae)
 |(exact Zt 8;apply Y 0x788ee)
 |(exact Zt 9;apply Y 0x4868)
 |(exact Zt 10;apply Y 0x64)
 |(exact Zt 11;refine qrt [0] [] [_] rfl ⟨⟨_,_,0,_,rfl,rfl,Src.o 0 rfl,.inl ⟨rfl,by decide,_,rfl,rfl,rfl⟩⟩,trivial⟩ ?_)
 |(exact Zt 12;apply Y 0xd84f3)
 |(exact Zt 13;apply Y 0x12e2be)
 |(exact Zt 15;refine sq (Ev.pure rfl) ?_)
 exact zq.h):Xo n Q P:=zh
theorem RK (zh:Xo n Q P:=by
 apply Zom;intro zq;rotate_left;simp
 first
 |(exact Zt 1;apply Y 0xcd39)
 |(exact Zt 2;apply Y 0x487)
 |(exact Zt 3;apply Y 0xfc28)
 |(exact Zt 4;refine ⟨congrArg Value.bool ?_,rfl,rfl⟩)
 |(exact Zt 6;refine BC oa ?_)
 |(exact Zt 7;apply Y 0x12ed8)
 |(exact Zt 8;refine sp (nkO 0) ?_)
 |(exact Zt 9;apply Y 0x599)
 |(exact Zt 10;apply Y 0xbac9)
 |(exact Zt 11;apply Y 0x4858)
 |(exact Zt 12;refine L.no rfl rfl rfl ?_)
 |(exact Zt 13;apply Y 0xcdcd)
 |(exact Zt 14;apply Y 0xb9ac)
 |(exact Zt 15;refine L.nil ?_)
 exact zq.h):Xo n Q P:=zh
theorem Zha (zh:Xo n Q P:=by
 apply Zod;simp
 first
 |(exact Zt 8;exact RR)
 |(exact Zt 9;exact RP)
 |(exact Zt 10;exact RO)
 |(exact Zt 11;exact RM)
 |(exact Zt 12;exact RL)
 |(exact Zt 13;exact RK)):Xo n Q P:=zh
theorem Pn (zh:Xo n Q P:=by
 apply Zom;intro zq;rotate_left;simp
 first
 |(exact Zt 2;apply Y 0x5c9)
 |(exact Zt 3;refine lnr [_,_,_] [0,1,2] ?_)
 |(exact Zt 4;refine sp (faR 1) ?_)
 |(exact Zt 5;refine sq (ldR 0) ?_)
 |(exact Zt 6;refine ⟨congrArg (Value.int .i64) (Eq.symm ?_),rfl,rfl⟩)
 |(exact Zt 7;apply Y 0x7dc9)
 |(exact Zt 8;apply Y 0x52efc)
 |(exact Zt 9;refine cnr [_,_] [0,1] ?_)
 |(exact Zt 10;refine sq (faR 0) ?_)
 |(exact Zt 11;(rintro _ _ _ ⟨y1,y2,y3,y4,rfl,rfl,rfl⟩);revert y1 y2 y3 y4)
 |(exact Zt 12;refine sp (faR 0) ?_)
 |(exact Zt 13;apply Y 0xe10f74e)
 |(exact Zt 14;apply Y 0x26e59)
 |(exact Zt 15;(rintro _ _ ⟨y1,y2,rfl,rfl⟩);revert y1 y2)
 exact zq.h):Xo n Q P:=zh
theorem Pm (zh:Xo n Q P:=by
 apply Zom;intro zq;rotate_left;simp
 first
 |(exact Zt 1;refine qrt [] [0] [_] rfl rt ?_)
 |(exact Zt 5;refine s4 (js:=[]) (hs:=[]) ob ⟨rfl,?_⟩)
 |(exact Zt 6;refine sp (ldR 1) ?_)
 |(exact Zt 7;(rintro _ _ _ ⟨y1,rfl,rfl,rfl⟩);revert y1)
 |(exact Zt 9;refine sp (faO 1) ?_)
 |(exact Zt 10;(rintro y1 ⟨y2,y3⟩);revert y1 y2 y3)
 |(exact Zt 11;refine cfz 0 [1,2] ?_)
 |(exact Zt 12;refine sp (Ev.sub rfl rfl oe oe) ?_)
 |(exact Zt 13;apply Y 0xfd6)
 |(exact Zt 14;(have y1:=ok);revert y1)
 |(exact Zt 15;(rintro _ _ _ ⟨y1,y2,y3,rfl,rfl,rfl⟩);revert y1 y2 y3)
 exact zq.h):Xo n Q P:=zh
theorem Pj (zh:Xo n Q P:=by
 apply Zom;intro zq;rotate_left;simp
 first
 |(exact Zt 1;apply Y 0x2be1be)
 |(exact Zt 3;refine cN (j:=2) rfl rfl rfl rfl rfl (Nat.zero_lt_succ _) rfl rfl ?_)
 |(exact Zt 4;refine LM.f 14 rfl oa trivial ?_)
 |(exact Zt 5;apply Y 0x6a3f0f)
 |(exact Zt 6;apply Y 0xb84f78)
 |(exact Zt 7;(rintro ⟨y1,y2,y3⟩ y4);revert y1 y2 y3 y4)
 |(exact Zt 8;refine LA.nil oa ?_)
 |(exact Zt 9;refine cfz 1 [0] ?_)
 |(exact Zt 10;refine qrt [] [0] [_,_] rfl rt ?_)
 |(exact Zt 11;apply Y 0xc4e7be)
 |(exact Zt 14;refine L.more (r:=Rd (bj S c 2 1) (U8 (l.drop 2))) (aT (Has.r 0 rfl) c 2 hc) ?_)
 |(exact Zt 15;refine LA.alt [5] oa ob ⟨⟨_,rfl,?_⟩,trivial⟩)
 exact zq.h):Xo n Q P:=zh
theorem Pi (zh:Xo n Q P:=by
 apply Zom;intro zq;rotate_left;simp
 first
 |(exact Zt 1;refine LA.alt [8] oa ob ⟨⟨_,rfl,?_⟩,trivial⟩)
 |(exact Zt 2;refine LA.alt [9] oa ob ⟨⟨_,rfl,?_⟩,trivial⟩)
 |(exact Zt 6;refine QE.nil_own 5 1 ?_)
 |(exact Zt 7;refine sp (faO 3) ?_)
 |(exact Zt 8;refine Pt ?_)
 |(exact Zt 9;refine sp (faR 2) ?_)
 |(exact Zt 10;refine sq (ldR 1) ?_)
 |(exact Zt 11;refine mq 0 rfl (Ev.pure rfl) ?_)
 |(exact Zt 12;refine sp (aa rfl rfl rfl (Src.r 0 rfl) rfl rfl ob) ?_)
 |(exact Zt 13;refine sq (faR 1) ?_)
 |(exact Zt 14;refine mfo 12 ?_)
 |(exact Zt 15;rw [Bool.eq_iff_iff])
 exact zq.h):Xo n Q P:=zh
theorem Ph (zh:Xo n Q P:=by
 apply Zom;intro zq;rotate_left;simp
 first
 |(exact Zt 1;unfold Oper.wp)
 |(exact Zt 3;refine mfo 7 ?_)
 |(exact Zt 4;refine ⟨?_,rfl,rfl⟩)
 |(exact Zt 5;refine mfo 8 ?_)
 |(exact Zt 6;refine sq (faO 0) ?_)
 |(exact Zt 7;apply Y 0x6a25e)
 |(exact Zt 8;dsimp only)
 |(exact Zt 9;refine fo (js:=[0]) (hs:=[0]) (vs:=[]) rfl trivial ob ?_)
 |(exact Zt 10;refine cnr [_,_,_] [0,1,2] ?_)
 |(exact Zt 11;refine mfo 11 ?_)
 |(exact Zt 12;refine sp (ldR 0) ?_)
 |(exact Zt 13;refine LA.alt [3] oa ob ⟨⟨_,rfl,?_⟩,trivial⟩)
 |(exact Zt 14;refine LQ.no rfl rfl rfl ?_)
 |(exact Zt 15;refine sp (aa rfl rfl rfl (Src.o 1 rfl) rfl rfl ob) ?_)
 exact zq.h):Xo n Q P:=zh
theorem Pg (zh:Xo n Q P:=by
 apply Zom;intro zq;rotate_left;simp
 first
 |(exact Zt 1;refine sp (aa rfl rfl rfl (Src.r 1 rfl) rfl rfl ob) ?_)
 |(exact Zt 2;refine HH ?_)
 |(exact Zt 3;refine cfz 0 [1,2,3] ?_)
 |(exact Zt 4;refine mfo 6 ?_)
 |(exact Zt 5;refine sp (Ev.mul rfl rfl oe oe) ?_)
 |(exact Zt 6;refine sp (ldR 2) ?_)
 |(exact Zt 8;rw [hE,hV])
 |(exact Zt 9;refine cN (j:=3) rfl rfl rfl rfl rfl (Nat.zero_lt_succ _) rfl rfl ?_)
 |(exact Zt 10;refine mfo 13 ?_)
 |(exact Zt 11;refine mq 9 rfl (Ev.pure rfl) ?_)
 |(exact Zt 12;refine qrt [0] [] [_,_,_] rfl ⟨⟨_,_,0,_,rfl,rfl,Src.o 0 rfl,.inl ⟨rfl,by decide,_,rfl,rfl,rfl⟩⟩,rfl,rfl,trivial⟩ ?_)
 |(exact Zt 13;refine qrt [] [] [_,_] rfl rt ?_)
 |(exact Zt 14;refine ⟨congrArg Value.bool (Eq.symm ?_),rfl,rfl⟩)
 |(exact Zt 15;rw [pb hL])
 exact zq.h):Xo n Q P:=zh
theorem Pf (zh:Xo n Q P:=by
 apply Zom;intro zq;rotate_left;simp
 first
 |(exact Zt 1;refine LA.alt [1] oa ob ⟨⟨_,rfl,?_⟩,trivial⟩)
 |(exact Zt 2;refine QE.more (r:=Rd none []) (Has.nil) ?_)
 |(exact Zt 3;refine mq 5 rfl (Ev.pure rfl) ?_)
 |(exact Zt 4;refine sp (faO 2) ?_)
 |(exact Zt 5;refine sp (ldO 0) ?_)
 |(exact Zt 6;apply Y 0x450f79e)
 |(exact Zt 7;(have y1:=(X.ok _ _ ht).und);revert y1)
 |(exact Zt 8;refine LM.f 11 rfl oa trivial ?_)
 |(exact Zt 9;refine Ef ?_)
 |(exact Zt 10;refine sp (faR 4) ?_)
 |(exact Zt 11;rw [List.take_length])
 |(exact Zt 12;refine LM.f 10 rfl oa trivial ?_)
 |(exact Zt 13;refine LM.f 7 rfl oa trivial ?_)
 |(exact Zt 14;refine LM.f 8 rfl oa trivial ?_)
 |(exact Zt 15;refine mfo 9 ?_)
 exact zq.h):Xo n Q P:=zh
theorem Pe (zh:Xo n Q P:=by
 apply Zom;intro zq;rotate_left;simp
 first
 |(exact Zt 1;apply Y 0x59c9)
 |(exact Zt 3;refine LA.alt [2] oa ob ⟨⟨_,rfl,?_⟩,trivial⟩)
 |(exact Zt 4;refine LA.alt [6] oa ob ⟨⟨_,rfl,?_⟩,trivial⟩)
 |(exact Zt 5;refine mfo 10 ?_)
 |(exact Zt 6;refine mq 8 rfl (Ev.pure rfl) ?_)
 |(exact Zt 7;refine sp (aa (vs:=[_,_,_,_]) rfl rfl rfl (Src.r 0 rfl) rfl rfl ob) ?_)
 |(exact Zt 8;apply Y 0x83e83e)
 |(exact Zt 9;(have y1:0≤p0∧p0≤4294967295:=hp p0 oS);revert y1)
 |(exact Zt 10;(have y1:0≤p1∧p1≤4294967295:=hp p1 oS);revert y1)
 |(exact Zt 11;(have y1:0≤p2∧p2≤4294967295:=hp p2 oS);revert y1)
 |(exact Zt 12;(have y1:0≤p3∧p3≤4294967295:=hp p3 oS);revert y1)
 |(exact Zt 13;(have y1:0≤p4∧p4≤4294967295:=hp p4 oS);revert y1)
 |(exact Zt 14;(have y1:0≤p5∧p5≤4294967295:=hp p5 oS);revert y1)
 |(exact Zt 15;(have y1:0≤p6∧p6≤4294967295:=hp p6 oS);revert y1)
 exact zq.h):Xo n Q P:=zh
theorem Pd (zh:Xo n Q P:=by
 apply Zom;intro zq;rotate_left;simp
 first
 |(exact Zt 1;(have y1:0≤p7∧p7≤4294967295:=hp p7 oS);revert y1)
 |(exact Zt 2;(have y1:0≤p8∧p8≤4294967295:=hp p8 oS);revert y1)
 |(exact Zt 4;refine LM.f 12 rfl oa trivial ?_)
 |(exact Zt 5;refine mq 11 rfl (Ev.pure rfl) ?_)
 |(exact Zt 6;refine sp (aa (vs:=[_,_,_,_,_,_,_,_]) rfl rfl rfl (Src.r 0 rfl) rfl rfl ob) ?_)
 |(exact Zt 10;refine L.store (j:=2) rfl rfl rfl rfl rfl rfl rfl rfl ?_)
 |(exact Zt 12;refine LM.f 13 rfl oa trivial ?_)
 |(exact Zt 13;refine mq 10 rfl (Ev.pure rfl) ?_)
 |(exact Zt 14;refine qrt [] [1] [_,_] rfl rt ?_)
 |(exact Zt 15;refine sq (ldO 0) ?_)
 exact zq.h):Xo n Q P:=zh
theorem Pb (zh:Xo n Q P:=by
 apply Zom;intro zq;rotate_left;simp
 first
 |(exact Zt 1;refine sq (nkO 0) ?_)
 |(exact Zt 2;unfold bJ zL)
 |(exact Zt 3;(have y1:=ep (P:=X.P) w (X.ok _ _ he));revert y1)
 |(exact Zt 6;refine C.cap 0 rfl ?_)
 |(exact Zt 7;refine C.exit ?_)
 |(exact Zt 8;refine LA.alt [4] oa ob ⟨⟨_,rfl,?_⟩,trivial⟩)
 |(exact Zt 9;refine LY.step (Ev.pure rfl) rfl ?_)
 |(exact Zt 10;refine al (PN _ _ _) ?_)
 |(exact Zt 11;refine mfo 2 ?_)
 |(exact Zt 12;refine mfo 3 ?_)
 |(exact Zt 13;refine mfo 4 ?_)
 |(exact Zt 14;refine mq 6 rfl (Ev.pure rfl) ?_)
 |(exact Zt 15;refine qrt [] [] [_,_] rfl ⟨⟨_,_,0,_,rfl,rfl,Src.o 0 rfl,.inl ⟨rfl,by decide,_,rfl,rfl,rfl⟩⟩,rfl,trivial⟩ ?_)
 exact zq.h):Xo n Q P:=zh
theorem Pa (zh:Xo n Q P:=by
 apply Zom;intro zq;rotate_left;simp
 first
 |(exact Zt 1;refine sp (faR 3) ?_)
 |(exact Zt 3;apply Y 0xe4ee4e)
 |(exact Zt 6;refine LM.f 9 rfl oa trivial ?_)
 |(exact Zt 7;refine cfz 0 [] ?_)
 |(exact Zt 8;refine mfo 5 ?_)
 |(exact Zt 9;refine mq 4 rfl (Ev.pure rfl) ?_)
 |(exact Zt 10;refine sq (Ev.load rfl rfl rfl (Src.r 0 rfl) (bn oe)) ?_)
 |(exact Zt 11;refine sq (Ev.load rfl rfl rfl (Src.r 4 rfl) (aH oe)) ?_)
 |(exact Zt 12;rw [hrun])
 |(exact Zt 13;rw [H7 hB])
 |(exact Zt 14;refine LM.f 4 rfl oa trivial ?_)
 |(exact Zt 15;refine LM.f 6 rfl oa trivial ?_)
 exact zq.h):Xo n Q P:=zh
theorem On (zh:Xo n Q P:=by
 apply Zom;intro zq;rotate_left;simp
 first
 |(exact Zt 1;refine Pw ?_)
 |(exact Zt 2;refine Ps ?_)
 |(exact Zt 3;refine mq 1 rfl (Ev.pure rfl) ?_)
 |(exact Zt 4;refine mq 1 rfl (faR 1) ?_)
 |(exact Zt 5;refine sp (Ev.load rfl rfl rfl (Src.r 0 rfl) (bn oe)) ?_)
 |(exact Zt 6;unfold dx)
 |(exact Zt 7;apply Y 0x4c0e)
 |(exact Zt 8;(have y1:dL sec a b:=qA);revert y1)
 |(exact Zt 9;(have y1:=x.S_le);revert y1)
 |(exact Zt 10;(have y1:=x.n_le);revert y1)
 |(exact Zt 12;refine L.store (j:=1) rfl rfl rfl rfl rfl rfl rfl rfl ?_)
 |(exact Zt 14;refine LM.f 15 rfl oa trivial ?_)
 |(exact Zt 15;refine LM.f 5 rfl oa trivial ?_)
 exact zq.h):Xo n Q P:=zh
theorem N9 (zh:Xo n Q P:=by
 apply Zom;intro zq;rotate_left;simp
 first
 |(exact Zt 1;refine QE.more (r:=KidsR [] (J8 [])) (Has.kids0) ?_)
 |(exact Zt 2;refine QE.more (r:=Rd none (I64 [])) (Has.nil) ?_)
 |(exact Zt 3;refine QE.more (r:=Rd none (ay [] (J8 []))) (Has.nil) ?_)
 |(exact Zt 4;refine cfz 1 [0,2] ?_)
 |(exact Zt 5;refine lnr [_,_,_,_] [0,1,2,3] ?_)
 |(exact Zt 6;refine mq 2 rfl (ldR 1) ?_)
 |(exact Zt 7;refine qrt [1,0] [] [_,_] rfl rt ?_)
 |(exact Zt 8;refine qrt [] [] [_] rfl ⟨⟨_,_,0,_,rfl,rfl,Src.o 0 rfl,.inl ⟨rfl,by decide,_,rfl,rfl,rfl⟩⟩,trivial⟩ ?_)
 |(exact Zt 9;refine sp (aa (vs:=(flL g b)) rfl rfl rfl (Src.o 0 rfl) rfl rfl ob) ?_)
 |(exact Zt 10;refine sp (ng rfl rfl rfl rfl oe oe) ?_)
 |(exact Zt 11;refine sp (ldR 3) ?_)
 |(exact Zt 12;refine sp (ldR 4) ?_)
 |(exact Zt 13;refine sq (Ev.add rfl rfl oe oe) ?_)
 |(exact Zt 15;rw [e1,e2])
 exact zq.h):Xo n Q P:=zh
theorem N8 (zh:Xo n Q P:=by
 apply Zom;intro zq;rotate_left;simp
 first
 |(exact Zt 1;rw [H9 oe])
 |(exact Zt 2;unfold dz)
 |(exact Zt 3;unfold fR)
 |(exact Zt 4;apply Y 0xd1eca)
 |(exact Zt 5;apply Y 0xf84fd73f)
 |(exact Zt 6;apply Y 0x51e83e)
 |(exact Zt 7;(have y1:((ah ops).length:Int)=out:=mW ops out k3 k6);revert y1)
 |(exact Zt 8;refine av [_,_,_,_,_,_,_,_,_] (Hq [0,1,2,3,4,5,6,7,8] rfl) ?_)
 |(exact Zt 9;refine L.store (j:=3) rfl rfl rfl rfl rfl rfl rfl rfl ?_)
 |(exact Zt 10;refine cfz 2 [0,1] ?_)
 |(exact Zt 11;refine cnr [_,_,_,_] [0,1,2,3] ?_)
 |(exact Zt 12;refine al (Jq) ?_)
 |(exact Zt 13;refine mq 2 rfl (Ev.pure rfl) ?_)
 |(exact Zt 14;refine mq 3 rfl (Ev.pure rfl) ?_)
 |(exact Zt 15;refine mq 3 rfl (faR 0) ?_)
 exact zq.h):Xo n Q P:=zh
theorem N7 (zh:Xo n Q P:=by
 apply Zom;intro zq;rotate_left;simp
 first
 |(exact Zt 1;refine qfz 2 [0,1] ?_)
 |(exact Zt 2;refine sp (Ev.load rfl rfl rfl (Src.r 5 rfl) (kM oe)) ?_)
 |(exact Zt 3;refine sp (aa (vs:=[.int .i64 p0,.int .i64 p1,.int .i64 p2,.int .i64 p3,.int .i64 p4,.int .i64 p5,.int .i64 p6,.int .i64 p7,.int .i64 p8]) rfl rfl rfl (Src.r 0 rfl) rfl rfl ob) ?_)
 |(exact Zt 4;refine sp (kJ rfl rfl rfl rfl) ?_)
 |(exact Zt 5;refine sp (faR 10) ?_)
 |(exact Zt 6;refine sp (ldO 1) ?_)
 |(exact Zt 7;refine sp (ldO 2) ?_)
 |(exact Zt 8;refine sp (ldO 3) ?_)
 |(exact Zt 9;unfold dw)
 |(exact Zt 10;(have y1:=gE (ah ops) inn S n);revert y1)
 |(exact Zt 11;(have y1:=pg (ops:=ops) hf hg);revert y1)
 |(exact Zt 12;(rintro _ _ _ ⟨y1,y2,y3,rfl,rfl,rfl,y4⟩);revert y1 y2 y3 y4)
 |(exact Zt 13;(rintro ⟨y1,y2⟩);revert y1 y2)
 exact zq.h):Xo n Q P:=zh
theorem N6 (zh:Xo n Q P:=by
 apply Zom;intro zq;rotate_left;simp
 first
 |(exact Zt 4;refine Px ?_)
 |(exact Zt 5;refine Pu ?_)
 |(exact Zt 6;refine mq 0 rfl (faR 0) ?_)
 |(exact Zt 7;refine mq 1 rfl (faR 0) ?_)
 |(exact Zt 8;refine mq 2 rfl (ldR 0) ?_)
 |(exact Zt 9;refine sp (cL rfl rfl rfl rfl) ?_)
 |(exact Zt 10;refine sp (ae (k:=x.sec.toNat) rfl rfl rfl rfl rfl rfl oe oe (Src.r 5 rfl) qw) ?_)
 |(exact Zt 11;refine sp (Ev.load rfl rfl rfl (Src.r 1 rfl) (aK hh oe)) ?_)
 |(exact Zt 12;refine sp (aa (vs:=(flL f a)) rfl rfl rfl (Src.r 2 rfl) rfl rfl ob) ?_)
 |(exact Zt 13;refine sq (ae (k:=x.sec.toNat) rfl rfl rfl rfl rfl rfl oe oe (Src.r 4 rfl) ox) ?_)
 |(exact Zt 14;refine sq (Ev.load rfl rfl rfl (Src.r 0 rfl) (aH oe)) ?_)
 |(exact Zt 15;refine ⟨congrArg (Value.int .i64) ?_,rfl,rfl⟩)
 exact zq.h):Xo n Q P:=zh
theorem RE (zh:Xo n Q P:=by
 apply Zod;simp
 first
 |(exact Zt 0;exact Pn)
 |(exact Zt 1;exact Pm)
 |(exact Zt 2;exact Pj)
 |(exact Zt 3;exact Pi)
 |(exact Zt 4;exact Ph)
 |(exact Zt 5;exact Pg)
 |(exact Zt 6;exact Pf)
 |(exact Zt 7;exact Pe)
 |(exact Zt 8;exact Pd)
 |(exact Zt 9;exact Pb)
 |(exact Zt 10;exact Pa)
 |(exact Zt 11;exact On)
 |(exact Zt 12;exact N9)
 |(exact Zt 13;exact N8)
 |(exact Zt 14;exact N7)
 |(exact Zt 15;exact N6)):Xo n Q P:=zh
theorem Hz (zh:Xo n Q P:=by
 apply Zod;simp
 first
 |(exact Zt 14;exact RE)):Xo n Q P:=zh
theorem Lt (zh:Xo n Q P:=by
 apply Zom;intro zq;rotate_left;simp
 first
 |(exact Zt 1;rw [hf.dfs])
 |(exact Zt 2;unfold fitE)
 |(exact Zt 3;unfold cY)
 |(exact Zt 4;apply Y 0x4de2c)
 |(exact Zt 5;(have y1:cG inn out ops=60:=by unfold cG;rw [if_neg oe,hinv,hno];rfl);revert y1)
 |(exact Zt 6;(have y1:=dB.1 hszb0);revert y1)
 |(exact Zt 7;(obtain ⟨y1,y2,y3,y4,y5,y6⟩:1≤S∧S≤4096∧1≤n∧n≤64∧inn≤(S:Int)*(n:Int)∧out≤(S:Int)*(n:Int):=⟨by omega,by omega,by omega,by omega,hszb.2.2.2.2.1,hszb.2.2.2.2.2⟩);revert y1 y2 y3 y4 y5 y6)
 |(exact Zt 8;(obtain ⟨y1,y2,y3,y4,y5,y6⟩:=fT hE);revert y1 y2 y3 y4 y5 y6)
 |(exact Zt 11;refine av [_,_,_,_,_,_,_,_,_,_] (Hq [0,1,2,3,4,5,6,7,8,9] rfl) ?_)
 |(exact Zt 12;refine L.append (j:=1) rfl rfl rfl rfl ob rfl rfl rfl rfl (Src.o 0 rfl) oT (bN _) oe oJ rfl ?_)
 |(exact Zt 13;refine L.freeze 0 rfl [1] ob ob ?_)
 |(exact Zt 14;refine L.store (j:=0) rfl rfl rfl rfl rfl rfl rfl rfl ?_)
 exact zq.h):Xo n Q P:=zh
theorem Ls (zh:Xo n Q P:=by
 apply Zom;intro zq;rotate_left;simp
 first
 |(exact Zt 1;refine QE.nil_own 223 2 ?_)
 |(exact Zt 2;refine cfz 0 [1,2,3,4] ?_)
 |(exact Zt 3;refine mq 17 rfl (Ev.pure rfl) ?_)
 |(exact Zt 4;refine qrt [0] [] [_] rfl ⟨⟨_,_,0,_,rfl,rfl,Src.o 1 rfl,.inl ⟨rfl,by decide,_,rfl,rfl,rfl⟩⟩,trivial⟩ ?_)
 |(exact Zt 5;refine sp ((Ev.cast (u:=.int .u64 (0)) (Ev.pure rfl) (congrArg (Value.int .u64) ob))) ?_)
 |(exact Zt 6;refine sp (Ev.load rfl rfl rfl (Src.r 2 rfl) (aK hh oe)) ?_)
 |(exact Zt 7;refine sp (aa (vs:=(cP y G U V gc uc vc)) rfl rfl rfl (Src.r 1 rfl) rfl rfl ob) ?_)
 |(exact Zt 8;refine sp (aa (vs:=[_,_,_,_,_]) rfl rfl rfl (Src.o 1 rfl) rfl rfl ob) ?_)
 |(exact Zt 9;refine sq (faR 3) ?_)
 |(exact Zt 10;refine sq (ldR 3) ?_)
 |(exact Zt 12;unfold a6)
 |(exact Zt 13;unfold gj)
 |(exact Zt 14;apply Y 0x4de68)
 |(exact Zt 15;(have y1:fm f us at_ b:=Qz);revert y1)
 exact zq.h):Xo n Q P:=zh
theorem Lr (zh:Xo n Q P:=by
 apply Zom;intro zq;rotate_left;simp
 first
 |(exact Zt 1;(have y1:cG inn out ops=60:=by unfold cG;rw [if_pos oe]);revert y1)
 |(exact Zt 2;(have y1:syS inn out ops=ah ops:=QB);revert y1)
 |(exact Zt 3;(have y1:=(X.ok _ _ h1).und);revert y1)
 |(exact Zt 4;(have y1:=mS (by rw [hE];decide:cntE lf sz n inn out ops seq st data fs ls lst k≠0));revert y1)
 |(exact Zt 5;(have y1:=hf'.dfs);revert y1)
 |(exact Zt 6;(have y1:=ep (P:=X.P) w (X.ok _ _ ht));revert y1)
 |(exact Zt 7;(have y1:=x.st_len);revert y1)
 |(exact Zt 8;(obtain ⟨y1,y2,y3⟩:=aD (List.mem_of_getElem? hd));revert y1 y2 y3)
 |(exact Zt 9;(rintro ⟨y1,y2,y3,y4⟩ ⟨y5,y6⟩);revert y6;revert y5;revert y4;revert y3;revert y2;revert y1)
 |(exact Zt 10;(rintro ⟨y1,y2⟩ ⟨y3,y4⟩);revert y4;revert y3;revert y2;revert y1)
 exact zq.h):Xo n Q P:=zh
theorem Lq (zh:Xo n Q P:=by
 apply Zom;intro zq;rotate_left;simp
 first
 |(exact Zt 2;refine iu 3 1 ?_)
 |(exact Zt 3;refine L.append (j:=2) rfl rfl rfl rfl ob rfl rfl rfl rfl (Src.r 4 rfl) Og (vB _) oe oJ rfl ?_)
 |(exact Zt 4;refine L.freeze 0 rfl [] ob ob ?_)
 |(exact Zt 5;refine L.panic rfl ?_)
 |(exact Zt 7;refine LM.f 16 rfl oa trivial ?_)
 |(exact Zt 8;refine LM.f 34 rfl oa trivial ?_)
 |(exact Zt 9;refine LY.no rfl rfl rfl ?_)
 |(exact Zt 10;refine LY.yes rfl ?_)
 |(exact Zt 11;refine QE.more (r:=KidsR [] []) Has.kids0 ?_)
 |(exact Zt 12;refine QE.more (r:=Rd none (I64 (NI []))) (Has.nil) ?_)
 |(exact Zt 13;refine QE.more (r:=Rd none []) Has.nil ?_)
 |(exact Zt 15;refine mfo 19 ?_)
 exact zq.h):Xo n Q P:=zh
theorem Lp (zh:Xo n Q P:=by
 apply Zom;intro zq;rotate_left;simp
 first
 |(exact Zt 1;refine mfo 20 ?_)
 |(exact Zt 2;refine mq 4 rfl (ldR 0) ?_)
 |(exact Zt 3;refine qfz 0 [] ?_)
 |(exact Zt 4;refine sp (Bw rfl rfl) ?_)
 |(exact Zt 5;refine sp (Ev.load rfl rfl rfl (Src.r 0 rfl) (aH oe)) ?_)
 |(exact Zt 6;refine sp (Ev.load rfl rfl rfl (Src.r 0 rfl) (cv hh oe)) ?_)
 |(exact Zt 7;refine sp (aa (vs:=(flL f a)) rfl rfl rfl (Src.r 4 rfl) rfl rfl ob) ?_)
 |(exact Zt 8;refine sp (aa (vs:=(cP y G U V gc uc vc)) rfl rfl rfl (Src.r 3 rfl) rfl rfl ob) ?_)
 |(exact Zt 9;refine sp (aa (vs:=[.int .i64 p0,.int .i64 p1,.int .i64 (p2+1),.int .i64 p3,.int .i64 p4,.int .i64 p5,.int .i64 p6,.int .i64 p7,.int .i64 p8]) rfl rfl rfl (Src.r 0 rfl) rfl rfl ob) ?_)
 |(exact Zt 10;refine sp (aa (vs:=[_,_,_,_,_,_]) rfl rfl rfl (Src.r 1 rfl) rfl rfl ob) ?_)
 |(exact Zt 11;refine sp (bw (l:=k) rfl rfl rfl rfl rfl rfl oe) ?_)
 |(exact Zt 13;rw [DD hc17])
 |(exact Zt 14;rw [if_neg oe])
 |(exact Zt 15;simp [wpOpsS,go_sem,recoverD,hu,Exit.thenS])
 exact zq.h):Xo n Q P:=zh
theorem Lo (zh:Xo n Q P:=by
 apply Zom;intro zq;rotate_left;simp
 first
 |(exact Zt 4;apply Y 0x5ded73f)
 |(exact Zt 5;(have y1:f.Ok:=⟨os1,os2,on1,on2,owl,odl,orows,ol1,ol2,owear⟩);revert y1)
 |(exact Zt 6;(have y1:eL x=.agg (List.toArray x.cells):=by unfold eL;rw [if_pos oe]);revert y1)
 |(exact Zt 7;(have y1:n*S≤64*4096:=Nat.mul_le_mul hn2 hS2);revert y1)
 |(exact Zt 8;(have y1:=hu.l);revert y1)
 |(exact Zt 9;(have y1:=x.more_le);revert y1)
 |(exact Zt 10;(have y1:=x.sg_le);revert y1)
 |(exact Zt 11;(have y1:=x.u_le);revert y1)
 |(exact Zt 12;(rintro _ _ _ ⟨y1,rfl,rfl,rfl,y2⟩);revert y1 y2)
 |(exact Zt 13;(rintro ⟨y1,y2,y3⟩);revert y1 y2 y3)
 exact zq.h):Xo n Q P:=zh
theorem Ln (zh:Xo n Q P:=by
 apply Zom;intro zq;rotate_left;simp
 first
 |(exact Zt 5;refine (hfn.use hj hj' hn hR hs).mono ?_)
 |(exact Zt 6;refine av [_,_,_,_,_,_] (Hq [0,1,2,3,4,5] rfl) ?_)
 |(exact Zt 7;refine av [_] (Hq [0] rfl) ?_)
 |(exact Zt 8;refine L.append (j:=0) rfl rfl rfl rfl ob rfl rfl rfl rfl (Src.o 1 rfl) rfl (dJ rfl) oe oY rfl ?_)
 |(exact Zt 9;refine L.append (j:=1) rfl rfl rfl rfl ob rfl rfl rfl rfl (Src.r 3 rfl) Oe (cZ _) oe oY rfl ?_)
 |(exact Zt 10;refine L.append (j:=3) rfl rfl rfl rfl ob rfl rfl rfl rfl (Src.r 4 rfl) Og (vB _) oe oJ rfl ?_)
 |(exact Zt 12;refine HI rfl rfl rfl rfl ?_)
 |(exact Zt 13;refine LM.f 35 rfl oa trivial ?_)
 |(exact Zt 14;refine QE.freezeKids 1 rfl [0] ob ob ?_)
 exact zq.h):Xo n Q P:=zh
theorem Lm (zh:Xo n Q P:=by
 apply Zom;intro zq;rotate_left;simp
 first
 |(exact Zt 1;refine QE.more (r:=Rd none (bZ [])) (Has.nil) ?_)
 |(exact Zt 2;refine HB ?_)
 |(exact Zt 4;refine al (sT f.size oe) ?_)
 |(exact Zt 5;refine lnr [_,_,_,_,_] [0,1,2,3,4] ?_)
 |(exact Zt 6;refine mfo 14 ?_)
 |(exact Zt 7;refine mfo 18 ?_)
 |(exact Zt 8;refine mq 0 rfl (aa (vs:=(flL f a)) rfl rfl rfl (Src.r 5 rfl) rfl rfl ob) ?_)
 |(exact Zt 9;refine mq 1 rfl (aa (vs:=(cP y G U V gc uc vc)) rfl rfl rfl (Src.r 4 rfl) rfl rfl ob) ?_)
 |(exact Zt 10;refine mq 1 rfl (ldR 0) ?_)
 |(exact Zt 11;refine mq 1 rfl (nkR 10) ?_)
 |(exact Zt 12;refine mq 14 rfl (Ev.pure rfl) ?_)
 |(exact Zt 13;refine mq 2 rfl (faR 0) ?_)
 |(exact Zt 14;refine mq 2 rfl (faR 10) ?_)
 |(exact Zt 15;refine mq 3 rfl (ldR 0) ?_)
 exact zq.h):Xo n Q P:=zh
theorem Ll (zh:Xo n Q P:=by
 apply Zom;intro zq;rotate_left;simp
 first
 |(exact Zt 1;refine mq 4 rfl (faR 0) ?_)
 |(exact Zt 2;refine mq 6 rfl (faR 10) ?_)
 |(exact Zt 3;refine mq 7 rfl (Ev.pure rfl) ?_)
 |(exact Zt 4;refine qrt [0] [] [_,_,_] rfl rt ?_)
 |(exact Zt 5;refine qrt [1,0,1,1] [] [_,_] rfl ⟨⟨_,_,0,_,rfl,rfl,Src.o 0 rfl,.inl ⟨rfl,by decide,_,rfl,rfl,rfl⟩⟩,rfl,trivial⟩ ?_)
 |(exact Zt 6;refine qrt [2,1,0] [] [_,_] rfl ⟨⟨_,_,0,_,rfl,rfl,Src.o 0 rfl,.inl ⟨rfl,by decide,_,rfl,rfl,rfl⟩⟩,rfl,trivial⟩ ?_)
 |(exact Zt 7;refine sp (HO rfl rfl rfl) ?_)
 |(exact Zt 8;refine sp (Ew rfl rfl rfl rfl) ?_)
 |(exact Zt 9;refine sp (cf (k:=i) (m:=i*3) rfl rfl rfl rfl rfl rfl oe (Src.r 1 rfl) (dA (k:=i) oe) rfl) ?_)
 |(exact Zt 10;refine sp (cf (k:=i) (m:=i*5) rfl rfl rfl rfl rfl rfl oe (Src.r 1 rfl) (mj (k:=i) oe) rfl) ?_)
 |(exact Zt 11;refine sp (aa (vs:=(.int .i64 5::.int .i64 4::.int .i64 (x.S:Int)::.int .i64 (x.n:Int)::.bool false::.int .i64 (x.m:Int)::.int .i64 (x.m:Int)::.slice c.O x.ops.length c.oc::.slice c.Q x.seq.length c.qc::.slice c.H x.st.length c.hc::.slice none 0 0::.bool true::[])) rfl rfl rfl (Src.r 4 rfl) rfl rfl ob) ?_)
 |(exact Zt 12;refine sp (aa rfl rfl rfl (Src.o 2 rfl) rfl rfl ob) ?_)
 |(exact Zt 13;refine sp (aa rfl rfl rfl (Src.r 2 rfl) rfl rfl ob) ?_)
 |(exact Zt 14;refine sp (aa rfl rfl rfl (Src.r 3 rfl) rfl rfl ob) ?_)
 |(exact Zt 15;refine sp (faR 8) ?_)
 exact zq.h):Xo n Q P:=zh
theorem Lk (zh:Xo n Q P:=by
 apply Zom;intro zq;rotate_left;simp
 first
 |(exact Zt 1;refine sq (cL rfl rfl rfl rfl) ?_)
 |(exact Zt 2;refine sq (ae (k:=k) rfl rfl rfl rfl rfl rfl rfl oe (Src.r 0 rfl) oI) ?_)
 |(exact Zt 3;refine sq (faO 1) ?_)
 |(exact Zt 4;refine sq (ldO 1) ?_)
 |(exact Zt 5;refine ⟨by rw [hE];rfl,rfl,?_⟩)
 |(exact Zt 6;rw [List.getD_eq_getElem?_getD,List.getElem?_eq_getElem h])
 |(exact Zt 7;rw [Ah hfn.1 hf.agree ha _ rfl])
 |(exact Zt 8;rw [if_pos oe])
 |(exact Zt 9;rw [uM hL])
 |(exact Zt 10;simp only [binOp])
 |(exact Zt 14;apply Y 0x184f4fe)
 |(exact Zt 15;(have y1:(rwM (rdC inn out S (ah ops)) S (rdN inn out S) (ah ops) (k+1))=(rwM (rdC inn out S (ah ops)) S (rdN inn out S) (ah ops) k):=Cm hsk);revert y1)
 exact zq.h):Xo n Q P:=zh
theorem Lj (zh:Xo n Q P:=by
 apply Zom;intro zq;rotate_left;simp
 first
 |(exact Zt 1;(have y1:(t+1)*S=t*S+S:=Nat.succ_mul t S);revert y1)
 |(exact Zt 2;(have y1:(t:Int)*(S:Int)=((t*S:Nat):Int):=(Int.natCast_mul t S).symm);revert y1)
 |(exact Zt 3;(have y1:iE ls.length u (ls.getD u []) j:=oal);revert y1)
 |(exact Zt 4;(have y1:Stp w w' (fun _=>False):=⟨hs'.ext.os,hs'.ext.tape,hs'.ext.output,hs'.ext.size,fun k hk hn=>hs'.ext.block k hk hn⟩);revert y1)
 |(exact Zt 5;(have y1:args.length≤fn.ntmps:=obZ);revert y1)
 |(exact Zt 6;(have y1:mkP lf inn out sz n ops ol=Pp.zero:=zx obg);revert y1)
 |(exact Zt 7;(have y1:seq.length≤64:=oe);revert y1)
 |(exact Zt 8;(have y1:syS inn out ops=ah ops:=oas);revert y1)
 |(exact Zt 9;(have y1:t*S≤64*4096:=Nat.mul_le_mul oe hS2);revert y1)
 |(exact Zt 10;(have y1:us.length*f.size≤64*4096:=Nat.mul_le_mul oe oe);revert y1)
 |(exact Zt 11;(have y1:¬(¬(0≤sec∧sec≤(f.data.length:Int)-1)∨want.length≠f.size):=oe);revert y1)
 |(exact Zt 12;(have y1:=(List.getElem?_eq_some_iff.1 h2).1);revert y1)
 |(exact Zt 13;(have y1:=(mem_ready.1 hr).1);revert y1)
 |(exact Zt 14;(have y1:=fg a b a.length);revert y1)
 |(exact Zt 15;(have y1:=mS (by rw [hE];decide:cntE false (S:Int) (n:Int) (m:Int) out ops seq st data fs ls lst (kk:Int)≠0));revert y1)
 exact zq.h):Xo n Q P:=zh
theorem Li (zh:Xo n Q P:=by
 apply Zom;intro zq;rotate_left;simp
 first
 |(exact Zt 1;(have y1:=congrArg List.length hf1);revert y1)
 |(exact Zt 2;(have y1:=cj old t S);revert y1)
 |(exact Zt 3;(have y1:=Nh hl1 hl5 (show p6.toNat<y.gs.length by omega));revert y1)
 |(exact Zt 4;(have y1:=zE hlay);revert y1)
 |(exact Zt 5;(have y1:=uC (by rw [hE];decide:dQ lf sz n inn out ops seq st old≠0));revert y1)
 |(exact Zt 6;(have y1:=orows (y.gs.getD p6.toNat 0).toNat oe);revert y1)
 |(exact Zt 7;(have y1:=iR (rec:=rec) (size:=size) oe);revert y1)
 |(exact Zt 8;(have y1:=mh hbig hdone);revert y1)
 |(exact Zt 9;(have y1:=xf hvl);revert y1)
 |(exact Zt 10;(obtain ⟨y1,y2,-⟩:=ma (n:=n) (l:=l) i);revert y1 y2)
 |(exact Zt 11;(obtain ⟨y1,y2,y3,-,-,-⟩:=eS.1 hvl);revert y1 y2 y3)
 |(exact Zt 12;(obtain ⟨y1,y2,y3,y4,y5,y6⟩:=fT hE0);revert y1 y2 y3 y4 y5 y6)
 |(exact Zt 13;(obtain ⟨y1,y2⟩:∃ u,xs[0]?=some u:=⟨_,List.getElem?_eq_getElem h0⟩);revert y1 y2)
 |(exact Zt 14;(rintro _ _ _ ⟨y1,⟨y2,y3,y4⟩,rfl,rfl,rfl⟩);revert y4;revert y3;revert y2;revert y1)
 |(exact Zt 15;(rintro y1 y2 ⟨y3,y4,y5,y6⟩);revert y1 y2 y3 y4 y5 y6)
 exact zq.h):Xo n Q P:=zh
theorem Lh (zh:Xo n Q P:=by
 apply Zom;intro zq;rotate_left;simp
 first
 |(exact Zt 1;(rintro y1 ⟨y2,y3,y4,y5⟩);revert y1 y2 y3 y4 y5)
 |(exact Zt 2;(rintro ⟨y1,y2⟩ ⟨y3,y4,y5,y6⟩);revert y6;revert y5;revert y4;revert y3;revert y2;revert y1)
 exact zq.h):Xo n Q P:=zh
theorem Lf (zh:Xo n Q P:=by
 apply Zom;intro zq;rotate_left;simp
 first
 |(exact Zt 4;refine av [] trivial ?_)
 |(exact Zt 5;refine av [_,_,_,_,_,_,_,_,_,_,_,_,_,_,_] (Hq [0,1,2,3,4,5,6,7,8,9,10,11,12,13,14] rfl) ?_)
 |(exact Zt 6;refine av [_,_,_,_,_,_,_,_,_,_,_,_,_,_] (Hq [0,1,2,3,4,5,6,7,8,9,10,11,12,13] rfl) ?_)
 |(exact Zt 7;refine av [_,_,_,_,_,_,_,_] (Hq [0,1,2,3,4,5,6,7] rfl) ?_)
 |(exact Zt 8;refine av [_,_,_,_,_,_,_] (Hq [0,1,2,3,4,5,6] rfl) ?_)
 |(exact Zt 9;refine av [_,_,_,_,_,_,_] ⟨Has.r 0 rfl,Has.r 1 rfl,Has.r 2 rfl,Has.r 3 rfl,Has.r 4 rfl,Has.r 5 rfl,Has.o 1 rfl,trivial⟩ ?_)
 |(exact Zt 10;refine L.append (j:=1) rfl rfl rfl rfl ob rfl rfl rfl rfl (Src.r 4 rfl) Og (vB _) oe oJ rfl ?_)
 |(exact Zt 11;refine L.append (j:=2) rfl rfl rfl rfl ob rfl rfl rfl rfl (Src.r 3 rfl) Oe (cZ _) oe oY rfl ?_)
 exact zq.h):Xo n Q P:=zh
theorem Ld (zh:Xo n Q P:=by
 apply Zom;intro zq;rotate_left;simp
 first
 |(exact Zt 1;refine L.box rfl rfl rfl ?_)
 |(exact Zt 3;refine L.cap 0 rfl ?_)
 |(exact Zt 4;refine L.kcaps 1 rfl ?_)
 |(exact Zt 5;refine Ei (j:=0) rfl rfl rfl rfl rfl rfl rfl rfl ?_)
 |(exact Zt 6;refine cN (j:=6) rfl rfl rfl rfl rfl (Nat.zero_lt_succ _) rfl rfl ?_)
 |(exact Zt 8;refine LA.alt [0] oa ob ⟨⟨_,rfl,?_⟩,trivial⟩)
 |(exact Zt 11;refine LM.f 20 rfl oa trivial ?_)
 |(exact Zt 12;refine LM.f 36 rfl oa trivial ?_)
 |(exact Zt 13;refine LM.q 0 rfl oa (Ev.pure rfl) rfl trivial ?_)
 |(exact Zt 14;refine LM.q 1 rfl oa (Ev.pure rfl) rfl trivial ?_)
 |(exact Zt 15;refine LM.q 2 rfl oa (Ev.pure rfl) rfl trivial ?_)
 exact zq.h):Xo n Q P:=zh
theorem Lc (zh:Xo n Q P:=by
 apply Zom;intro zq;rotate_left;simp
 first
 |(exact Zt 3;refine LQ.nil ?_)
 |(exact Zt 4;refine HG rfl ?_)
 |(exact Zt 5;refine QE.norm (H':=[_,_]) [0,1] rt ob ?_)
 |(exact Zt 6;refine Ba (js:=[]) (hs:=[]) (vs:=[_]) nR rfl rt ob ?_)
 |(exact Zt 7;refine HE (js:=[0]) (hs:=[]) (j0:=[1,2,3]) (j1:=[]) (vs:=[_,_,_]) (l6 A8 A9 A10 _) rfl rfl ob rfl ⟨⟨_,_,0,_,rfl,rfl,Src.o 0 rfl,.inl ⟨rfl,by decide,_,rfl,rfl,rfl⟩⟩,⟨_,_,0,_,rfl,rfl,Src.o 1 rfl,.inr ⟨rfl,rfl⟩⟩,⟨_,_,0,_,rfl,rfl,Src.o 2 rfl,.inr ⟨rfl,rfl⟩⟩,trivial⟩ ob ?_)
 |(exact Zt 8;refine AZ 0 rfl ?_)
 |(exact Zt 9;refine s3 (js:=[]) (hs:=[]) (vs:=[_]) nR rfl rt ob ?_)
 |(exact Zt 11;refine cnr [_,_,_,_,_] [0,1,2,3,4] ?_)
 |(exact Zt 12;refine al (DX (bj (a.hs.getD (aj f y.a y.b).sec.toNat (none,0)).1 (a.hs.getD (aj f y.a y.b).sec.toNat (none,0)).2 (8+30*k) 1) ((a.hs.getD (aj f y.a y.b).sec.toNat (none,0)).2-(8+30*k)) (ck (f.data.getD (aj f y.a y.b).sec.toNat []) k) oe) ?_)
 |(exact Zt 13;refine al (Jh _ _ _) ?_)
 |(exact Zt 14;refine mq 0 rfl (aa (vs:=(flL f a)) rfl rfl rfl (Src.r 4 rfl) rfl rfl ob) ?_)
 |(exact Zt 15;refine mq 1 rfl (aa (vs:=(cP y G U V gc uc vc)) rfl rfl rfl (Src.r 3 rfl) rfl rfl ob) ?_)
 exact zq.h):Xo n Q P:=zh
theorem Lb (zh:Xo n Q P:=by
 apply Zom;intro zq;rotate_left;simp
 first
 |(exact Zt 1;refine mq 12 rfl (Ev.build rfl rfl rfl rfl rfl rfl rfl) ?_)
 |(exact Zt 2;refine mq 12 rfl (Ev.pure rfl) ?_)
 |(exact Zt 3;refine mq 16 rfl (Ev.pure rfl) ?_)
 |(exact Zt 4;refine mq 3 rfl (faR 10) ?_)
 |(exact Zt 5;refine mq 5 rfl (faR 0) ?_)
 |(exact Zt 6;refine mq 5 rfl (ldR 0) ?_)
 |(exact Zt 7;refine mq 5 rfl (nkR 10) ?_)
 |(exact Zt 8;refine mq 7 rfl (faR 10) ?_)
 |(exact Zt 9;refine mq 8 rfl (faR 10) ?_)
 |(exact Zt 10;refine mq 9 rfl (ldR 10) ?_)
 |(exact Zt 11;refine qrt [1,0] [] [_] rfl ⟨⟨_,_,0,_,rfl,rfl,Src.o 0 rfl,.inl ⟨rfl,by decide,_,rfl,rfl,rfl⟩⟩,trivial⟩ ?_)
 |(exact Zt 12;refine qrt [4,0,1,3] [] [_,_] rfl ⟨⟨_,_,0,_,rfl,rfl,Src.o 0 rfl,.inl ⟨rfl,by decide,_,rfl,rfl,rfl⟩⟩,rfl,trivial⟩ ?_)
 |(exact Zt 13;refine sp (ga rfl rfl rfl rfl rfl rfl rfl) ?_)
 |(exact Zt 14;refine sp (Ev.cast (u:=.int .i64 (((n-(ptS n l i).2):Nat):Int)) (Ev.sub rfl rfl oe oe) (congrArg (Value.int .i64) oe)) ?_)
 |(exact Zt 15;refine sp (Ev.cast (u:=.int .i64 (((t*S:Nat)):Int)) (Ev.mul rfl rfl QS QS) (congrArg (Value.int .i64) m1)) ?_)
 exact zq.h):Xo n Q P:=zh
theorem La (zh:Xo n Q P:=by
 apply Zom;intro zq;rotate_left;simp
 first
 |(exact Zt 1;refine sp (Ev.cast (u:=.int .i64 (max inn out)) (Ev.pure rfl) (congrArg (Value.int .i64) qa)) ?_)
 |(exact Zt 2;refine sp (Ev.cast (u:=.int .u8 (((w2.toNat%40):Nat):Int)) (Ev.rem rfl rfl oe ob) (congrArg (Value.int .u8) OT)) ?_)
 |(exact Zt 3;refine sp (Ev.fieldAddr rfl rfl rfl rfl rfl rfl (Src.r 1 rfl) (dA (k:=i) oe) rfl) ?_)
 |(exact Zt 4;refine sp (cf (k:=i) (m:=i*3) rfl rfl rfl rfl rfl rfl oe (Src.r 0 rfl) (ji (k:=i) oe) rfl) ?_)
 |(exact Zt 5;refine sp (cf (k:=k) (m:=k*2) rfl rfl rfl rfl rfl rfl hk2 (Src.r 0 rfl) (bC hk2) rfl) ?_)
 |(exact Zt 6;refine sp (ae (k:=u) rfl rfl rfl rfl rfl rfl rfl oe (Src.r 0 rfl) O5) ?_)
 |(exact Zt 7;refine sp (ae (k:=x.sec.toNat) rfl rfl rfl rfl rfl rfl oe oe (Src.o 2 rfl) ox) ?_)
 |(exact Zt 8;refine sp (aC (k:=1) (m:=2) rfl rfl rfl rfl rfl rfl ob (Src.r 0 rfl) Oc rfl) ?_)
 |(exact Zt 9;refine sp (Ev.load rfl rfl rfl (Src.r 1 rfl) (bn oe)) ?_)
 |(exact Zt 10;refine sp (aa (vs:=(flL f a)) rfl rfl rfl (Src.r 5 rfl) rfl rfl ob) ?_)
 |(exact Zt 11;refine sp (aa (vs:=(cP y G U V gc uc vc)) rfl rfl rfl (Src.r 4 rfl) rfl rfl ob) ?_)
 |(exact Zt 12;refine sp (ldR 11) ?_)
 |(exact Zt 13;refine sq (faR 2) ?_)
 |(exact Zt 14;refine sq (ldR 2) ?_)
 exact zq.h):Xo n Q P:=zh
theorem K9 (zh:Xo n Q P:=by
 apply Zom;intro zq;rotate_left;simp
 first
 |(exact Zt 1;rw [Array.getElem?_append_left obQ])
 |(exact Zt 2;rw [List.all_eq_true])
 |(exact Zt 3;rw [List.find?_eq_none])
 |(exact Zt 4;rw [List.getD_eq_getElem?_getD,List.getElem?_eq_getElem h1])
 |(exact Zt 5;rw [List.range_succ,List.all_append])
 |(exact Zt 6;rw [zf (.inl hno)])
 |(exact Zt 7;rw [zf (.inr hno)])
 |(exact Zt 8;rw [r8 (show (aN f y.a y.b)=an f y.a y.b from cM hyes) (show (aN f y.a y.b).found=true by rw [cM hyes];exact hyes) hright hne hlt hrd])
 |(exact Zt 9;rw [E1,E1,LZ])
 |(exact Zt 10;rw [nH (s:=[p0,p1,p2,p3,p4,p5,p6,p7,p8]) hc16 (fun q=>hc44 q.2)])
 |(exact Zt 11;rw [show (sgF f y [p0,p1,p2,p3,p4,p5,p6,p7,p8] c)=(a6 f y.a y.b [p0,p1,(p2+1),p3,p4,p5,p6,p7,p8]) from Eq.trans (nH (s:=[p0,p1,p2,p3,p4,p5,p6,p7,p8]) (Int.not_le.2 hsg) (fun q=>hc41 q.2)) (ej hge hc53)])
 |(exact Zt 12;rw [nu oe hc36 hxe hc70])
 |(exact Zt 13;rw [kT oe hc36 hxe oe])
 |(exact Zt 14;show Leaves X.P fn a.tmps _ a.defers .returning w)
 |(exact Zt 15;simp only [Region.wanted,hy])
 exact zq.h):Xo n Q P:=zh
theorem K8 (zh:Xo n Q P:=by
 apply Zom;intro zq;rotate_left;simp
 first
 |(exact Zt 5;(have y1:((t+1:Nat):Int)*(S:Int)=(((t+1)*S:Nat):Int):=(Int.natCast_mul (t+1) S).symm);revert y1)
 |(exact Zt 6;(have y1:(List.toArray as).map ρ=List.toArray args:=Qw);revert y1)
 |(exact Zt 7;(have y1:(aL (ah ops) inn S (t+1)).length=(aL (ah ops) inn S t).length+1:=qi);revert y1)
 |(exact Zt 8;(have y1:(ptS n l i).2=n:=oe);revert y1)
 |(exact Zt 9;(have y1:(zeroValue e).run X.P w=.ok ei.zero w:=Qo);revert y1)
 |(exact Zt 10;(have y1:8+(aw s).length≤f.size:=tC hft.2.2.2.2.2);revert y1)
 |(exact Zt 11;(have y1:cntE false (S:Int) (n:Int) (m:Int) out ops seq st data (S:Int) (n:Int) lst (kk:Int)=_:=pO hvl oe qQ);revert y1)
 |(exact Zt 12;(have y1:j∉js:=by simpa using hjj);revert y1)
 |(exact Zt 13;(have y1:k*f.size≤64*4096:=Nat.mul_le_mul oe oe);revert y1)
 |(exact Zt 14;(have y1:ptF n l=(ptS n l i).1:=by unfold ptF ptE;rw [hB,if_neg oe]);revert y1)
 |(exact Zt 15;(have y1:¬ (k:Int)<0:=oe);revert y1)
 exact zq.h):Xo n Q P:=zh
theorem K7 (zh:Xo n Q P:=by
 apply Zom;intro zq;rotate_left;simp
 first
 |(exact Zt 1;(have y1:∀ k,bQ s (k+1)=bQ s k++dd (s.getD k 0).toNat (wds.getD k 0):=ik s);revert y1)
 |(exact Zt 2;(have y1:=Own.len hown);revert y1)
 |(exact Zt 3;(have y1:=D6 hok hu);revert y1)
 |(exact Zt 4;(have y1:=kx (rec.drop 1));revert y1)
 |(exact Zt 5;(have y1:=gE (ah ops) inn S t);revert y1)
 |(exact Zt 6;(have y1:=mW ops out k3 k6);revert y1)
 |(exact Zt 7;(have y1:=pR (b:=b) (p:=at_.toNat) (z:=f.size) (s:=s) oe);revert y1)
 |(exact Zt 8;(have y1:=mS (by rw [hE];decide:cntE false (S:Int) (n:Int) (m:Int) out ops seq st data (S:Int) (n:Int) lst (kk:Int)≠0));revert y1)
 |(exact Zt 9;(have y1:=fD hρ ha);revert y1)
 |(exact Zt 10;(have y1:=h.own j _ hj);revert y1)
 |(exact Zt 11;(have y1:=h.val);revert y1)
 |(exact Zt 12;(have y1:=hsat.own j _ hj);revert y1)
 |(exact Zt 13;(have y1:=orows k oe);revert y1)
 |(exact Zt 14;(have y1:=orows x.sec.toNat oe);revert y1)
 |(exact Zt 15;(have y1:=EO (inn:=inn) (out:=out) (S:=S) (i:=k) oe oe);revert y1)
 exact zq.h):Xo n Q P:=zh
theorem K6 (zh:Xo n Q P:=by
 apply Zom;intro zq;rotate_left;simp
 first
 |(exact Zt 1;(have y1:=bY (ah ops) inn S (rdN inn out S) (rdN inn out S));revert y1)
 |(exact Zt 2;(have y1:=Gg (n:=n) hS1 r4 r3);revert y1)
 |(exact Zt 3;(have y1:=xY (P:=X.P) w (X.ok _ _ ht));revert y1)
 |(exact Zt 4;(have y1:=fx (f.data.getD (aj f y.a y.b).sec.toNat []) (aj f y.a y.b) k);revert y1)
 |(exact Zt 5;(have y1:=iI seq);revert y1)
 |(exact Zt 6;(have y1:=x.seq_len);revert y1)
 |(exact Zt 7;(obtain ⟨y1,y2,y3⟩:=id hk);revert y1 y2 y3)
 |(exact Zt 8;(obtain ⟨y1,y2,y3⟩:=aD hd);revert y1 y2 y3)
 |(exact Zt 9;(obtain ⟨y1,y2⟩:=id h);revert y1 y2)
 |(exact Zt 10;(rintro _ _ _ ⟨y1,y2,y3,y4,y5,y6,rfl,rfl,rfl⟩);revert y1 y2 y3 y4 y5 y6)
 |(exact Zt 11;(rintro _ _ _ ⟨y1,⟨y2,y3⟩,rfl,rfl,rfl⟩);revert y3;revert y2;revert y1)
 exact zq.h):Xo n Q P:=zh
theorem K5 (zh:Xo n Q P:=by
 apply Zom;intro zq;rotate_left;simp
 first
 |(exact Zt 11;refine (hfn.useR hj hj' hn hR hs).mono ?_)
 |(exact Zt 12;refine C.le (Γ':=[(0,.slice LA l.length lc),(1,.int .i64 (n:Int)),(4,ag A4 0),(5,ag A5 0),(6,.int .i64 (i:Int)),(8,ag A8 0)]) (R':=[Rd LA (jj l)]) (H':=[Own 40 4 A4 1 1 [.bool false,.int .i64 0,.int .i64 0,.slice none 0 0],Own 40 4 A5 1 1 [.bool false,.int .i64 (n:Int),.int .i64 ((ptS n l i).2:Nat),.slice A (ptS n l i).1.length c],Own 157 5 A (ptS n l i).1.length c (bZ (ptS n l i).1),Own 157 5 A8 1 1 (Po.cells (ptO n (ptS n l i).2 (l.getD i (0,0,0))))]) (by exact lk [0] [0,1,2,3] (hh:=⟨rfl,rfl,rfl,(congrArg some (ax rfl (by rw [hbk];rfl))),trivial⟩)) ?_)
 |(exact Zt 13;refine C.more (r:=KidsR [] []) Has.kids0 ?_)
 |(exact Zt 14;refine av (flR f a++[Rd G (I64 y.gs),Rd U (I64 y.us),Rd V (I64 y.ls),Rd OA (bZ k.pl.ops),Rd QA (I64 k.pl.seq),Rd HA (I64 k.pl.st),Rd M (mcA f a y G U V gc uc vc (.int .i64 p0::.int .i64 p1::.int .i64 p2::.int .i64 p3::.int .i64 p4::.int .i64 p5::.int .i64 p6::.int .i64 p7::.int .i64 p8::mcK k OA QA HA oc qc hc (rv::.int .i64 0::.int .i64 0::.int .i64 0::.slice none 0 0::.bool false::[])))]) ⟨Has.r 0 rfl,Has.r 1 rfl,Has.r 2 rfl,Has.r 3 rfl,Has.r 4 rfl,Has.r 5 rfl,Has.r 6 rfl,Has.r 7 rfl,Has.r 8 rfl,Has.r 9 rfl,Has.o 0 rfl,trivial⟩ ?_)
 |(exact Zt 15;refine av [_,_,_,_] (Hq [0,1,2,3] rfl) ?_)
 exact zq.h):Xo n Q P:=zh
theorem K4 (zh:Xo n Q P:=by
 apply Zom;intro zq;rotate_left;simp
 first
 |(exact Zt 1;refine L.append (j:=1) rfl rfl rfl rfl ob rfl rfl rfl rfl (Src.o 0 rfl) Q8 (bN _) oe oJ rfl ?_)
 |(exact Zt 2;refine L.append (j:=2) rfl rfl rfl rfl ob rfl rfl rfl rfl (Src.o 3 rfl) rfl (EU _) oe Q5 rfl ?_)
 |(exact Zt 3;refine L.append (j:=2) rfl rfl rfl rfl ob rfl rfl rfl rfl (Src.o 4 rfl) rfl (EU _) oe Q5 rfl ?_)
 exact zq.h):Xo n Q P:=zh
theorem K3 (zh:Xo n Q P:=by
 apply Zom;intro zq;rotate_left;simp
 first
 |(exact Zt 5;refine L.call (js:=[]) (js':=[0,1,2]) (mw IA ((eg f y.n).take p.inn.toNat) ic p.sz p.n p.lf p.inn p.out p.ops p.seq p.st OA QA HA oc qc hc hpl.1 hpl.2.1 hpl.2.2 oP oP) rfl rfl rfl ob ⟨((Has.take (Has.o 0 rfl) p.inn.toNat).cast (bz _ _)),(Has.r 11 rfl),(Has.r 12 rfl),(Has.r 13 rfl),trivial⟩ rfl ?_)
 |(exact Zt 8;refine L.freeze 0 rfl [1,2,3] ob ob ?_)
 |(exact Zt 9;refine L.freeze 0 rfl [1,2] ob ob ?_)
 |(exact Zt 10;refine m9 (cs:=Po.cells (ptO n (ptS n l i).2 (l.getD i (0,0,0)))) rfl rfl rfl rfl (Nat.zero_lt_succ _) rfl rfl rfl ?_)
 |(exact Zt 11;refine m9 (cs:=Po.cells (⟨1,((ptS n l i).2:Int),((n-(ptS n l i).2:Nat):Int),0⟩:Po)) rfl rfl rfl rfl (Nat.zero_lt_succ _) rfl rfl rfl ?_)
 |(exact Zt 12;refine lF rfl rfl rfl rfl rfl rfl rfl rfl rfl oab oe rfl ?_)
 |(exact Zt 13;refine cN (j:=4) rfl rfl rfl rfl rfl (Nat.zero_lt_succ _) rfl rfl ?_)
 exact zq.h):Xo n Q P:=zh
theorem K2 (zh:Xo n Q P:=by
 apply Zom;intro zq;rotate_left;simp
 first
 |(exact Zt 4;refine LM.f 19 rfl oa trivial ?_)
 |(exact Zt 5;refine LM.f 21 rfl oa trivial ?_)
 |(exact Zt 6;refine LM.f 33 rfl oa trivial ?_)
 |(exact Zt 7;refine LM.q 10 rfl oa (Ev.pure rfl) rfl trivial ?_)
 |(exact Zt 8;refine LM.q 4 rfl oa (Ev.pure rfl) rfl trivial ?_)
 |(exact Zt 9;refine LM.q 5 rfl oa (Ev.pure rfl) rfl trivial ?_)
 |(exact Zt 10;refine LM.q 8 rfl oa (Ev.pure rfl) rfl trivial ?_)
 |(exact Zt 11;refine LM.q 9 rfl oa (Ev.pure rfl) rfl trivial ?_)
 |(exact Zt 12;refine Pv ?_)
 exact zq.h):Xo n Q P:=zh
theorem K1 (zh:Xo n Q P:=by
 apply Zom;intro zq;rotate_left;simp
 first
 |(exact Zt 3;refine QE.norm (H':=[_,_,_]) [0,1,2] rt ob ?_)
 |(exact Zt 4;refine fo (js:=[0]) (hs:=[0]) (vs:=[_]) rfl rt ob ?_)
 |(exact Zt 5;refine fo (js:=[]) (hs:=[0]) (vs:=[_]) rfl rt ob ?_)
 |(exact Zt 7;refine QE.round (k+1) ?_ oe (lk [0,1,2,3,4,5,6,7,8,9] []))
 |(exact Zt 9;refine cfz 1 [0,2,3,4,5] ?_)
 |(exact Zt 10;refine cfz 1 [0,2,3] ?_)
 |(exact Zt 11;refine cfz 3 [0,1,2] ?_)
 |(exact Zt 12;refine hK _ _ (h _ _ ?_ hs))
 |(exact Zt 13;refine hK _ _ (hh _ _ (hf.put_none _) ?_))
 |(exact Zt 14;refine al (AP f a hok hh x XA xc hxl hc17) ?_)
 |(exact Zt 15;refine al (sk IA (eg f y.n) ic p.inn.toNat hic) ?_)
 exact zq.h):Xo n Q P:=zh
theorem K0 (zh:Xo n Q P:=by
 apply Zom;intro zq;rotate_left;simp
 first
 |(exact Zt 1;refine al (yb lf inn out ops OA oc hops) ?_)
 |(exact Zt 2;refine al (Cw s) ?_)
 |(exact Zt 3;refine al (xn lf inn out ops OA oc hops) ?_)
 |(exact Zt 4;refine aJ (tY (aq y.a (ao f.size 1 (aw s)) 3 f).1 b hk.1 hb hbc y.b (ao f.size 0 []) QO f.size f.size (b7 (slot:=[]) qb) hk.2.1.symm ⟨by omega,by rw [hk.2.2];omega⟩) ?_)
 |(exact Zt 5;refine aJ (tY f a hok hh hcap y.a (ao f.size 1 (aw s)) WO f.size f.size (b7 hfit) rfl ⟨hft.2.1,hft.2.2.2.1⟩) ?_)
 |(exact Zt 6;refine aJ (eU f a hok hh y G U V gc uc vc hyn hyl hcap (aS f (y.gs.getD p6.toNat 0) c) XA xc [p0,p1,(p2+1),p3,p4,p5,p6,p7,p8] rfl) ?_)
 |(exact Zt 7;refine aJ (jk f a hok hh (y.gs.getD p6.toNat 0) c CA c.length cc rfl oe) ?_)
 |(exact Zt 8;refine mq 0 rfl (aa (vs:=(flL f a)) rfl rfl rfl (Src.r 2 rfl) rfl rfl ob) ?_)
 |(exact Zt 9;refine mq 0 rfl (aa rfl rfl rfl (Src.r 0 rfl) rfl rfl ob) ?_)
 |(exact Zt 10;refine mq 0 rfl (aa rfl rfl rfl (Src.r 1 rfl) rfl rfl ob) ?_)
 |(exact Zt 11;refine mq 0 rfl (aa rfl rfl rfl (Src.r 5 rfl) rfl rfl ob) ?_)
 |(exact Zt 12;refine mq 1 rfl (faR 2) ?_)
 |(exact Zt 13;refine mq 11 rfl (faR 1) ?_)
 |(exact Zt 14;refine mq 12 rfl (ldR 1) ?_)
 |(exact Zt 15;refine mq 13 rfl (Ev.pure rfl) ?_)
 exact zq.h):Xo n Q P:=zh
theorem KZ (zh:Xo n Q P:=by
 apply Zom;intro zq;rotate_left;simp
 first
 |(exact Zt 1;refine mq 15 rfl (Ev.pure rfl) ?_)
 |(exact Zt 2;refine mq 18 rfl (Ev.pure rfl) ?_)
 |(exact Zt 3;refine mq 2 rfl (ldR 2) ?_)
 |(exact Zt 4;refine mq 2 rfl (nkR 10) ?_)
 |(exact Zt 5;refine mq 3 rfl (faR 5) ?_)
 |(exact Zt 6;refine mq 3 rfl (ldR 1) ?_)
 |(exact Zt 7;refine mq 6 rfl (ldR 0) ?_)
 |(exact Zt 8;refine qrt [0,1,2,3] [] [_,_] rfl ⟨⟨_,_,0,_,rfl,rfl,Src.o 0 rfl,.inl ⟨rfl,by decide,_,rfl,rfl,rfl⟩⟩,rfl,trivial⟩ ?_)
 |(exact Zt 9;refine qrt [0] [] [_,_,_] rfl ⟨⟨_,_,0,_,rfl,rfl,Src.o 1 rfl,.inl ⟨rfl,by decide,_,rfl,rfl,rfl⟩⟩,rfl,rfl,trivial⟩ ?_)
 |(exact Zt 10;refine qrt [0] [] [_] rfl rt ?_)
 |(exact Zt 11;refine qrt [] [2] [_,_] rfl rt ?_)
 |(exact Zt 12;refine qrt [] [2] [_] rfl rt ?_)
 |(exact Zt 13;refine sp ((Ev.cast (u:=.int .u64 (0)) (Ev.shr rfl rfl ob) (congrArg (Value.int .u64) ob))) ?_)
 |(exact Zt 14;refine sp ((Ev.cast (u:=.int .u64 (1)) (Ev.pure rfl) (congrArg (Value.int .u64) ob))) ?_)
 |(exact Zt 15;refine sp (Ev.cast (u:=.int .i64 ((((ptS n l i).2+(ptO n (ptS n l i).2 (l.getD i (0,0,0))).ln.toNat):Nat):Int)) (Ev.add rfl rfl oe oe) (congrArg (Value.int .i64) oe)) ?_)
 exact zq.h):Xo n Q P:=zh
theorem KY (zh:Xo n Q P:=by
 apply Zom;intro zq;rotate_left;simp
 first
 |(exact Zt 1;refine sp (Ev.cast (u:=.int .i64 ((((t+1)*S:Nat)):Int)) (Ev.mul rfl rfl oan oan) (congrArg (Value.int .i64) m2)) ?_)
 |(exact Zt 2;refine sp (Ev.cast (u:=.int .i64 (((t+1):Nat):Int)) (Ev.add rfl rfl oe oe) (congrArg (Value.int .i64) oe)) ?_)
 |(exact Zt 3;refine sp (Ev.fieldAddr rfl rfl rfl rfl rfl rfl (Src.r 0 rfl) (bC hk2) rfl) ?_)
 |(exact Zt 4;refine sp (ae (k:=0) rfl rfl rfl rfl rfl rfl rfl oe (Src.r 0 rfl) oI) ?_)
 |(exact Zt 5;refine sp (ae (k:=i) rfl rfl rfl rfl rfl rfl rfl oe (Src.r 0 rfl) ox) ?_)
 |(exact Zt 6;refine sp (ae (k:=k) rfl rfl rfl rfl rfl rfl rfl oe (Src.r 0 rfl) oI) ?_)
 |(exact Zt 7;refine sp (ae (k:=k) rfl rfl rfl rfl rfl rfl rfl oe (Src.r 0 rfl) ox) ?_)
 |(exact Zt 8;refine sp (ae (k:=sec.toNat) rfl rfl rfl rfl rfl rfl oe oe (Src.r 1 rfl) ow) ?_)
 |(exact Zt 9;refine sp (aC (k:=0) (m:=1) rfl rfl rfl rfl rfl rfl ob (Src.r 0 rfl) Oc rfl) ?_)
 |(exact Zt 10;refine sp (aa (vs:=(flL f a)) rfl rfl rfl (Src.r 3 rfl) rfl rfl ob) ?_)
 |(exact Zt 11;refine sp (aa (vs:=(cP x.lay c.G c.U c.V c.gc c.uc c.vc)) rfl rfl rfl (Src.o 1 rfl) rfl rfl ob) ?_)
 |(exact Zt 12;refine sp (aa (vs:=(cP x.lay c.G c.U c.V c.gc c.uc c.vc)) rfl rfl rfl (Src.r 10 rfl) rfl rfl ob) ?_)
 |(exact Zt 13;refine sp (aa (vs:=(cP x.lay c.G c.U c.V c.gc c.uc c.vc)) rfl rfl rfl (Src.r 4 rfl) rfl rfl ob) ?_)
 |(exact Zt 14;refine sp (aa (vs:=(cP y G U V gc uc vc)) rfl rfl rfl (Src.r 2 rfl) rfl rfl ob) ?_)
 |(exact Zt 15;refine sp (aa (vs:=Po.cells (ops.getD i Po.zero)) rfl rfl rfl (Src.r 1 rfl) (ml ops i oe) rfl ob) ?_)
 exact zq.h):Xo n Q P:=zh
theorem KX (zh:Xo n Q P:=by
 apply Zom;intro zq;rotate_left;simp
 first
 |(exact Zt 1;refine sp (aa (vs:=Po.cells (ptO n (ptS n l i).2 (l.getD i (0,0,0)))) rfl rfl rfl (Src.o 3 rfl) rfl rfl ob) ?_)
 |(exact Zt 2;refine sp (aa (vs:=[.int .i64 p0,.int .i64 p1,.int .i64 p2,.int .i64 p3,.int .i64 p4,.int .i64 p5,.int .i64 p6,.int .i64 p7,.int .i64 p8]) rfl rfl rfl (Src.o 0 rfl) rfl rfl ob) ?_)
 |(exact Zt 3;refine sp (aa (vs:=[_,_,_,_,_,_,_,_,_]) rfl rfl rfl (Src.r 0 rfl) rfl rfl ob) ?_)
 |(exact Zt 4;refine sp (aa (vs:=[_,_,_,_,_,_,_,_]) rfl rfl rfl (Src.o 1 rfl) rfl rfl ob) ?_)
 |(exact Zt 5;refine sp (aa (vs:=[_,_,_,_,_,_,_,_]) rfl rfl rfl (Src.r 2 rfl) rfl rfl ob) ?_)
 |(exact Zt 6;refine sp (aa (vs:=[_,_,_,_]) rfl rfl rfl (Src.o 2 rfl) rfl rfl ob) ?_)
 |(exact Zt 7;refine sp (aa rfl rfl rfl (Src.o 0 rfl) rfl rfl ob) ?_)
 |(exact Zt 8;refine sp (Et rfl rfl rfl) ?_)
 |(exact Zt 9;refine sp (Bp rfl rfl rfl) ?_)
 |(exact Zt 10;refine sq (Bw rfl rfl) ?_)
 |(exact Zt 11;refine sq (ae (k:=i) rfl rfl rfl rfl rfl rfl rfl oe (Src.r 0 rfl) ox) ?_)
 |(exact Zt 12;refine sq (ae (k:=k) rfl rfl rfl rfl rfl rfl rfl oe (Src.r 1 rfl) oI) ?_)
 |(exact Zt 13;refine sq (ae (k:=k) rfl rfl rfl rfl rfl rfl rfl oe (Src.r 3 rfl) ox) ?_)
 |(exact Zt 14;refine sq (ae (k:=k) rfl rfl rfl rfl rfl rfl rfl oe (Src.r 5 rfl) oI) ?_)
 |(exact Zt 15;refine sq (Ev.load rfl rfl rfl (Src.r 1 rfl) (bn oe)) ?_)
 exact zq.h):Xo n Q P:=zh
theorem KW (zh:Xo n Q P:=by
 apply Zom;intro zq;rotate_left;simp
 first
 |(exact Zt 1;refine sq (Ev.load rfl rfl rfl (Src.r 2 rfl) (Eg oe)) ?_)
 |(exact Zt 2;refine sq (Ev.load rfl rfl rfl (Src.r 3 rfl) (aH oe)) ?_)
 |(exact Zt 3;refine sq (Ev.load rfl rfl rfl (Src.r 5 rfl) (bn oe)) ?_)
 |(exact Zt 4;refine sq (Ev.sub rfl rfl oe oe) ?_)
 |(exact Zt 5;refine ⟨A,c,?_,rfl,rfl⟩)
 |(exact Zt 7;rw [List.length_append])
 |(exact Zt 8;rw [List.length_take,List.length_drop])
 |(exact Zt 9;rw [List.range_succ,List.find?_append,h])
 |(exact Zt 10;rw [lx hfn.1 hf.agree hg ha _ rfl,hall])
 |(exact Zt 11;rw [h a.eval w hf.agree hs _ rfl])
 |(exact Zt 12;rw [← Bool.not_eq_true,uL hb6])
 |(exact Zt 13;rw [← Int.natCast_mul])
 |(exact Zt 14;show (upI _ _).length≤1000)
 |(exact Zt 15;show Leaves X.P fn a.tmps _ a.defers (.panicking [{ v:=pv,recovered:=false }]) w)
 exact zq.h):Xo n Q P:=zh
theorem KV (zh:Xo n Q P:=by
 apply Zom;intro zq;rotate_left;simp
 first
 |(exact Zt 1;show Value.agg (List.toArray [.bool false,.int .i64 (n:Int),.int .i64 (((ptS n l i).2:Nat):Int),.slice A (ptS n l i).1.length c])=_)
 |(exact Zt 2;simp [UInt8.ofInt,UInt8.toNat_ofNat'])
 |(exact Zt 3;simp [invoke,callFunc,run_program,hf,hname])
 |(exact Zt 4;simp only [execOp,ho,Instr.buildSlice,Sem.run_bind,run_underlying e1,Result.andThen_ok,hS,hsz,if_neg hbig,if_neg hz1,hz,Sem.run_pure,hp,hf])
 |(exact Zt 5;simp only [execOp,resolve,hfv,Deferred.ofValue,invoke,Sem.run_bind,Sem.run_pure,Result.andThen_ok,e2])
 |(exact Zt 11;apply Y 0xc91fe84f)
 |(exact Zt 12;(have y1:(#[(0,x)]:Array (Nat×Operand)).map (fun (i,x)=>(i,ρ x))=#[(0,.agg (List.toArray cs))]:=by simp [hρ _ _ hx]);revert y1)
 |(exact Zt 13;(have y1:((Array.range (1*cs.length)).map (ei.zero.cells[· %ei.zero.cells.size]!)).size=cs.length:=oS);revert y1)
 |(exact Zt 14;(have y1:((List.range len).map F).length=len:=oS);revert y1)
 |(exact Zt 15;(have y1:((List.toArray ps).map fun (i,x)=>(i,ρ x)).toList=vs:=by simpa using mN hρ hv);revert y1)
 exact zq.h):Xo n Q P:=zh
theorem KU (zh:Xo n Q P:=by
 apply Zom;intro zq;rotate_left;simp
 first
 |(exact Zt 1;(have y1:(Go.store ⟨g,k,none⟩ v).run X.P w=.ok () (w.setCell ⟨g,k,none⟩ v):=oaY);revert y1)
 |(exact Zt 2;(have y1:(List.mapM (jB a.tmps) (List.toArray rs).toList).run X.P w=.ok vs w:=tK (X:=X) hf hsat hr);revert y1)
 |(exact Zt 3;(have y1:(NI chg).Nodup:=hr.imp fun h=>by omega);revert y1)
 |(exact Zt 4;(have y1:(Raw.dirt (flD x.img x.S x.n (x.n+x.more)) x.n x.S x.w3 k)=x.dat:=by rw [hkd];rfl);revert y1)
 |(exact Zt 5;(have y1:(U8 (List.replicate (min p (n-p)) x)).length=min p (n-p):=Q1);revert y1)
 |(exact Zt 6;(have y1:([.int .i64 (x.S:Int),.slice b.D (x.n+x.more) b.cD,.slice b.W (x.n+x.more) b.cW,.int .i64 100000,.slice b.E (x.n+x.more) b.cE]:List Value)=[.int .i64 (x.fl0.size:Int),.slice b.D x.fl0.data.length b.cD,.slice b.W x.fl0.wear.length b.cW,.int .i64 x.fl0.limit,.slice b.E x.fl0.dead.length b.cE]:=Oj);revert y1)
 |(exact Zt 7;(have y1:(aE a b (k+1)).length=(aE a b k).length+1:=ob4);revert y1)
 |(exact Zt 8;(have y1:(ao f.size 0 (aw s)).length=f.size:=b7 hfit);revert y1)
 |(exact Zt 9;(have y1:(f.data.getD ((aY (aM f y.us) (f.size:Int) p3).b.getD 0 0).toNat []).length=f.size:=orows ((aY (aM f y.us) (f.size:Int) p3).b.getD 0 0).toNat oe);revert y1)
 |(exact Zt 10;(have y1:(ndC (ndN (ndU (ndT old (bg old (ah ops)) S seq) S) st.length seq.length) (ndW S))≤3000001:=obC);revert y1)
 |(exact Zt 11;(have y1:(ndN (ndU (ndT old (bg old (ah ops)) S seq) S) st.length seq.length)≤3000000:=obA);revert y1)
 |(exact Zt 12;(have y1:(ndU (ndT old (bg old (ah ops)) S seq) S)≤(ndT old (bg old (ah ops)) S seq)+S:=IU);revert y1)
 |(exact Zt 13;(have y1:(dd m w).getD k 0=UInt8.ofNat (m/2^(8*(w-1-k))):=by rw [C6 oe,II]);revert y1)
 |(exact Zt 14;(have y1:(bg (inL data st lst S m) (ah ops)).length=(ah ops).length:=lW _ _);revert y1)
 |(exact Zt 15;(have y1:(bg old (l.take (i+1))).length=(bg old (l.take i)).length+1:=qi);revert y1)
 exact zq.h):Xo n Q P:=zh
theorem KT (zh:Xo n Q P:=by
 apply Zom;intro zq;rotate_left;simp
 first
 |(exact Zt 1;(have y1:(bg old (l.take i)).length=i:=obc);revert y1)
 |(exact Zt 2;(have y1:(bg old (ah ops)).length=(ah ops).length:=lW _ _);revert y1)
 |(exact Zt 3;(have y1:(bA (f.data.getD (aj f y.a y.b).sec.toNat []) (aj f y.a y.b) (k)).free≤k∧(bA (f.data.getD (aj f y.a y.b).sec.toNat []) (aj f y.a y.b) (k)).torn≤k:=kX fy.1 fy.2 k);revert y1)
 |(exact Zt 4;(have y1:(ah (ops.take i)++kO (ops.getD i Po.zero) (j+1))=(ah (ops.take i)++kO (ops.getD i Po.zero) j)++[nw (ops.getD i Po.zero) j]:=by rw [xo,List.append_assoc]);revert y1)
 |(exact Zt 5;(have y1:(zeroValue et).run X.P w=.ok ei.zero w:=Qo);revert y1)
 |(exact Zt 6;(have y1:(⟨g,k,none⟩:Addr).add 0=⟨g,k,none⟩:=rfl);revert y1)
 |(exact Zt 7;(have y1:1≤ndW S:=obB);revert y1)
 |(exact Zt 8;(have y1:2^ls.length-1<2^ls.length:=oa4);revert y1)
 |(exact Zt 9;(have y1:IntKind.i64.wrap (q:Int)=q:=oam);revert y1)
 |(exact Zt 10;(have y1:cn (aM f us) (f.size:Int) e:=.inl oe);revert y1)
 |(exact Zt 11;(have y1:cn (aM f us) (f.size:Int) e:=.inr (.inl oe));revert y1)
 |(exact Zt 12;(have y1:cn (aM f us) (f.size:Int) e:=.inr (.inr (.inl oe)));revert y1)
 |(exact Zt 13;(have y1:cn (aM f us) (f.size:Int) e:=.inr (.inr (.inr hpn)));revert y1)
 |(exact Zt 14;(have y1:c8 b rec:=.inl hN);revert y1)
 |(exact Zt 15;(have y1:c8 b rec:=.inr (.inl oe));revert y1)
 exact zq.h):Xo n Q P:=zh
theorem KS (zh:Xo n Q P:=by
 apply Zom;intro zq;rotate_left;simp
 first
 |(exact Zt 1;(have y1:c8 b rec:=.inr (.inr oe));revert y1)
 |(exact Zt 2;(have y1:Sat β w R (sel H js'):=hs.sel nj');revert y1)
 |(exact Zt 3;(have y1:Sat β w R (sel H js):=hs.sel nj);revert y1)
 |(exact Zt 4;(have y1:Stp w w' (fun k=>∃ (i:Nat) (c:Pr),(sel H js)[i]?=some c∧c.fp k):=⟨hs'.ext.os,hs'.ext.tape,hs'.ext.output,hs'.ext.size,hs'.ext.block⟩);revert y1)
 |(exact Zt 5;(have y1:a.tmps.getD b undef=.pointer (some (ad.add k)):=by simp [hb',ag]);revert y1)
 |(exact Zt 6;(have y1:cC (f.data.getD (an f y.a y.b).oth.toNat []) ((ao f.size ((an f y.a y.b).gen+1) (aw s)).take 8) 8=cC (f.data.getD (an f y.a y.b).oth.toNat []) (ao f.size ((an f y.a y.b).gen+1) (aw s)) 8:=ql ob);revert y1)
 |(exact Zt 7;(have y1:aM f (us.take (k+1))=aM f (us.take k)++f.data.getD (us.getD k 0).toNat []:=by rw [aB us 0 k hk2,AS]);revert y1)
 |(exact Zt 8;(have y1:b.hs.length=x.fl0.data.length:=hbl.trans x.dat_len.symm);revert y1)
 |(exact Zt 9;(have y1:chY l inn (t*S+j)=false:=by unfold chY;rw [if_neg oe];exact decide_eq_false oe);revert y1)
 |(exact Zt 10;(have y1:chY l inn (t*S+j)=true:=by unfold chY;rw [if_neg oe];exact decide_eq_true oe);revert y1)
 |(exact Zt 11;(have y1:iC (ah ops) inn S t=true:=sY (p:=fun a=>chY (ah ops) inn (t*S+a)) (k:=j) oe hx);revert y1)
 |(exact Zt 12;(have y1:aE a b (k+1)=aE a b k++[(k,k+1)]:=oaf);revert y1)
 |(exact Zt 13;(have y1:cntE lf sz n inn out ops seq st data fs ls lst k=_:=Fi hvl);revert y1)
 |(exact Zt 14;(have y1:HV (S:Int) (m:Int) ops seq st data lst (kk:Int)=ctF (bg (inL data st lst S m) (ah ops)) t S:=Qr);revert y1)
 |(exact Zt 15;(have y1:cs.length≤1000:=obi);revert y1)
 exact zq.h):Xo n Q P:=zh
theorem KR (zh:Xo n Q P:=by
 apply Zom;intro zq;rotate_left;simp
 first
 |(exact Zt 1;(have y1:cur.toList.length=cur.size:=oS);revert y1)
 |(exact Zt 2;(have y1:k<(aE a b a.length).length:=oe);revert y1)
 |(exact Zt 3;(have y1:k<us.length:=oe);revert y1)
 |(exact Zt 4;(have y1:k=x.dirts:=by unfold Raw.dirts;split<;>omega);revert y1)
 |(exact Zt 5;(have y1:dm x 337 338 339 340 341=337:=by unfold dm;rw [if_pos h1]);revert y1)
 |(exact Zt 6;(have y1:len≤m:=by rw [hmm];split<;>omega);revert y1)
 |(exact Zt 7;(have y1:dQ false (S:Int) (n:Int) inn out ops seq st old=0:=zg hvl hin qU);revert y1)
 |(exact Zt 8;(have y1:dQ false (S:Int) (n:Int) inn out ops seq st old=2:=Gx hvl hin qU);revert y1)
 |(exact Zt 9;(have y1:dQ lf sz n inn out ops seq st old=_:=Gz hvl);revert y1)
 |(exact Zt 10;(have y1:dQ lf sz n inn out ops seq st old=_:=Gy hvl hne);revert y1)
 |(exact Zt 11;(have y1:okU (ah ops) inn S n seq st u=true:=Gq hallj oe);revert y1)
 |(exact Zt 12;(have y1:old.length≤65536:=oe);revert y1)
 |(exact Zt 13;(have y1:out.length=out.length:=rfl);revert y1)
 |(exact Zt 14;(have y1:ef f≤137:=rS hok);revert y1)
 |(exact Zt 15;(have y1:ptF n l=(ptS n l i).1++[(⟨1,((ptS n l i).2:Int),((n-(ptS n l i).2:Nat):Int),0⟩:Po)]:=by unfold ptF ptE;rw [hB,if_pos oe]);revert y1)
 exact zq.h):Xo n Q P:=zh
theorem KQ (zh:Xo n Q P:=by
 apply Zom;intro zq;rotate_left;simp
 first
 |(exact Zt 1;(have y1:rdE lf inn out size ops=_:=IB hc20 obK oe);revert y1)
 |(exact Zt 2;(have y1:rdE lf inn out size ops=_:=IB hc25 obI oe);revert y1)
 |(exact Zt 3;(have y1:aI s=false:=vR (k:=k) oe oaP);revert y1)
 |(exact Zt 4;(have y1:stB (NI (aL (ah ops) inn S n)) st=true:=fj fun k hk=>hall k oe);revert y1)
 |(exact Zt 5;(have y1:eN lf sz n inn out ops seq st=true:=Q9);revert y1)
 |(exact Zt 6;(have y1:eN lf sz n inn out ops seq st=true:=oao);revert y1)
 |(exact Zt 7;(have y1:vss[i]?=some (vss.getD i []):=getD_some hi);revert y1)
 |(exact Zt 8;(have y1:want.length≤1000000:=oe);revert y1)
 |(exact Zt 9;(have y1:¬ ((q:Int)<0):=oe);revert y1)
 |(exact Zt 10;(have y1:¬ (1*cs.length=0):=oe);revert y1)
 |(exact Zt 11;(have y1:¬ (1*cs.length>2^24):=oe);revert y1)
 |(exact Zt 12;(have y1:¬ (q*i.size=0):=Nat.mul_ne_zero oe oe);revert y1)
 |(exact Zt 13;(have y1:¬(rec.length<5∨64≤(rec.getD 0 0).toNat):=oe);revert y1)
 |(exact Zt 14;(have y1:¬iE ls.length u (ls.getD u []) j:=oal);revert y1)
 |(exact Zt 15;(have y1:¬dL sec a b:=qA);revert y1)
 exact zq.h):Xo n Q P:=zh
theorem KP (zh:Xo n Q P:=by
 apply Zom;intro zq;rotate_left;simp
 first
 |(exact Zt 1;(have y1:¬fm f us at_ b:=Qz);revert y1)
 |(exact Zt 2;(have y1:ρ (.const .nilIface)=.nilIface:=hρ _ _ rfl);revert y1)
 |(exact Zt 3;(have y1:∀ p∈js,∀ q∈js',p≠q:=fun p hp q hq=>(List.nodup_append.1 hn).2.2 p hp q hq);revert y1)
 |(exact Zt 4;(have y1:∀ r,(Builtin.zeroCells ei.zero.cells r).size=r:=fun r=>by rw [size_zeroCells,hz,hzc];simp);revert y1)
 |(exact Zt 5;(have y1:∀ x∈[p0,p1,p2,p3,p4,p5,p6,p7,p8],0≤x∧x≤4294967295:=obp);revert y1)
 |(exact Zt 6;(have y1:=(Array.getElem?_eq_some_iff.1 hh).1);revert y1)
 |(exact Zt 7;(have y1:=(List.cons.inj hcs).1);revert y1)
 |(exact Zt 8;(have y1:=(List.nodup_append.1 hn).1);revert y1)
 |(exact Zt 9;(have y1:=(fT hfit.val.1).2.1);revert y1)
 |(exact Zt 10;(have y1:=(hs.rfp r hr k hk).1);revert y1)
 |(exact Zt 11;(have y1:=(hsr.ofp j d hd k hk').1);revert y1)
 |(exact Zt 12;(have y1:=(dG.1 ht).1);revert y1)
 |(exact Zt 13;(have y1:=(gn (y:=x.lay) (k:=x.pkg) (h:=true) (w2.toNat%40) g gok).ok);revert y1)
 |(exact Zt 14;(have y1:=(dB.1 h1.2.2.1).2.2.1);revert y1)
 |(exact Zt 15;(have y1:=Chg.cut ok hE (fun _=>255));revert y1)
 exact zq.h):Xo n Q P:=zh
theorem KO (zh:Xo n Q P:=by
 apply Zom;intro zq;rotate_left;simp
 first
 |(exact Zt 1;(have y1:=List.idxOf_lt_length_iff.2 h);revert y1)
 |(exact Zt 2;(have y1:=List.idxOf_lt_length_iff.2 hm);revert y1)
 |(exact Zt 3;(have y1:=List.mem_range.1 hi);revert y1)
 |(exact Zt 4;(have y1:=List.mem_range.1 hj);revert y1)
 |(exact Zt 5;(have y1:=MapKept.run_checkKey (P:=X.P) (w:=w) (k:=.int kd q) e2 rfl es.isEmpty 9999);revert y1)
 |(exact Zt 6;(have y1:=Nat.div_mul_le_self p z);revert y1)
 |(exact Zt 7;(have y1:=Nat.mul_le_mul_right jf.bytes h1);revert y1)
 |(exact Zt 8;(have y1:=gJ hok hu k oe);revert y1)
 |(exact Zt 9;(have y1:=kx ((aM f us).drop (e.toNat-2)));revert y1)
 |(exact Zt 10;(have y1:=kg (ah ops) inn S n);revert y1)
 |(exact Zt 11;(have y1:=mX ops out k6 i oe);revert y1)
 |(exact Zt 12;(have y1:=ve ops out k3 k6);revert y1)
 |(exact Zt 13;(have y1:=congrArg (fun b=>b.getLsbD i) h);revert y1)
 |(exact Zt 14;(have y1:=cj (bg (inL data st lst S m) (ah ops)) t S);revert y1)
 |(exact Zt 15;(have y1:=eb ok hE mk);revert y1)
 exact zq.h):Xo n Q P:=zh
theorem KN (zh:Xo n Q P:=by
 apply Zom;intro zq;rotate_left;simp
 first
 |(exact Zt 1;(have y1:=eD hfd.fits);revert y1)
 |(exact Zt 2;(have y1:=Ds ls (i:=i+1) (m:=m) oe);revert y1)
 |(exact Zt 3;(have y1:=G2 ls (i+1));revert y1)
 |(exact Zt 4;(have y1:=zX ls (i:=i) oe);revert y1)
 |(exact Zt 5;(have y1:=hcap (aj f y.a y.b).sec.toNat oe);revert y1)
 |(exact Zt 6;(have y1:=hfit.seqs (i:=p1.toNat) oe);revert y1)
 |(exact Zt 7;(have y1:=hfit.sts (i:=p1.toNat) oe);revert y1)
 |(exact Zt 8;(have y1:=hfr.agree (.func f) (.func (.func f) #[] #[]) rfl);revert y1)
 |(exact Zt 9;(have y1:=hs3.sel (js:=[0,1,2]) ob);revert y1)
 |(exact Zt 10;(have y1:=pd (A:=(aM f us)) (e:=e.toNat) oe oe);revert y1)
 |(exact Zt 11;(have y1:=zl (old:=old) (new:=(bg old (ah ops))) (seq:=seq) hS2 i);revert y1)
 |(exact Zt 12;(have y1:=zl (old:=old) (new:=(bg old (ah ops))) (seq:=seq) hS2 seq.length);revert y1)
 |(exact Zt 13;(have y1:=uF (old:=old) (new:=(bg old (ah ops))) (S:=S) (seq:=seq) (i:=i) oe);revert y1)
 |(exact Zt 14;(have y1:=E2 (ndN (ndU (ndT old (bg old (ah ops)) S seq) S) st.length seq.length) (ndW S));revert y1)
 |(exact Zt 15;(have y1:=mC (ctF old t S) (ctF (bg old (ah ops)) t S) (ctF old t S).length);revert y1)
 exact zq.h):Xo n Q P:=zh
theorem KM (zh:Xo n Q P:=by
 apply Zom;intro zq;rotate_left;simp
 first
 |(exact Zt 1;(have y1:=uD (aE (ctF old t S) (ctF (bg old (ah ops)) t S) (ctF old t S).length) k);revert y1)
 |(exact Zt 2;(have y1:=zj (old:=old) (new:=(bg old (ah ops))) (seq:=seq) hS2 i);revert y1)
 |(exact Zt 3;(have y1:=zj (old:=old) (new:=(bg old (ah ops))) (seq:=seq) hS2 seq.length);revert y1)
 |(exact Zt 4;(have y1:=mB (old:=old) (new:=(bg old (ah ops))) (S:=S) (seq:=seq) (i:=i) oe);revert y1)
 |(exact Zt 5;(have y1:=uC (by rw [hE];decide:dQ false (S:Int) (n:Int) inn out ops seq st old≠0));revert y1)
 |(exact Zt 6;(have y1:=dF (l:=b) (at_:=1) oe);revert y1)
 |(exact Zt 7;(have y1:=IS (E6 f y k h));revert y1)
 |(exact Zt 8;(have y1:=orows (aj f y.a y.b).sec.toNat oe);revert y1)
 |(exact Zt 9;(have y1:=orows (us.getD k 0).toNat oe);revert y1)
 |(exact Zt 10;(have y1:=orows sec.toNat oe);revert y1)
 |(exact Zt 11;(have y1:=owear x.sec.toNat oe);revert y1)
 |(exact Zt 12;(have y1:=IH (x:=x) h);revert y1)
 |(exact Zt 13;(have y1:=tV (x:=(UInt8.ofInt sec)) (a:=a) (b:=b) (aE a b a.length).length);revert y1)
 |(exact Zt 14;(have y1:=tV (x:=(UInt8.ofInt sec)) (a:=a) (b:=b) k);revert y1)
 |(exact Zt 15;(have y1:=x1 old l (i:=i) oe);revert y1)
 exact zq.h):Xo n Q P:=zh
theorem KL (zh:Xo n Q P:=by
 apply Zom;intro zq;rotate_left;simp
 first
 |(exact Zt 1;(have y1:=Iq (S:=S) (show t<n by omega));revert y1)
 |(exact Zt 2;(have y1:=vM (f:=f) (row:=(f.data.getD (aj f y.a y.b).sec.toNat [])) (i:=k) hrow oe);revert y1)
 |(exact Zt 3;(have y1:=eo.1 h);revert y1)
 |(exact Zt 4;(have y1:=tv k6 (k:=i) hi);revert y1)
 |(exact Zt 5;(have y1:=BV ops i j oe oe);revert y1)
 |(exact Zt 6;(have y1:=ny ops i oe);revert y1)
 |(exact Zt 7;(have y1:=jl (D:=ls) (k:=i) oe);revert y1)
 |(exact Zt 8;(have y1:=H6 hs hw he hE);revert y1)
 |(exact Zt 9;(have y1:=ns (l.getD 0 0));revert y1)
 |(exact Zt 10;(have y1:=eS (lf:=false) (sz:=(S:Int)) (n:=(n:Int)) (inn:=inn) (out:=out) (ops:=ops) (seq:=seq) (st:=st));revert y1)
 |(exact Zt 11;(have y1:=HX (k:=k) oe);revert y1)
 |(exact Zt 12;(obtain ⟨-,-,-,y1,y2,-⟩:=eS.1 hvl);revert y1 y2)
 |(exact Zt 13;(obtain ⟨y1,y2,y3,y4,y5,y6,y7,y8,y9,y10⟩:=nine (jD f y.a y.b));revert y1 y2 y3 y4 y5 y6 y7 y8 y9 y10)
 |(exact Zt 14;(obtain ⟨y1,y2,y3,y4,y5,y6⟩:=id hk);revert y1 y2 y3 y4 y5 y6)
 |(exact Zt 15;(obtain ⟨y1,y2,y3,y4⟩:=hm β w hs);revert y1 y2 y3 y4)
 exact zq.h):Xo n Q P:=zh
theorem KK (zh:Xo n Q P:=by
 apply Zom;intro zq;rotate_left;simp
 first
 |(exact Zt 1;(obtain ⟨y1,y2,y3,y4⟩:=hok.ok);revert y1 y2 y3 y4)
 |(exact Zt 2;(obtain ⟨y1,y2,y3,y4⟩:=hseq.2 i oe);revert y1 y2 y3 y4)
 |(exact Zt 3;(obtain ⟨y1,y2,y3,y4⟩:=hseq.2 kk oe);revert y1 y2 y3 y4)
 |(exact Zt 4;(obtain ⟨y1,y2,y3,y4⟩:=yv (n:=n) hE hS1 hS2 hn2 hi1 hi2);revert y1 y2 y3 y4)
 |(exact Zt 5;(obtain ⟨y1,y2,y3⟩:=hi i oe);revert y1 y2 y3)
 |(exact Zt 6;(obtain ⟨y1,y2,y3⟩:=aD hc);revert y1 y2 y3)
 |(exact Zt 7;(obtain ⟨y1,y2⟩:∃ u,vs[0]?=some u:=⟨_,List.getElem?_eq_getElem oe⟩);revert y1 y2)
 |(exact Zt 8;(obtain ⟨y1,y2⟩:∃ x,x=A:=⟨_,rfl⟩);revert y1 y2)
 |(exact Zt 9;(obtain ⟨y1,y2⟩:∃ x,x=c:=⟨_,rfl⟩);revert y1 y2)
 |(exact Zt 10;(obtain ⟨y1,y2⟩:=Classical.axiomOfChoice each);revert y1 y2)
 |(exact Zt 11;(obtain ⟨y1,y2⟩:=hi 0 ob);revert y1 y2)
 |(exact Zt 12;(obtain ⟨y1,y2⟩:=hi 1 ob);revert y1 y2)
 |(exact Zt 13;(obtain ⟨y1,y2⟩:=hi 2 ob);revert y1 y2)
 |(exact Zt 14;(obtain ⟨y1,y2⟩:=xD hstb);revert y1 y2)
 |(exact Zt 15;(obtain ⟨y1,⟨y2,y3,y4⟩,y5,y6⟩:=dq hE);revert y6;revert y5;revert y4;revert y3;revert y2;revert y1)
 exact zq.h):Xo n Q P:=zh
theorem KJ (zh:Xo n Q P:=by
 apply Zom;intro zq;rotate_left;simp
 first
 |(exact Zt 1;(obtain ⟨y1,⟨y2,y3,y4⟩,y5,y6⟩:=dq hc17);revert y6;revert y5;revert y4;revert y3;revert y2;revert y1)
 |(exact Zt 2;(rintro _ _ _ ⟨y1,y2,rfl,rfl,rfl,y3⟩);revert y1 y2 y3)
 |(exact Zt 3;(rintro _ _ _ ⟨y1,y2,y3,y4,rfl,rfl,rfl,y5⟩);revert y1 y2 y3 y4 y5)
 |(exact Zt 4;(rintro y1 ⟨y2,y3,y4⟩);revert y1 y2 y3 y4)
 |(exact Zt 5;(rintro ⟨y1,y2,y3,y4,y5,y6⟩ ⟨y7,y8,y9,y10⟩);revert y10;revert y9;revert y8;revert y7;revert y6;revert y5;revert y4;revert y3;revert y2;revert y1)
 |(exact Zt 6;(rintro ⟨y1,y2,y3,y4,y5,y6⟩);revert y1 y2 y3 y4 y5 y6)
 |(exact Zt 7;(rintro ⟨y1,y2,y3,y4⟩ ⟨y5,y6,y7⟩);revert y7;revert y6;revert y5;revert y4;revert y3;revert y2;revert y1)
 |(exact Zt 8;(rintro ⟨y1,y2,y3,y4⟩);revert y1 y2 y3 y4)
 |(exact Zt 9;(rintro ⟨y1,y2,y3⟩ ⟨y4,y5,y6,y7,y8⟩);revert y8;revert y7;revert y6;revert y5;revert y4;revert y3;revert y2;revert y1)
 |(exact Zt 10;(rintro ⟨y1,y2,y3⟩ ⟨y4,y5,y6⟩);revert y6;revert y5;revert y4;revert y3;revert y2;revert y1)
 |(exact Zt 11;(rintro ⟨y1,y2,y3⟩ ⟨y4,y5⟩);revert y5;revert y4;revert y3;revert y2;revert y1)
 |(exact Zt 12;(rintro ⟨y1,y2⟩ ⟨y3,y4,y5⟩);revert y5;revert y4;revert y3;revert y2;revert y1)
 |(exact Zt 13;(rintro ⟨⟨⟨⟨⟨y1,y2⟩,y3⟩,y4⟩,y5⟩,y6⟩);revert y6;revert y5;revert y4;revert y3;revert y2;revert y1)
 exact zq.h):Xo n Q P:=zh
theorem KI (zh:Xo n Q P:=by
 apply Zom;intro zq;rotate_left;simp
 first
 |(exact Zt 13;refine C.freezeKids 1 rfl [0,2,3,4] ob ob ?_)
 |(exact Zt 14;refine C.le (Γ':=[(1,ag A1 0),(2,ag A2 0),(3,.int .i64 (x.S:Int)),(4,.int .i64 (x.n:Int)),(5,.slice IA x.img.length ic),(6,ag A6 0),(8,ag A8 0),(11,ag A11 0),(12,ag A12 0)]) (R':=[Rd A11 [.int .i64 x.lay.n,.int .i64 x.lay.a,.int .i64 x.lay.b,.int .i64 x.lay.s0,.int .i64 x.lay.s1,.slice GA x.lay.gs.length gc,.slice UA x.lay.us.length uc,.slice VA x.lay.ls.length vc],Rd GA (I64 x.lay.gs),Rd UA (I64 x.lay.us),Rd VA (I64 x.lay.ls),Rd A8 [.int .i64 (x.st.length:Int),.int .i64 (x.u:Int),.int .i64 x.nd.r,.int .i64 x.nd.e,.int .i64 x.nd.o],Rd A6 [.int .i64 (x.S:Int),.int .i64 (x.n:Int),.bool false,.int .i64 (x.m:Int),.int .i64 (x.m:Int),.slice PO x.ops.length c1,.slice PQ x.seq.length c2,.slice PH x.st.length c3],Rd PO (bZ x.ops),Rd PQ (I64 x.seq),Rd PH (I64 x.st),Rd IA (U8 x.img),Rd A1 [.slice LA x.l.length lc,.int .u8 (x.w0.toNat:Int),.int .u8 (x.w1.toNat:Int),.int .u8 (x.w2.toNat:Int),.int .u8 (x.w3.toNat:Int),.slice XO x.old.length xoc],Rd LA (jj x.l),Rd XO (U8 x.old)]) (H':=[Own 51 32 A2 1 1 [.int .i64 0,.slice none 0 0,.slice none 0 0,.int .i64 0,.slice none 0 0,.int .i64 0,.int .i64 0,.int .i64 0,.int .i64 0,.int .i64 0,.slice none 0 0,.slice none 0 0,.slice none 0 0,.int .i64 0,.int .i64 0,.int .i64 0,.int .i64 0,.bool false,.int .i64 0,.int .i64 0,.slice none 0 0,.slice none 0 0,.slice none 0 0,.slice none 0 0,.bool false,.slice none 0 0,.slice none 0 0,.int .i64 0,.int .i64 0,.int .i64 0,.int .i64 0,.int .i64 0],Own 24 1 b.D x.fl0.data.length b.cD (ay b.hs (B8 x.fl0.data)),au 5 b.hs (B8 x.fl0.data),Own 3 1 b.W x.fl0.wear.length b.cW (I64 x.fl0.wear),Own 4 1 b.E x.fl0.dead.length b.cE (Bs x.fl0.dead),Own 34 5 A12 1 1 [.int .i64 (x.fl0.size:Int),.slice b.D x.fl0.data.length b.cD,.slice b.W x.fl0.wear.length b.cW,.int .i64 x.fl0.limit,.slice b.E x.fl0.dead.length b.cE]]) (by exact lk [0,1,2,3,4,5,6,7,8,9,10,11,12] [0,1,2,3,4,5] (hh:=⟨rfl,(congrArg some (ax x.dat_len.symm hrows)),(congrArg some (by rw [hdat];rfl)),(congrArg some (ax List.length_replicate.symm rfl)),(congrArg some (ax List.length_replicate.symm rfl)),(congrArg some (ax rfl hcel)),trivial⟩)) ?_)
 |(exact Zt 15;refine C.more (r:=Rd (bj (a.hs.getD (aj f y.a y.b).sec.toNat (none,0)).1 (a.hs.getD (aj f y.a y.b).sec.toNat (none,0)).2 (8+30*k) 1) (U8 (ck (f.data.getD (aj f y.a y.b).sec.toNat []) k))) ((((aT (((Has.kid 3 rfl oC ((aj f y.a y.b).sec.toNat) oZ).cast (aW _))) (a.hs.getD (aj f y.a y.b).sec.toNat (none,0)).2 (8+30*k) oe).take 30).cast (bz _ _))) ?_)
 exact zq.h):Xo n Q P:=zh
theorem KH (zh:Xo n Q P:=by
 apply Zom;intro zq;rotate_left;simp
 first
 |(exact Zt 1;refine C.more (r:=Rd (bj (bj RB rc 1 1) (rc-1) 2 1) (U8 ((rec.drop 1).drop 2))) (aT (Has.r 0 rfl) (rc-1) 2 oo) ?_)
 |(exact Zt 2;refine av (flR f a++[Rd G (I64 y.gs),Rd U (I64 y.us),Rd V (I64 y.ls),Rd OA (bZ k.pl.ops),Rd QA (I64 k.pl.seq),Rd HA (I64 k.pl.st),Rd M (mcA f a y G U V gc uc vc (.int .i64 p0::.int .i64 p1::.int .i64 p2::.int .i64 p3::.int .i64 p4::.int .i64 p5::.int .i64 p6::.int .i64 p7::.int .i64 p8::mcK k OA QA HA oc qc hc (rv::.int .i64 0::.int .i64 0::.int .i64 0::.slice none 0 0::.bool false::[]))),Rd A2 [.int .i64 p0,.int .i64 p1,.int .i64 p2,.int .i64 p3,.int .i64 p4,.int .i64 p5,.int .i64 p6,.int .i64 p7,.int .i64 p8]]) ⟨Has.r 0 rfl,Has.r 1 rfl,Has.r 2 rfl,Has.r 3 rfl,Has.r 4 rfl,Has.r 5 rfl,Has.r 6 rfl,Has.r 7 rfl,Has.r 8 rfl,Has.r 9 rfl,Has.o 0 rfl,Has.o 1 rfl,trivial⟩ ?_)
 |(exact Zt 3;refine av [_,_,_,_,_,_,_,_,_,_,_,_,_,_,_,_,_,_,_,_,_,_,_,_,_,_,_,_] (Hq [0,1,2,3,4,5,6,7,8,9,10,11,12,13,14,15,16,17,18,19,20,21,22,23,24,25,26,27] rfl) ?_)
 |(exact Zt 4;refine av [_,_,_,_,_,_,_,_,_,_,_,_,_,_,_,_] (Hq [0,1,2,3,4,5,6,7,8,9,10,11,12,13,14,15] rfl) ?_)
 |(exact Zt 5;refine av [_,_,_,_,_,_,_,_,_,_,_,_,_,_,_,_] ⟨Has.r 0 rfl,Has.r 1 rfl,Has.r 2 rfl,Has.r 3 rfl,Has.r 4 rfl,Has.r 5 rfl,Has.r 6 rfl,Has.r 7 rfl,Has.r 8 rfl,Has.r 9 rfl,Has.r 10 rfl,Has.r 11 rfl,Has.r 12 rfl,Has.r 13 rfl,Has.r 14 rfl,Has.o 0 rfl,trivial⟩ ?_)
 |(exact Zt 6;refine av [_,_,_,_,_,_,_,_,_,_,_,_] (Hq [0,1,2,3,4,5,6,7,8,9,10,11] rfl) ?_)
 |(exact Zt 7;refine av [_,_] ⟨Has.o 0 rfl,Has.o 2 rfl,trivial⟩ ?_)
 |(exact Zt 8;refine ta (X:=X) (fn:=Tryz.f232) Tryz.func232 rfl oa rfl ?_)
 |(exact Zt 9;refine L.append (j:=0) rfl rfl rfl rfl ob rfl rfl rfl rfl ((Src.kid 3 rfl oC ((us.getD k 0).toNat) oZ).cast (aW _)) qE (bN _) oe oJ rfl ?_)
 |(exact Zt 10;refine L.append (j:=0) rfl rfl rfl rfl ob rfl rfl rfl rfl (Src.o 1 rfl) rfl (dJ rfl) oe oJ rfl ?_)
 |(exact Zt 11;refine L.append (j:=0) rfl rfl rfl rfl ob rfl rfl rfl rfl (Src.o 1 rfl) rfl (by exact jI [(k,k+1)]) oe obH rfl ?_)
 |(exact Zt 12;refine L.append (j:=0) rfl rfl rfl rfl ob rfl rfl rfl rfl (Src.o 1 rfl) rfl (BU _ _) oe Qj rfl ?_)
 |(exact Zt 13;refine L.append (j:=0) rfl rfl rfl rfl ob rfl rfl rfl rfl (Src.o 2 rfl) rfl (dJ rfl) oe oY rfl ?_)
 |(exact Zt 14;refine L.append (j:=0) rfl rfl rfl rfl ob rfl rfl rfl rfl (Src.r 0 rfl) QT hx oe oJ rfl ?_)
 |(exact Zt 15;refine L.append (j:=2) rfl rfl rfl rfl ob rfl rfl rfl rfl (Src.o 0 rfl) oT (bN _) oe oJ rfl ?_)
 exact zq.h):Xo n Q P:=zh
theorem KG (zh:Xo n Q P:=by
 apply Zom;intro zq;rotate_left;simp
 first
 |(exact Zt 1;refine L.append (j:=3) rfl rfl rfl rfl ob rfl rfl rfl rfl (Src.r 3 rfl) Oe (cZ _) oe oY rfl ?_)
 exact zq.h):Xo n Q P:=zh
theorem KF (zh:Xo n Q P:=by
 apply Zom;intro zq;rotate_left;simp
 first
 |(exact Zt 5;refine L.call (js:=[]) (js':=[]) (rm true (tI (aZ g x.lay (⟨kv,4,⟨ks,kn,false,(x.m:Int),(x.m:Int),x.ops,x.seq,x.st⟩⟩:Pkg) kh) (aZ g x.lay (⟨kv,4,⟨ks,kn,false,(x.m:Int),(x.m:Int),x.ops,x.seq,x.st⟩⟩:Pkg) kh) PA QA Pc Qc (Nat.le_trans (eC gok x.lay (⟨kv,4,⟨ks,kn,false,(x.m:Int),(x.m:Int),x.ops,x.seq,x.st⟩⟩:Pkg) kh) ob) (Nat.le_trans (eC gok x.lay (⟨kv,4,⟨ks,kn,false,(x.m:Int),(x.m:Int),x.ops,x.seq,x.st⟩⟩:Pkg) kh) ob)) oS) rfl rfl rfl ob (Hq [1,0] rfl) rfl ?_)
 |(exact Zt 6;refine L.call (js:=[]) (js':=[]) (rm true (FW (bq x.lay x.pkg true (w2.toNat%40) g).f (bq x.lay x.pkg true (w2.toNat%40) g).f b3 b4 rlok.sm rlok.sm hb3 hb4) (decide_eq_true rfl)) rfl rfl rfl ob (Hq [10,11,12,13,6,7,8,9] rfl) rfl ?_)
 |(exact Zt 10;refine ba (js:=[]) (js':=[0,1,2]) (iM g b gok hgb x.lay c.G c.U c.V c.gc c.uc c.vc oE (dH x) hgc x.pkg (.slice none 0 0) true c.O c.Q c.H c.oc c.qc c.hc (dW x) (w2.toNat%40) oe) rfl rfl rfl ob (Hq [4,5,6,7,9,10,11,12,13,14] rfl) rfl ?_)
 |(exact Zt 11;refine ba (js:=[]) (js':=[0,1]) (F3 g b gok hgb x.lay c.G c.U c.V c.gc c.uc c.vc oE (dH x) hgc x.pkg (.slice none 0 0) true c.O c.Q c.H c.oc c.qc c.hc (dW x) hcv (w2.toNat%40) oe) rfl rfl rfl ob (Hq [0,1,2,3,5,6,7,8,9,10] rfl) rfl ?_)
 |(exact Zt 12;refine ba (js:=[]) (js':=[0]) (eU f a hok hh y G U V gc uc vc hyn hyl hcap nxD none 0 [p0,p1,p2,p3,p4,p5,(p6+1),p7,p8] rfl) rfl rfl rfl ob ⟨(Has.r 6 rfl),(Has.r 7 rfl),(Has.r 8 rfl),(Has.r 9 rfl),Has.nil,trivial⟩ rfl ?_)
 |(exact Zt 13;refine ba (js:=[]) (js':=[]) (uB g b gok hgb x.lay c.G c.U c.V c.gc c.uc c.vc oE (dH x) hgc (⟨kv,4,⟨ks,kn,false,(x.m:Int),(x.m:Int),x.ops,x.seq,x.st⟩⟩:Pkg) (.slice none 0 0) kh c.O c.Q c.H c.oc c.qc c.hc (dW x) hcv) rfl rfl rfl ob (Hq [12,13,14,15,17,18,19,20,21,22] rfl) rfl ?_)
 |(exact Zt 14;refine ba (js:=[]) (js':=[]) (jT g b gok hgb x.lay c.G c.U c.V c.gc c.uc c.vc oE (dH x) hgc (⟨kv,4,⟨ks,kn,false,(x.m:Int),(x.m:Int),x.ops,x.seq,x.st⟩⟩:Pkg) (.slice none 0 0) kh c.O c.Q c.H c.oc c.qc c.hc (dW x)) rfl rfl rfl ob (Hq [13,14,15,16,18,19,20,21,22,23] rfl) rfl ?_)
 |(exact Zt 15;refine s7 (cs:=[.int .i64 (k:Int),.int .i64 ((k:Int)+1)]) rfl rfl rfl rfl (Nat.zero_lt_succ _) rfl rfl rfl ?_)
 exact zq.h):Xo n Q P:=zh
theorem KE (zh:Xo n Q P:=by
 apply Zom;intro zq;rotate_left;simp
 first
 |(exact Zt 1;refine m9 (cs:=Sy.cells (nw (ops.getD i Po.zero) j)) rfl rfl rfl rfl (Nat.zero_lt_succ _) rfl rfl rfl ?_)
 |(exact Zt 2;refine L.more (r:=Rd (bj (bj S c 2 1) (c-2) 2 1) (U8 (((l.drop 2).drop 2).take (be2 (l.drop 2))))) ((Has.take (Has.r 0 rfl) (be2 (l.drop 2))).cast (bz _ _)) ?_)
 |(exact Zt 3;refine L.more (r:=Rd (bj (bj S c 2 1) (c-2) 2 1) (U8 ((l.drop 2).drop 2))) (aT (aT (Has.r 1 rfl) c 2 hc) (c-2) 2 oo) ?_)
 |(exact Zt 4;refine L.more (r:=Rd (bj RB rc 1 1) (U8 (rec.drop 1))) (aT (Has.r 0 rfl) rc 1 hrc) ?_)
 |(exact Zt 5;refine L.store (j:=0) rfl rfl rfl rfl rfl rfl rfl (by exact kM (by rw [dT];omega)) ?_)
 |(exact Zt 6;refine L.store (j:=2) rfl rfl rfl rfl rfl rfl rfl obo ?_)
 |(exact Zt 7;refine L.store (j:=4) rfl rfl rfl rfl rfl rfl rfl rfl ?_)
 |(exact Zt 15;refine LM.cut [] oa (Hq [2,3,4,5,6,7,8,9,10,11,12,13,14,15,16,17,18,19,20,21,22,23,24,25,26,27,28,29] rfl) ?_)
 exact zq.h):Xo n Q P:=zh
theorem KD (zh:Xo n Q P:=by
 apply Zom;intro zq;rotate_left;simp
 first
 |(exact Zt 1;refine LM.cut [] oa ⟨Has.r 4 rfl,Has.r 5 rfl,Has.r 6 rfl,Has.r 7 rfl,Has.r 8 rfl,Has.r 9 rfl,Has.r 10 rfl,Has.r 11 rfl,Has.r 12 rfl,Has.r 13 rfl,Has.r 14 rfl,Has.r 15 rfl,Has.r 16 rfl,Has.r 17 rfl,Has.r 18 rfl,Has.r 19 rfl,Has.o 0 rfl,trivial⟩ ?_)
 |(exact Zt 2;refine LM.f 11 rfl oa (Hq [1,2,3,4,5,6,7,8,9,10,11,12,13,14,15,16,17,18,19,20,21,22,23,24,25,26,27,28] rfl) ?_)
 |(exact Zt 3;refine LM.f 12 rfl oa (Hq [2,3,4,5,6,7,8,9,10,11,12,13,14,15,16,17,18,19,20,21,22,23,24,25,26,27,28,29] rfl) ?_)
 |(exact Zt 4;refine LM.f 19 rfl oa (Hq [2,3,4,5,6,7,8,9,10,11,12,13,14,15,16,17,18,19,20,21,22,23,24,25,26,27,28,29] rfl) ?_)
 |(exact Zt 5;refine LM.f 31 rfl oa (Hq [2,3,4,5,6,7,8,9,10,11,12,13,14,15,16,17,18,19,20,21,22,23,24,25,26,27,28,29] rfl) ?_)
 |(exact Zt 6;refine LM.f 32 rfl oa (Hq [2,3,4,5,6,7,8,9,10,11,12,13,14,15,16,17,18,19,20,21,22,23,24,25,26,27,28,29] rfl) ?_)
 |(exact Zt 7;refine LM.f 6 rfl oa (Hq [0,1,2,3,4,5,6,7,8,9,10,11,12,13,14,15,16,17,18,19,20,21,22,23,24,25,26,27] rfl) ?_)
 |(exact Zt 8;refine LM.q 0 rfl oa (Ev.pure rfl) rfl (Hq [0,1,2,3,4,5,6,7,8,9,10,11,12,13,14,15,16,17,18,19,20,21,22,23,24,25,26,27] rfl) ?_)
 |(exact Zt 9;refine LM.q 1 rfl oa (Ev.pure rfl) rfl (Hq [0,1,2,3,4,5,6,7,8,9,10,11,12,13,14,15,16,17,18,19,20,21,22,23,24,25,26,27] rfl) ?_)
 |(exact Zt 10;refine LM.q 11 rfl oa (Ev.pure rfl) rfl trivial ?_)
 |(exact Zt 11;refine LM.q 12 rfl oa (Ev.pure rfl) rfl trivial ?_)
 |(exact Zt 12;refine LM.q 13 rfl oa (Ev.pure rfl) rfl (Hq [2,3,4,5,6,7,8,9,10,11,12,13,14,15,16,17,18,19,20,21,22,23,24,25,26,27,28,29] rfl) ?_)
 |(exact Zt 13;refine LM.q 14 rfl oa (Ev.pure rfl) rfl (Hq [2,3,4,5,6,7,8,9,10,11,12,13,14,15,16,17,18,19,20,21,22,23,24,25,26,27,28,29] rfl) ?_)
 |(exact Zt 14;refine LM.q 20 rfl oa (Ev.pure rfl) rfl (Hq [2,3,4,5,6,7,8,9,10,11,12,13,14,15,16,17,18,19,20,21,22,23,24,25,26,27,28,29] rfl) ?_)
 |(exact Zt 15;refine LM.q 21 rfl oa (Ev.pure rfl) rfl (Hq [2,3,4,5,6,7,8,9,10,11,12,13,14,15,16,17,18,19,20,21,22,23,24,25,26,27,28,29] rfl) ?_)
 exact zq.h):Xo n Q P:=zh
theorem KC (zh:Xo n Q P:=by
 apply Zom;intro zq;rotate_left;simp
 first
 |(exact Zt 1;refine LM.q 27 rfl oa (Ev.pure rfl) rfl (Hq [2,3,4,5,6,7,8,9,10,11,12,13,14,15,16,17,18,19,20,21,22,23,24,25,26,27,28,29] rfl) ?_)
 |(exact Zt 2;refine LM.q 28 rfl oa (Ev.pure rfl) rfl (Hq [2,3,4,5,6,7,8,9,10,11,12,13,14,15,16,17,18,19,20,21,22,23,24,25,26,27,28,29] rfl) ?_)
 |(exact Zt 3;refine LM.q 3 rfl oa (Ev.add rfl rfl oe oe) rfl trivial ?_)
 |(exact Zt 4;refine LM.q 3 rfl oa (bw (l:=p) rfl rfl rfl rfl rfl rfl oe) rfl trivial ?_)
 |(exact Zt 5;refine LM.q 4 rfl oa (bw (l:=k+1) rfl rfl rfl rfl rfl oe oe) rfl trivial ?_)
 |(exact Zt 6;refine ec 10 rfl oa rfl (aa (vs:=(.int .i64 kv::.int .i64 4::.int .i64 ks::.int .i64 kn::.bool false::.int .i64 (x.m:Int)::.int .i64 (x.m:Int)::.slice c.O x.ops.length c.oc::.slice c.Q x.seq.length c.qc::.slice c.H x.st.length c.hc::.slice none 0 0::.bool kh::[])) rfl rfl rfl (Src.r 2 rfl) rfl rfl ob) rfl (Hq [0,1,2,3,4,5,6,7,8,9,10,11,12,13,14,15,16,17,18,19,20,21,22,23,24,25,26,27] rfl) ?_)
 |(exact Zt 7;refine ec 15 rfl oa rfl (faR 1) rfl (Hq [2,3,4,5,6,7,8,9,10,11,12,13,14,15,16,17,18,19,20,21,22,23,24,25,26,27,28,29] rfl) ?_)
 |(exact Zt 8;refine ec 16 rfl oa rfl (aa (vs:=[.int .i64 ((bq x.lay x.pkg true (w2.toNat%40) g).f.size:Int),.slice b3.D (bq x.lay x.pkg true (w2.toNat%40) g).f.data.length b3.cD,.slice b3.W (bq x.lay x.pkg true (w2.toNat%40) g).f.wear.length b3.cW,.int .i64 (bq x.lay x.pkg true (w2.toNat%40) g).f.limit,.slice b3.E (bq x.lay x.pkg true (w2.toNat%40) g).f.dead.length b3.cE]) rfl rfl rfl (Src.r 1 rfl) rfl rfl ob) rfl (Hq [2,3,4,5,6,7,8,9,10,11,12,13,14,15,16,17,18,19,20,21,22,23,24,25,26,27,28,29] rfl) ?_)
 |(exact Zt 9;refine ec 17 rfl oa rfl (faR 0) rfl (Hq [2,3,4,5,6,7,8,9,10,11,12,13,14,15,16,17,18,19,20,21,22,23,24,25,26,27,28,29] rfl) ?_)
 |(exact Zt 10;refine ec 18 rfl oa rfl (aa (vs:=[.int .i64 ((bq x.lay x.pkg true (w2.toNat%40) g).f.size:Int),.slice b4.D (bq x.lay x.pkg true (w2.toNat%40) g).f.data.length b4.cD,.slice b4.W (bq x.lay x.pkg true (w2.toNat%40) g).f.wear.length b4.cW,.int .i64 (bq x.lay x.pkg true (w2.toNat%40) g).f.limit,.slice b4.E (bq x.lay x.pkg true (w2.toNat%40) g).f.dead.length b4.cE]) rfl rfl rfl (Src.r 0 rfl) rfl rfl ob) rfl (Hq [2,3,4,5,6,7,8,9,10,11,12,13,14,15,16,17,18,19,20,21,22,23,24,25,26,27,28,29] rfl) ?_)
 |(exact Zt 11;refine ec 2 rfl oa rfl (aa (vs:=(flL g b)) rfl rfl rfl (Src.r 3 rfl) rfl rfl ob) rfl (Hq [0,1,2,3,4,5,6,7,8,9,10,11,12,13,14,15,16,17,18,19,20,21,22,23,24,25,26,27] rfl) ?_)
 |(exact Zt 12;refine ec 22 rfl oa rfl (faR 1) rfl (Hq [2,3,4,5,6,7,8,9,10,11,12,13,14,15,16,17,18,19,20,21,22,23,24,25,26,27,28,29] rfl) ?_)
 |(exact Zt 13;refine ec 23 rfl oa rfl (ldR 1) rfl (Hq [2,3,4,5,6,7,8,9,10,11,12,13,14,15,16,17,18,19,20,21,22,23,24,25,26,27,28,29] rfl) ?_)
 |(exact Zt 14;refine ec 24 rfl oa rfl (faR 0) rfl (Hq [2,3,4,5,6,7,8,9,10,11,12,13,14,15,16,17,18,19,20,21,22,23,24,25,26,27,28,29] rfl) ?_)
 |(exact Zt 15;refine ec 25 rfl oa rfl (ldR 0) rfl (Hq [2,3,4,5,6,7,8,9,10,11,12,13,14,15,16,17,18,19,20,21,22,23,24,25,26,27,28,29] rfl) ?_)
 exact zq.h):Xo n Q P:=zh
theorem KB (zh:Xo n Q P:=by
 apply Zom;intro zq;rotate_left;simp
 first
 |(exact Zt 1;refine ec 26 rfl oa rfl (Ev.pure rfl) rfl (Hq [2,3,4,5,6,7,8,9,10,11,12,13,14,15,16,17,18,19,20,21,22,23,24,25,26,27,28,29] rfl) ?_)
 |(exact Zt 2;refine ec 29 rfl oa rfl (faR 1) rfl (Hq [2,3,4,5,6,7,8,9,10,11,12,13,14,15,16,17,18,19,20,21,22,23,24,25,26,27,28,29] rfl) ?_)
 |(exact Zt 3;refine ec 3 rfl oa rfl (faR 16) rfl (Hq [0,1,2,3,4,5,6,7,8,9,10,11,12,13,14,15,16,17,18,19,20,21,22,23,24,25,26,27] rfl) ?_)
 |(exact Zt 4;refine ec 30 rfl oa rfl (ldR 1) rfl (Hq [2,3,4,5,6,7,8,9,10,11,12,13,14,15,16,17,18,19,20,21,22,23,24,25,26,27,28,29] rfl) ?_)
 |(exact Zt 5;refine ec 4 rfl oa rfl (aa (vs:=(cP x.lay c.G c.U c.V c.gc c.uc c.vc)) rfl rfl rfl (Src.r 16 rfl) rfl rfl ob) rfl (Hq [0,1,2,3,4,5,6,7,8,9,10,11,12,13,14,15,16,17,18,19,20,21,22,23,24,25,26,27] rfl) ?_)
 |(exact Zt 6;refine ec 5 rfl oa rfl (aa (vs:=(.int .i64 kv::.int .i64 4::.int .i64 ks::.int .i64 kn::.bool false::.int .i64 (x.m:Int)::.int .i64 (x.m:Int)::.slice c.O x.ops.length c.oc::.slice c.Q x.seq.length c.qc::.slice c.H x.st.length c.hc::.slice none 0 0::.bool kh::[])) rfl rfl rfl (Src.r 2 rfl) rfl rfl ob) rfl (Hq [0,1,2,3,4,5,6,7,8,9,10,11,12,13,14,15,16,17,18,19,20,21,22,23,24,25,26,27] rfl) ?_)
 |(exact Zt 7;refine ec 7 rfl oa rfl (aa (vs:=(flL g b)) rfl rfl rfl (Src.r 3 rfl) rfl rfl ob) rfl (Hq [0,1,2,3,4,5,6,7,8,9,10,11,12,13,14,15,16,17,18,19,20,21,22,23,24,25,26,27] rfl) ?_)
 |(exact Zt 8;refine ec 8 rfl oa rfl (faR 16) rfl (Hq [0,1,2,3,4,5,6,7,8,9,10,11,12,13,14,15,16,17,18,19,20,21,22,23,24,25,26,27] rfl) ?_)
 |(exact Zt 9;refine ec 9 rfl oa rfl (aa (vs:=(cP x.lay c.G c.U c.V c.gc c.uc c.vc)) rfl rfl rfl (Src.r 16 rfl) rfl rfl ob) rfl (Hq [0,1,2,3,4,5,6,7,8,9,10,11,12,13,14,15,16,17,18,19,20,21,22,23,24,25,26,27] rfl) ?_)
 exact zq.h):Xo n Q P:=zh
theorem KA (zh:Xo n Q P:=by
 apply Zom;intro zq;rotate_left;simp
 first
 |(exact Zt 7;refine QE.more (r:=KidsR (a.hs.set x.sec.toNat (A24,f.size)) ((B8 f.data).set x.sec.toNat (U8 (mb (tN f x mk) (f.data.getD x.sec.toNat []) k)))) (s8 7 0 x.sec.toNat f.size rfl rfl) ?_)
 |(exact Zt 8;refine QE.more (r:=Rd (bj (bj (bj S c 2 1) (c-2) 2 1) (c-2-2) (be2 (l.drop 2)) 1) (U8 (((l.drop 2).drop 2).drop (be2 (l.drop 2))))) (aT (Has.r 1 rfl) (c-2-2) (be2 (l.drop 2)) QW) ?_)
 |(exact Zt 9;refine Ba (js:=[]) (hs:=[0,1]) (vs:=[_]) nR rfl rt ob ?_)
 |(exact Zt 10;refine s4 (js:=[]) (hs:=[0,1]) ob ⟨rfl,?_⟩)
 |(exact Zt 11;refine s3 (js:=[]) (hs:=[0,1]) (vs:=[_]) nR rfl rt ob ?_)
 |(exact Zt 12;refine s3 (js:=[]) (hs:=[1,2]) (vs:=[_]) nR rfl rt ob ?_)
 |(exact Zt 13;refine fo (js:=[]) (hs:=[0,1]) (vs:=[]) rfl trivial ob ?_)
 |(exact Zt 14;refine HC (j:=0) (js:=[]) (hs:=[2]) (vs:=[_]) rfl rfl rt ob ?_)
 |(exact Zt 15;refine AY (js:=[0]) (hs:=[]) (vs:=[_,_,_]) (l6 A8 A9 A10 0) rfl ⟨⟨_,_,0,_,rfl,rfl,Src.o 2 rfl,.inl ⟨rfl,by decide,_,rfl,rfl,rfl⟩⟩,⟨_,_,0,_,rfl,rfl,Src.o 3 rfl,.inr ⟨rfl,rfl⟩⟩,⟨_,_,0,_,rfl,rfl,Src.o 4 rfl,.inr ⟨rfl,rfl⟩⟩,trivial⟩ ob ?_)
 exact zq.h):Xo n Q P:=zh
theorem Kz (zh:Xo n Q P:=by
 apply Zom;intro zq;rotate_left;simp
 first
 |(exact Zt 1;refine Ee (js:=[0]) (hs:=[]) (vs:=[_,_,_]) rfl ⟨⟨_,_,0,_,rfl,rfl,Src.o 0 rfl,.inl ⟨rfl,by decide,_,rfl,rfl,rfl⟩⟩,⟨_,_,0,_,rfl,rfl,Src.o 1 rfl,.inr ⟨rfl,rfl⟩⟩,⟨_,_,0,_,rfl,rfl,Src.o 2 rfl,.inr ⟨rfl,rfl⟩⟩,trivial⟩ ob ?_)
 |(exact Zt 9;refine QE.round (k+1) ?_ oe (lk [0,1,2,3,4] []))
 |(exact Zt 10;refine QE.round (k+1) ?_ oe (lk [0,1] []))
 |(exact Zt 13;refine Pq ?_)
 |(exact Zt 14;refine sW hok hc17 hh hrow hcap hkD ?_)
 |(exact Zt 15;refine hK _ _ (k (some ⟨w.heap.size,0,none⟩) _ _ (hf.put oU _) ?_))
 exact zq.h):Xo n Q P:=zh
theorem Ky (zh:Xo n Q P:=by
 apply Zom;intro zq;rotate_left;simp
 first
 |(exact Zt 1;refine al (m6 IA x.img ic false (x.m:Int) (x.m:Int) x.ops PO c1 oe oe rfl x.chk (by rw [x.img_len])) ?_)
 |(exact Zt 2;refine al (Jv f a hok hh us U uc hu) ?_)
 |(exact Zt 3;refine al (DQ lf inn out ops OA oc hops) ?_)
 |(exact Zt 4;refine al (Ap f.size 0 SO sc (aw s) os2 hfit) ?_)
 |(exact Zt 5;refine al (sM f.size 1 s os2 hft.2.2.2.2.2) ?_)
 |(exact Zt 6;refine al (G6 f a hok hh y hcap) ?_)
 |(exact Zt 7;refine al (G5 f a hok hh y hcap) ?_)
 |(exact Zt 8;refine al (Fc f a hok hh y.a ⟨hft.2.1,hft.2.2.2.1⟩ oe hcap) ?_)
 |(exact Zt 9;refine al (Fc f a hok hh y.b ⟨hft.2.2.1,hft.2.2.2.2.1⟩ oe hcap) ?_)
 |(exact Zt 10;refine al (zP f a hok hh y G U V gc uc vc hyn hyl ⟨by omega,hl2⟩) ?_)
 |(exact Zt 11;refine al (Dg x size hs1 hs2) ?_)
 |(exact Zt 12;refine al (eY (s.getD 1 0).toNat 2 ob) ?_)
 |(exact Zt 13;refine al (Rq (ops.getD i Po.zero)) ?_)
 |(exact Zt 14;refine al (yN f a hok hh hft.2.2.2.2.2) ?_)
 |(exact Zt 15;refine al (jm lf inn out ops OA oc hops) ?_)
 exact zq.h):Xo n Q P:=zh
theorem Kx (zh:Xo n Q P:=by
 apply Zom;intro zq;rotate_left;simp
 first
 |(exact Zt 1;refine al (lL (aE a b a.length).length oe) ?_)
 |(exact Zt 2;refine al (nq sz n lf inn out ops seq st OA QA HA oc qc hc hops hql hhl) ?_)
 |(exact Zt 3;refine al (tf sz n lf inn out ops seq st OA QA HA oc qc hc hops hql hhl) ?_)
 |(exact Zt 4;refine aJ (po x.fl0 b x.fl0_ok hb0 ⟨x.lay.n,x.lay.a,x.lay.b,x.lay.s0,x.lay.s1,GA,x.lay.gs.length,gc,UA,x.lay.us.length,uc,VA,x.lay.ls.length,vc⟩ hcap Raw.s0 rfl) ?_)
 |(exact Zt 5;refine aJ (CL false inn out ops OA oc hops (S:Int)) ?_)
 |(exact Zt 6;refine aJ (fv f a hok hh (y.gs.getD p6.toNat 0) c CA c.length cc rfl oe) ?_)
 |(exact Zt 7;refine aJ (jk f a hok hh (aN f y.a y.b).oth (ao f.size 0 (aw s)) QO f.size f.size hw0 oe) ?_)
 |(exact Zt 8;refine mq 0 rfl (Ev.build rfl rfl rfl rfl rfl rfl rfl) ?_)
 |(exact Zt 9;refine mq 0 rfl (aa rfl rfl rfl (Src.r 4 rfl) rfl rfl ob) ?_)
 |(exact Zt 10;refine mq 0 rfl (aa rfl rfl rfl (Src.r 6 rfl) rfl rfl ob) ?_)
 |(exact Zt 11;refine mq 11 rfl (Ev.build rfl rfl rfl rfl rfl rfl rfl) ?_)
 |(exact Zt 12;refine mq 2 rfl (aa (vs:=(flL f a)) rfl rfl rfl (Src.r 4 rfl) rfl rfl ob) ?_)
 |(exact Zt 13;refine mq 2 rfl (aa (vs:=(flL f a)) rfl rfl rfl (Src.r 5 rfl) rfl rfl ob) ?_)
 |(exact Zt 14;refine mq 2 rfl (kJ rfl rfl rfl rfl) ?_)
 |(exact Zt 15;refine mq 3 rfl (aa (vs:=(flL f a)) rfl rfl rfl (Src.r 10 rfl) rfl rfl ob) ?_)
 exact zq.h):Xo n Q P:=zh
theorem Kw (zh:Xo n Q P:=by
 apply Zom;intro zq;rotate_left;simp
 first
 |(exact Zt 1;refine mq 3 rfl (aa (vs:=[.int .i64 (rxo (aZ f y k h).x (aZ f y k h).done).kind,.int .i64 (rxo (aZ f y k h).x (aZ f y k h).done).sec,.int .i64 (rxo (aZ f y k h).x (aZ f y k h).done).at_,.slice GO (rxo (aZ f y k h).x (aZ f y k h).done).data.length goc]) rfl rfl rfl (Src.r 15 rfl) rfl rfl ob) ?_)
 |(exact Zt 2;refine mq 3 rfl (aa (vs:=[.int .i64 p0,.int .i64 p1,.int .i64 p2,.int .i64 p3,.int .i64 p4,.int .i64 p5,.int .i64 (p6+1),.int .i64 p7,.int .i64 p8]) rfl rfl rfl (Src.r 0 rfl) rfl rfl ob) ?_)
 |(exact Zt 3;refine mq 3 rfl (aa (vs:=[.int .i64 p0,.int .i64 p1,.int .i64 p2,.int .i64 p3,.int .i64 p4,.int .i64 p5,.int .i64 p6,.int .i64 p7,.int .i64 p8]) rfl rfl rfl (Src.r 10 rfl) rfl rfl ob) ?_)
 |(exact Zt 4;refine mq 4 rfl (ae (k:=kk) rfl rfl rfl rfl rfl rfl rfl oe (Src.r 7 rfl) ox) ?_)
 |(exact Zt 5;refine mq 4 rfl (aa (vs:=(flL f a)) rfl rfl rfl (Src.r 10 rfl) rfl rfl ob) ?_)
 |(exact Zt 6;refine mq 5 rfl (Ev.cast (u:=.int .i64 (t:Int)) (Ev.load rfl rfl rfl (Src.r 7 rfl) (aH oe)) (congrArg (Value.int .i64) hst)) ?_)
 |(exact Zt 7;refine mq 6 rfl (Ev.add rfl rfl oe oe) ?_)
 |(exact Zt 8;refine mq 6 rfl (aa rfl rfl rfl (Src.r 1 rfl) rfl rfl ob) ?_)
 |(exact Zt 9;refine mq 7 rfl (Ev.build rfl rfl rfl rfl rfl rfl rfl) ?_)
 |(exact Zt 10;refine mq 7 rfl (ae (k:=p1.toNat) rfl rfl rfl rfl rfl rfl oe oe (Src.r 11 rfl) ox) ?_)
 |(exact Zt 11;refine mq 7 rfl (aa (vs:=(cP y G U V gc uc vc)) rfl rfl rfl (Src.r 10 rfl) rfl rfl ob) ?_)
 |(exact Zt 12;refine mq 8 rfl (Ev.load rfl rfl rfl (Src.r 11 rfl) (aH oe)) ?_)
 |(exact Zt 13;refine qrt [0,1,2,3] [] [_] rfl ⟨⟨_,_,0,_,rfl,rfl,Src.o 0 rfl,.inl ⟨rfl,by decide,_,rfl,rfl,rfl⟩⟩,trivial⟩ ?_)
 |(exact Zt 14;refine qrt [1,2,3,4,10,11,12,15,16,17,18,0] [] [_] rfl ⟨⟨_,_,0,_,rfl,rfl,Src.o 0 rfl,.inl ⟨rfl,by decide,_,rfl,rfl,rfl⟩⟩,trivial⟩ ?_)
 |(exact Zt 15;refine qrt [1,2,3,4] [] [_,_] rfl ⟨⟨_,_,0,_,rfl,rfl,Src.o 1 rfl,.inl ⟨rfl,by decide,_,rfl,rfl,rfl⟩⟩,rfl,trivial⟩ ?_)
 exact zq.h):Xo n Q P:=zh
theorem Kv (zh:Xo n Q P:=by
 apply Zom;intro zq;rotate_left;simp
 first
 |(exact Zt 1;refine qrt [2,3,4,5] [] [_,_,_] rfl ⟨⟨_,_,0,_,rfl,rfl,Src.o 1 rfl,.inl ⟨rfl,by decide,_,rfl,rfl,rfl⟩⟩,rfl,rfl,trivial⟩ ?_)
 |(exact Zt 2;refine qrt [2,3,4,5] [] [_] rfl ⟨⟨_,_,0,_,rfl,rfl,Src.o 0 rfl,.inl ⟨rfl,by decide,_,rfl,rfl,rfl⟩⟩,trivial⟩ ?_)
 |(exact Zt 3;refine qrt [4,0,3,2] [] [_,_] rfl ⟨⟨_,_,0,_,rfl,rfl,Src.o 1 rfl,.inl ⟨rfl,by decide,_,rfl,rfl,rfl⟩⟩,rfl,trivial⟩ ?_)
 |(exact Zt 4;refine qrt [8] [] [_] rfl ⟨⟨_,_,0,_,rfl,rfl,Src.o 0 rfl,.inl ⟨rfl,by decide,_,rfl,rfl,rfl⟩⟩,trivial⟩ ?_)
 |(exact Zt 5;refine qrt [] [0,1,2] [] rfl trivial ?_)
 |(exact Zt 6;refine qrt [] [] [_,_,_] rfl ⟨⟨_,_,0,_,rfl,rfl,Src.o 0 rfl,.inl ⟨rfl,by decide,_,rfl,rfl,rfl⟩⟩,rfl,rfl,trivial⟩ ?_)
 |(exact Zt 7;refine sp ((Ev.cast (u:=.int .u64 (0)) (Ev.shr rfl rfl ob) (congrArg (Value.int .u64) (HZ n hn)))) ?_)
 |(exact Zt 8;refine sp ((Ev.cast (u:=.int .u64 (n)) (Ev.pure rfl) (congrArg (Value.int .u64) (FE n hn)))) ?_)
 |(exact Zt 9;refine sp ((Ev.cast (u:=.int .u64 (n)) (Ev.pure rfl) (congrArg (Value.int .u64) (tg n oe)))) ?_)
 |(exact Zt 10;refine sp (Ev.cast (u:=.agg (List.toArray (.int .i64 (x.fl.size:Int)::.slice b2.D x.fl.data.length b2.cD::.slice b2.W x.fl.wear.length b2.cW::.int .i64 x.fl.limit::.slice b2.E x.fl.dead.length b2.cE::.int .i64 x.lay.n::.int .i64 x.lay.a::.int .i64 x.lay.b::.int .i64 x.lay.s0::.int .i64 x.lay.s1::.slice GA x.lay.gs.length gc::.slice UA x.lay.us.length uc::.slice VA x.lay.ls.length vc::.int .i64 5::.int .i64 4::.int .i64 (x.S:Int)::.int .i64 (x.n:Int)::.bool false::.int .i64 (x.m:Int)::.int .i64 (x.m:Int)::.slice PO x.ops.length c1::.slice PQ x.seq.length c2::.slice PH x.st.length c3::.slice none 0 0::.bool true::.slice IA x.img.length ic::.slice NA x.new.length nc::.int .i64 (x.st.length:Int)::.int .i64 (x.u:Int)::.int .i64 x.nd.r::.int .i64 x.nd.e::.int .i64 x.nd.o::[]))) (Ev.build rfl rfl rfl rfl rfl rfl rfl) rfl) ?_)
 |(exact Zt 11;refine sp (Ev.cast (u:=.agg (List.toArray (.int .i64 5::.int .i64 4::.int .i64 (x.S:Int)::.int .i64 (x.n:Int)::.bool false::.int .i64 (x.m:Int)::.int .i64 (x.m:Int)::.slice PO x.ops.length c1::.slice PQ x.seq.length c2::.slice PH x.st.length c3::.slice none 0 0::.bool true::[]))) (Ev.build rfl rfl rfl rfl rfl rfl rfl) rfl) ?_)
 |(exact Zt 12;refine sp (Ev.cast (u:=.agg (List.toArray (.int .i64 5::.int .i64 4::.int .i64 (x.S:Int)::.int .i64 (x.n:Int)::.bool false::.int .i64 (x.m:Int)::.int .i64 (x.m:Int)::.slice PO x.ops.length c1::.slice PQ x.seq.length c2::.slice PH x.st.length c3::.slice none 0 0::[]))) (Ev.build rfl rfl rfl rfl rfl rfl rfl) rfl) ?_)
 |(exact Zt 13;refine sp (Ev.cast (u:=.int .i64 ((((aE a b a.length).getD k (0,0)).2-((aE a b a.length).getD k (0,0)).1:Nat):Int)) (Ev.sub rfl rfl oe oe) (congrArg (Value.int .i64) oe)) ?_)
 |(exact Zt 14;refine sp (Ev.cast (u:=.int .i64 (((ndC (ndN (ndU (ndT old (bg old (ah ops)) S seq) S) st.length seq.length) (ndW S)):Nat):Int)) (Ev.add rfl rfl oe oe) (congrArg (Value.int .i64) obC)) ?_)
 |(exact Zt 15;refine sp (Ev.cast (u:=.int .i64 (((M6 (ndU (ndT old (bg old (ah ops)) S seq) S) st.length seq.length (ndC (ndN (ndU (ndT old (bg old (ah ops)) S seq) S) st.length seq.length) (ndW S))):Nat):Int)) (Ev.add rfl rfl oe oe) (congrArg (Value.int .i64) (by unfold M6;omega))) ?_)
 exact zq.h):Xo n Q P:=zh
theorem Ku (zh:Xo n Q P:=by
 apply Zom;intro zq;rotate_left;simp
 first
 |(exact Zt 1;refine sp (Ev.cast (u:=.int .i64 (((ndN (ndU (ndT old (bg old (ah ops)) S seq) S) st.length seq.length):Nat):Int)) (Ev.add rfl rfl oe oe) (congrArg (Value.int .i64) obA)) ?_)
 |(exact Zt 2;refine sp (Ev.cast (u:=.int .i64 (((IV (ndU (ndT old (bg old (ah ops)) S seq) S) st.length seq.length (ndN (ndU (ndT old (bg old (ah ops)) S seq) S) st.length seq.length) (ndC (ndN (ndU (ndT old (bg old (ah ops)) S seq) S) st.length seq.length) (ndW S))):Nat):Int)) (Ev.add rfl rfl oe oe) (congrArg (Value.int .i64) (by unfold IV;omega))) ?_)
 |(exact Zt 3;refine sp (Ev.cast (u:=.int .i64 (((ndQ (ndN (ndU (ndT old (bg old (ah ops)) S seq) S) st.length seq.length) (ndW S)):Nat):Int)) (Ev.quo rfl rfl oe oe oe) (congrArg (Value.int .i64) oaQ)) ?_)
 |(exact Zt 4;refine sp (Ev.cast (u:=.int .i64 (((ndW S):Nat):Int)) (Ev.cast (u:=.int .i64 (max 1 (((S-8)/30:Nat):Int))) (Ev.pure rfl) (congrArg (Value.int .i64) qa)) (congrArg (Value.int .i64) obB)) ?_)
 |(exact Zt 5;refine sp (Ev.cast (u:=.int .i64 (((iN (UInt8.ofInt sec) a (aE a b a.length) k).length+2:Nat):Int)) (Ev.add rfl rfl oe oe) (congrArg (Value.int .i64) oe)) ?_)
 |(exact Zt 6;refine sp (Ev.cast (u:=.int .i64 ((8*(w-1-k):Nat):Int)) (Ev.mul rfl rfl oe oe) (congrArg (Value.int .i64) oe)) ?_)
 |(exact Zt 7;refine sp (Ev.cast (u:=.int .i64 ((8+30*k:Nat):Int)) (Ev.add rfl rfl oe oe) (congrArg (Value.int .i64) oe)) ?_)
 |(exact Zt 8;refine sp (Ev.cast (u:=.int .i64 ((k/S:Nat):Int)) (Ev.quo rfl rfl oe oe oe) (congrArg (Value.int .i64) (Int.natCast_ediv k S).symm)) ?_)
 |(exact Zt 9;refine sp (Ev.cast (u:=.int .i64 ((m:Nat):Int)) (Ev.sub rfl rfl oe oe) (congrArg (Value.int .i64) oe)) ?_)
 |(exact Zt 10;refine sp (Ev.cast (u:=.int .i64 ((ef f:Nat):Int)) (Ev.quo rfl rfl oe oe oe) (congrArg (Value.int .i64) ob1)) ?_)
 |(exact Zt 11;refine sp (Ev.cast (u:=.int .u8 ((((l.getD i (0,0,0)).1.toNat%4):Nat):Int)) (Ev.rem rfl rfl oe ob) (congrArg (Value.int .u8) OT)) ?_)
 |(exact Zt 12;refine sp (Ev.cast (u:=.int .u8 (((w1.toNat%6):Nat):Int)) (Ev.rem rfl rfl oe ob) (congrArg (Value.int .u8) OT)) ?_)
 |(exact Zt 13;refine sp (Ev.cast (u:=.slice (a.hs.getD s.toNat (none,0)).1 ((f.data.getD s.toNat []).take 8).length (a.hs.getD s.toNat (none,0)).2) (bx (h:=8) rfl rfl rfl rfl rfl rfl oe) QL) ?_)
 |(exact Zt 14;refine sp (Ev.fieldAddr rfl rfl rfl rfl rfl rfl (Src.o 0 rfl) (bC (k:=0) oe) rfl) ?_)
 |(exact Zt 15;refine sp (Ev.fieldAddr rfl rfl rfl rfl rfl rfl (Src.r 0 rfl) (bC (k:=i) Qv) rfl) ?_)
 exact zq.h):Xo n Q P:=zh
theorem Kt (zh:Xo n Q P:=by
 apply Zom;intro zq;rotate_left;simp
 first
 |(exact Zt 1;refine sp (Ev.fieldAddr rfl rfl rfl rfl rfl rfl (Src.r 1 rfl) (mj (k:=i) oe) rfl) ?_)
 |(exact Zt 2;refine sp (cf (k:=(aE a b k).length-1) (m:=((aE a b k).length-1)*2) rfl rfl rfl rfl rfl oe oe (Src.o 0 rfl) (bC (k:=(aE a b k).length-1) oe) rfl) ?_)
 |(exact Zt 3;refine sp (cf (k:=i) (m:=i*2) rfl rfl rfl rfl rfl rfl Qv (Src.r 0 rfl) (bC (k:=i) Qv) rfl) ?_)
 |(exact Zt 4;refine sp (ae (k:=(k/S)) rfl rfl rfl rfl rfl rfl rfl oe (Src.o 0 rfl) oaG) ?_)
 |(exact Zt 5;refine sp (ae (k:=(k/S)) rfl rfl rfl rfl rfl rfl rfl oe (Src.o 2 rfl) qJ) ?_)
 |(exact Zt 6;refine sp (ae (k:=(l.getD i Sy.zero).at_.toNat) rfl rfl rfl rfl rfl rfl oe oe (Src.r 0 rfl) oI) ?_)
 |(exact Zt 7;refine sp (ae (k:=(aj f y.a y.b).sec.toNat) rfl rfl rfl rfl rfl rfl (by rw [hkp.1];omega) oe (Src.r 2 rfl) ow) ?_)
 |(exact Zt 8;refine sp (ae (k:=(us.getD k 0).toNat) rfl rfl rfl rfl rfl rfl oe oe (Src.r 2 rfl) ow) ?_)
 |(exact Zt 9;refine sp (ae (k:=i) rfl rfl rfl rfl rfl rfl rfl oe (Src.r 0 rfl) O5) ?_)
 |(exact Zt 10;refine sp (ae (k:=i) rfl rfl rfl rfl rfl rfl rfl oe (Src.r 0 rfl) ow) ?_)
 |(exact Zt 11;refine sp (ae (k:=i) rfl rfl rfl rfl rfl rfl rfl oe (Src.r 0 rfl) qN) ?_)
 |(exact Zt 12;refine sp (ae (k:=i) rfl rfl rfl rfl rfl rfl rfl oe (Src.r 4 rfl) ox) ?_)
 |(exact Zt 13;refine sp (ae (k:=k) rfl rfl rfl rfl rfl rfl rfl oe (Src.o 2 rfl) oah) ?_)
 |(exact Zt 14;refine sp (ae (k:=k) rfl rfl rfl rfl rfl rfl rfl oe (Src.r 6 rfl) ox) ?_)
 |(exact Zt 15;refine sp (ae (k:=s.toNat) rfl rfl rfl rfl rfl rfl oe oe (Src.r 1 rfl) ow) ?_)
 exact zq.h):Xo n Q P:=zh
theorem Ks (zh:Xo n Q P:=by
 apply Zom;intro zq;rotate_left;simp
 first
 |(exact Zt 1;refine sp (ae (k:=u) rfl rfl rfl rfl rfl rfl rfl oe (Src.r 0 rfl) Ql) ?_)
 |(exact Zt 2;refine sp (ae (k:=x.sec.toNat) rfl rfl rfl rfl rfl rfl oe oe (Src.o 1 rfl) ox) ?_)
 |(exact Zt 3;refine sp (ae (k:=x.sec.toNat) rfl rfl rfl rfl rfl rfl oe oe (Src.r 2 rfl) ow) ?_)
 |(exact Zt 4;refine sp (aC (k:=0) (m:=i*3+0) rfl rfl rfl rfl rfl rfl ob (Src.r 0 rfl) (ji (k:=i) oe) rfl) ?_)
 |(exact Zt 5;refine sp (aC (k:=1) (m:=1) rfl rfl rfl rfl rfl rfl ob (Src.r 11 rfl) (Nat.zero_lt_succ _) rfl) ?_)
 |(exact Zt 6;refine sp (aC (k:=2) (m:=2) rfl rfl rfl rfl rfl rfl ob (Src.r 11 rfl) (Nat.zero_lt_succ _) rfl) ?_)
 |(exact Zt 7;refine sp (aC (k:=2) (m:=2) rfl rfl rfl rfl rfl rfl ob (Src.r 15 rfl) (Nat.zero_lt_succ _) rfl) ?_)
 |(exact Zt 8;refine sp (aC (k:=2) (m:=i*3+2) rfl rfl rfl rfl rfl rfl ob (Src.r 0 rfl) (ji (k:=i) oe) rfl) ?_)
 |(exact Zt 9;refine sp (aC (k:=3) (m:=4) rfl rfl rfl rfl rfl rfl ob (Src.r 10 rfl) (Nat.zero_lt_of_lt (show 1<6 by decide)) rfl) ?_)
 |(exact Zt 10;refine sp (aC (k:=k) (m:=k) rfl rfl rfl rfl rfl rfl oe (Src.o 0 rfl) Oc obd) ?_)
 |(exact Zt 11;refine sp (Ev.load rfl rfl rfl ((Src.kid 1 rfl qu (u) qX).cast (dt _)) (aH oe)) ?_)
 |(exact Zt 12;refine sp (Ev.load rfl rfl rfl (Src.o 0 rfl) (aH obY)) ?_)
 |(exact Zt 13;refine sp (Ev.load rfl rfl rfl (Src.o 2 rfl) (aH oe)) ?_)
 |(exact Zt 14;refine sp (Ev.load rfl rfl rfl (Src.r 0 rfl) ((bI (aE a b a.length) k 0 hk2 ob).trans rfl)) ?_)
 |(exact Zt 15;refine sp (Ev.load rfl rfl rfl (Src.r 0 rfl) ((iF (i:=i) (j:=0) oe ob).trans rfl)) ?_)
 exact zq.h):Xo n Q P:=zh
theorem Kr (zh:Xo n Q P:=by
 apply Zom;intro zq;rotate_left;simp
 first
 |(exact Zt 1;refine sp (Ev.load rfl rfl rfl (Src.r 0 rfl) ((iF (i:=i) (j:=2) oe ob).trans rfl)) ?_)
 |(exact Zt 2;refine sp (Ev.load rfl rfl rfl (Src.r 0 rfl) (kM (by rw [rdC,dT];omega))) ?_)
 |(exact Zt 3;refine sp (Ev.load rfl rfl rfl (Src.r 0 rfl) (bn oo)) ?_)
 |(exact Zt 4;refine sp (Ev.load rfl rfl rfl (Src.r 0 rfl) (aK hh oe)) ?_)
 |(exact Zt 5;refine sp (Ev.load rfl rfl rfl (Src.r 0 rfl) (cv hmhs oe)) ?_)
 |(exact Zt 6;refine sp (Ev.load rfl rfl rfl (Src.r 0 rfl) (cv obE ob3)) ?_)
 |(exact Zt 7;refine sp (Ev.load rfl rfl rfl (Src.r 1 rfl) ((uu (i:=i) (j:=2) oe ob).trans rfl)) ?_)
 |(exact Zt 8;refine sp (Ev.load rfl rfl rfl (Src.r 1 rfl) ((eV (i:=i) (j:=1) oe ob).trans rfl)) ?_)
 |(exact Zt 9;refine sp (Ev.load rfl rfl rfl (Src.r 4 rfl) (aH oe)) ?_)
 |(exact Zt 10;refine sp (Ev.load rfl rfl rfl (Src.r 5 rfl) (aH oe)) ?_)
 |(exact Zt 11;refine sp (Ev.load rfl rfl rfl (Src.r 6 rfl) (aH oe)) ?_)
 |(exact Zt 12;refine sp (Ev.load rfl rfl rfl (Src.r 6 rfl) (aK hh oe)) ?_)
 |(exact Zt 13;refine sp (Ev.load rfl rfl rfl (Src.r 8 rfl) (aH oe)) ?_)
 |(exact Zt 14;refine sp (aa (vs:=(.int .i64 5::.int .i64 4::.int .i64 (x.S:Int)::.int .i64 (x.n:Int)::.bool false::.int .i64 (x.m:Int)::.int .i64 (x.m:Int)::.slice c.O x.ops.length c.oc::.slice c.Q x.seq.length c.qc::.slice c.H x.st.length c.hc::.slice none 0 0::.bool true::[])) rfl rfl rfl (Src.r 8 rfl) rfl rfl ob) ?_)
 |(exact Zt 15;refine sp (aa (vs:=(flL g b)) rfl rfl rfl (Src.o 1 rfl) rfl rfl ob) ?_)
 exact zq.h):Xo n Q P:=zh
theorem Kq (zh:Xo n Q P:=by
 apply Zom;intro zq;rotate_left;simp
 first
 |(exact Zt 1;refine sp (aa (vs:=(flL x.fl c.b)) rfl rfl rfl (Src.r 10 rfl) rfl rfl ob) ?_)
 |(exact Zt 2;refine sp (aa (vs:=(flL x.yF b)) rfl rfl rfl (Src.o 2 rfl) rfl rfl ob) ?_)
 |(exact Zt 3;refine sp (aa (vs:=(cP x.lay c.G c.U c.V c.gc c.uc c.vc)) rfl rfl rfl (Src.r 8 rfl) rfl rfl ob) ?_)
 |(exact Zt 4;refine sp (aa (vs:=(cP y G U V gc uc vc)) rfl rfl rfl (Src.r 10 rfl) rfl rfl ob) ?_)
 |(exact Zt 5;refine sp (aa (vs:=[.int .i64 p0,.int .i64 (p1+1),.int .i64 p2,.int .i64 p3,.int .i64 p4,.int .i64 p5,.int .i64 p6,.int .i64 p7,.int .i64 p8]) rfl rfl rfl (Src.r 0 rfl) rfl rfl ob) ?_)
 |(exact Zt 6;refine sp (aa (vs:=[.int .i64 p0,.int .i64 p1,.int .i64 p2,.int .i64 p3,.int .i64 p4,.int .i64 p5,.int .i64 (p6+1),.int .i64 p7,.int .i64 p8]) rfl rfl rfl (Src.r 0 rfl) rfl rfl ob) ?_)
 |(exact Zt 7;refine sp (aa (vs:=[.int .i64 p0,.int .i64 p1,.int .i64 p2,.int .i64 p3,.int .i64 p4,.int .i64 p5,.int .i64 p6,.int .i64 p7,.int .i64 p8]) rfl rfl rfl (Src.r 1 rfl) rfl rfl ob) ?_)
 |(exact Zt 8;refine sp (aa (vs:=[.int .i64 p0,.int .i64 p1,.int .i64 p2,.int .i64 p3,.int .i64 p4,.int .i64 p5,.int .i64 p6,.int .i64 p7,.int .i64 p8]) rfl rfl rfl (Src.r 2 rfl) rfl rfl ob) ?_)
 |(exact Zt 9;refine sp (aa (vs:=[_,_,_,_,_,_,_,_,_,_,_]) rfl rfl rfl (Src.r 0 rfl) rfl rfl ob) ?_)
 |(exact Zt 10;refine sp (aa (vs:=[_,_,_,_,_,_,_,_]) rfl rfl rfl (Src.r 1 rfl) rfl rfl ob) ?_)
 |(exact Zt 11;refine sp (aa (vs:=[_,_,_,_,_,_,_,_]) rfl rfl rfl (Src.r 14 rfl) rfl rfl ob) ?_)
 |(exact Zt 12;refine sp (aa (vs:=[_,_,_,_,_,_,_,_]) rfl rfl rfl (Src.r 4 rfl) rfl rfl ob) ?_)
 |(exact Zt 13;refine sp (aa (vs:=[_,_,_,_,_,_,_,_]) rfl rfl rfl (Src.r 9 rfl) rfl rfl ob) ?_)
 |(exact Zt 14;refine sp (aa (vs:=[_,_,_,_,_]) rfl rfl rfl (Src.o 2 rfl) rfl rfl ob) ?_)
 |(exact Zt 15;refine sp (aa (vs:=[_,_,_,_,_]) rfl rfl rfl (Src.r 13 rfl) rfl rfl ob) ?_)
 exact zq.h):Xo n Q P:=zh
theorem Kp (zh:Xo n Q P:=by
 apply Zom;intro zq;rotate_left;simp
 first
 |(exact Zt 1;refine sp (aa (vs:=[_,_,_,_,_]) rfl rfl rfl (Src.r 2 rfl) rfl rfl ob) ?_)
 |(exact Zt 2;refine sp (aa (vs:=[_,_,_,_]) rfl rfl rfl (Src.r 13 rfl) rfl rfl ob) ?_)
 |(exact Zt 3;refine sp (aa rfl rfl rfl (Src.o 3 rfl) rfl rfl ob) ?_)
 |(exact Zt 4;refine sp (Es (q:=(S-8)/30) rfl rfl rfl Ic oe oe) ?_)
 |(exact Zt 5;refine sp (bx (h:=0) rfl rfl rfl rfl rfl rfl (Nat.le_refl _)) ?_)
 |(exact Zt 6;refine sp (bx (h:=0) rfl rfl rfl rfl rfl rfl (Nat.zero_le _)) ?_)
 |(exact Zt 7;refine sp (bx (h:=k) rfl rfl rfl rfl rfl rfl oe) ?_)
 |(exact Zt 8;refine sp (bx (h:=p) rfl rfl rfl rfl rfl rfl oe) ?_)
 |(exact Zt 9;refine sp (bw (l:=1) rfl rfl rfl rfl rfl rfl oe) ?_)
 |(exact Zt 10;refine sp (bH (l:=((aE a b a.length).getD k (0,0)).1) (h:=((aE a b a.length).getD k (0,0)).2) rfl rfl rfl rfl rfl rfl rfl rfl oe oe) ?_)
 |(exact Zt 11;refine sp (wQ rfl rfl rfl rfl) ?_)
 |(exact Zt 12;refine sq (Ev.fieldAddr rfl rfl rfl rfl rfl rfl (Src.r 0 rfl) (bC (k:=k) oe) rfl) ?_)
 |(exact Zt 13;refine sq (Ev.fieldAddr rfl rfl rfl rfl rfl rfl (Src.r 1 rfl) (dA (k:=(u*S+j)) oe) rfl) ?_)
 |(exact Zt 14;refine sq (cf (k:=(u*S+j)) (m:=(u*S+j)*3) rfl rfl rfl rfl rfl rfl oe (Src.r 1 rfl) (dA (k:=(u*S+j)) oe) rfl) ?_)
 |(exact Zt 15;refine sq (cf (k:=i) (m:=i*5) rfl rfl rfl rfl rfl rfl oe (Src.r 1 rfl) (mj (k:=i) oe) rfl) ?_)
 exact zq.h):Xo n Q P:=zh
theorem Ko (zh:Xo n Q P:=by
 apply Zom;intro zq;rotate_left;simp
 first
 |(exact Zt 1;refine sq (cf (k:=k) (m:=k*2) rfl rfl rfl rfl rfl oe oe (Src.r 0 rfl) (bC (k:=k) oe) rfl) ?_)
 |(exact Zt 2;refine sq (ae (k:=i) rfl rfl rfl rfl rfl rfl rfl oe (Src.r 2 rfl) Qt) ?_)
 |(exact Zt 3;refine sq (ae (k:=i) rfl rfl rfl rfl rfl rfl rfl oe (Src.r 4 rfl) ox) ?_)
 |(exact Zt 4;refine sq (ae (k:=k) rfl rfl rfl rfl rfl rfl rfl oe (Src.r 0 rfl) ox) ?_)
 |(exact Zt 5;refine sq (ae (k:=k) rfl rfl rfl rfl rfl rfl rfl oe (Src.r 9 rfl) oI) ?_)
 |(exact Zt 6;refine sq (Ev.load rfl rfl rfl (Src.r 0 rfl) (bn oo)) ?_)
 |(exact Zt 7;refine sq (Ev.load rfl rfl rfl (Src.r 1 rfl) (aK hh oe)) ?_)
 |(exact Zt 8;refine sq (Ev.load rfl rfl rfl (Src.r 5 rfl) (kM oe)) ?_)
 |(exact Zt 9;refine sq (Ev.load rfl rfl rfl (Src.r 8 rfl) (aH oe)) ?_)
 |(exact Zt 10;refine sq (Ev.load rfl rfl rfl (Src.r 9 rfl) (bn oe)) ?_)
 |(exact Zt 11;refine sq (Ev.nilCheck rfl (Src.r 0 rfl) ox) ?_)
 |(exact Zt 12;refine ⟨by simp,.func f,#[],f,#[],rfl,hrec.fn w,?_⟩)
 |(exact Zt 13;rw [BitVec.ofInt_natCast,BitVec.toNat_ofNat])
 |(exact Zt 14;rw [List.Nodup,List.pairwise_iff_getElem])
 |(exact Zt 15;rw [List.getD_eq_getElem?_getD,List.getElem?_eq_getElem hi])
 exact zq.h):Xo n Q P:=zh
theorem Kn (zh:Xo n Q P:=by
 apply Zom;intro zq;rotate_left;simp
 first
 |(exact Zt 1;rw [List.getElem?_append_left (List.getElem?_eq_some_iff.1 hq).1])
 |(exact Zt 2;rw [List.length_append,List.length_append,List.length_replicate])
 |(exact Zt 3;rw [List.length_append,List.length_replicate])
 |(exact Zt 4;rw [Fv (s:=[p0,p1,p2,p3,p4,p5,p6,p7,p8]) hc15])
 |(exact Zt 5;rw [Fu (s:=[p0,p1,p2,p3,p4,p5,p6,p7,p8]) hc15 hc32])
 |(exact Zt 6;rw [Ft (s:=[p0,p1,p2,p3,p4,p5,p6,p7,p8]) hc15 hc32 hc41])
 |(exact Zt 7;rw [Fs (s:=[p0,p1,p2,p3,p4,p5,p6,p7,p8]) hc15 hc32 hc41 hc53])
 |(exact Zt 8;rw [vt (s:=[p0,p1,p2,p3,p4,p5,p6,p7,p8]) hc15 hc32 hc41 hc53 hc57])
 |(exact Zt 9;rw [Fq (s:=[p0,p1,p2,p3,p4,p5,p6,p7,p8]) hc15 hc32 hc41 hc53 hc57 hc83])
 |(exact Zt 10;rw [Fp (s:=[p0,p1,p2,p3,p4,p5,p6,p7,p8]) hc15 hc32 hc41 hc53 hc57 hc83])
 |(exact Zt 11;rw [if_neg oe,hinv,iY oe,decide_eq_true oe])
 |(exact Zt 12;rw [Dj (s:=[p0,p1,p2,p3,p4,p5,p6,p7,p8]) hlay hc22 hs9 (.inl hc30)])
 |(exact Zt 13;rw [Dj (s:=[p0,p1,p2,p3,p4,p5,p6,p7,p8]) hlay hc22 hs9 (.inr (.inl hc30))])
 |(exact Zt 14;rw [Dj (s:=[p0,p1,p2,p3,p4,p5,p6,p7,p8]) hlay hc22 hs9 (.inr (.inr hc30))])
 |(exact Zt 15;rw [Jd (s:=[p0,p1,p2,p3,p4,p5,p6,p7,p8]) hlay hc22 hs9 hc35])
 exact zq.h):Xo n Q P:=zh
theorem Km (zh:Xo n Q P:=by
 apply Zom;intro zq;rotate_left;simp
 first
 |(exact Zt 1;rw [Jc (s:=[p0,p1,p2,p3,p4,p5,p6,p7,p8]) hlay hc22 hs9 hc43])
 |(exact Zt 2;rw [Ja (s:=[p0,p1,p2,p3,p4,p5,p6,p7,p8]) hlay hc22 hs9 (show ¬(p0=0∨p0=4∨p0=5)∧¬p0=6∧¬p0>6 by omega) hc51])
 |(exact Zt 3;rw [I9 (s:=[p0,p1,p2,p3,p4,p5,p6,p7,p8]) hlay hc22 hs9 hc51 hc56])
 |(exact Zt 4;rw [I8 (s:=[p0,p1,p2,p3,p4,p5,p6,p7,p8]) hlay hc22 hs9 hc51 hc65])
 |(exact Zt 5;rw [I7 (s:=[p0,p1,p2,p3,p4,p5,p6,p7,p8]) hlay hc22 hs9 hc51 (show ¬(p0=0∨p0=4∨p0=5)∧¬p0=6∧¬p0>6 by omega) hc56 hc65])
 |(exact Zt 6;rw [ak hi,dI _ _ _ _ hi])
 |(exact Zt 7;rw [sb (show (aN f y.a y.b)=an f y.a y.b from cM hyes) (show (aN f y.a y.b).found=true by rw [cM hyes];exact hyes) hright hc30])
 |(exact Zt 8;rw [sa (show (aN f y.a y.b)=an f y.a y.b from cM hyes) (show (aN f y.a y.b).found=true by rw [cM hyes];exact hyes) hright hne hlt])
 |(exact Zt 9;rw [r9 (show (aN f y.a y.b)=an f y.a y.b from cM hyes) (show (aN f y.a y.b).found=true by rw [cM hyes];exact hyes) hright hne hlt hrd])
 |(exact Zt 10;rw [IL (s:=[p0,p1,p2,p3,p4,p5,p6,p7,p8]) hc14])
 |(exact Zt 11;rw [IK (s:=[p0,p1,p2,p3,p4,p5,p6,p7,p8]) (by show ¬_;exact Int.not_le.2 hsg)])
 |(exact Zt 12;rw [IK (s:=[p0,p1,p2,p3,p4,p5,p6,p7,p8]) hc14])
 |(exact Zt 13;rw [ET (s:=[p0,p1,p2,p3,p4,p5,p6,p7,p8]) hc25 hc33 hc40])
 |(exact Zt 14;rw [uf (s:=[p0,p1,p2,p3,p4,p5,p6,p7,p8]) hc25 hc33 hc40])
 |(exact Zt 15;rw [Ga hps oe oe,lX hps oe oe,hol])
 exact zq.h):Xo n Q P:=zh
theorem Kl (zh:Xo n Q P:=by
 apply Zom;intro zq;rotate_left;simp
 first
 |(exact Zt 1;rw [vS,hrs,Sem.run_bind,Array.mapM_eq_mapM_toList,Sem.run_map])
 |(exact Zt 2;rw [Ip (s:=[p0,p1,p2,p3,p4,p5,p6,p7,p8]) hc16])
 |(exact Zt 3;rw [B9 (s:=[p0,p1,p2,p3,p4,p5,p6,p7,p8]) hc16 (.inl hg31) hc44])
 |(exact Zt 4;rw [B9 (s:=[p0,p1,p2,p3,p4,p5,p6,p7,p8]) hc16 (.inr hg36) hc44])
 |(exact Zt 5;rw [nH (s:=[p0,p1,p2,p3,p4,p5,p6,p7,p8]) hc16 oaS])
 |(exact Zt 6;rw [show (dz f y [p0,p1,p2,p3,p4,p5,p6,p7,p8])=(a6 f y.a y.b [0,0,0,0,0,1-p5,p6,p8,p8]) from Eq.trans (Fv (s:=[p0,p1,p2,p3,p4,p5,p6,p7,p8]) hc14) (dg ..)])
 |(exact Zt 7;rw [show (dz f y [p0,p1,p2,p3,p4,p5,p6,p7,p8])=(a6 f y.a y.b [p0,p1,0,(aY (aM f y.us) (f.size:Int) p3).at_,p4,p5,p6,p7,p8]) from Eq.trans (vt (s:=[p0,p1,p2,p3,p4,p5,p6,p7,p8]) hc14 hc29 h47 hc56 hc60) (ej hge hc63)])
 |(exact Zt 8;rw [show (dz f y [p0,p1,p2,p3,p4,p5,p6,p7,p8])=(sgF f y [p0,p1,p2,p3,p4,p5,p6,p7,p8] (rL (aX f ((((aY (aM f y.us) (f.size:Int) p3).b.getD 0 0).toNat:Nat):Int)) (aY (aM f y.us) (f.size:Int) p3).b)) from Fp (s:=[p0,p1,p2,p3,p4,p5,p6,p7,p8]) hc14 hc29 h47 hc56 hc60 h84])
 |(exact Zt 9;rw [show (aZ f y k h)=nxE _ from (E6 f y k h).bad_eq hge])
 |(exact Zt 10;rw [show (dD f y [p0,p1,p2,p3,p4,p5,p6,p7,p8] k.pl)=(a6 f y.a y.b [2,0,p2,p3,p4,p5,p6,p7,p8]) from Eq.trans (ET (s:=[p0,p1,p2,p3,p4,p5,p6,p7,p8]) h37 hc46 hc56) (dg ..)])
 |(exact Zt 11;rw [show (dD f y [p0,p1,p2,p3,p4,p5,p6,p7,p8] k.pl)=(a6 f y.a y.b [p0,(p1+1),p2,p3,p4,p5,p6,p7,p8]) from Eq.trans (uf (s:=[p0,p1,p2,p3,p4,p5,p6,p7,p8]) h37 hc46 hc56) (ej hge hc87)])
 |(exact Zt 12;rw [show (sgF f y [p0,p1,p2,p3,p4,p5,p6,p7,p8] c)=(a6 f y.a y.b [p0,p1,(p2+1),p3,p4,p5,p6,p7,p8]) from Eq.trans (nH (s:=[p0,p1,p2,p3,p4,p5,p6,p7,p8]) (Int.not_le.2 hsg) Qh) (ej hge hc53)])
 |(exact Zt 13;rw [show (sgF f y [p0,p1,p2,p3,p4,p5,p6,p7,p8] c)=(a6 f y.a y.b [p0,p1,p2,p3,p4,p5,(p6+1),p7,p8]) from Eq.trans (B9 (s:=[p0,p1,p2,p3,p4,p5,p6,p7,p8]) (Int.not_le.2 hsg) (.inl hg26) hc41) (dg ..)])
 |(exact Zt 14;rw [show (sgF f y [p0,p1,p2,p3,p4,p5,p6,p7,p8] c)=(a6 f y.a y.b [p0,p1,p2,p3,p4,p5,(p6+1),p7,p8]) from Eq.trans (B9 (s:=[p0,p1,p2,p3,p4,p5,p6,p7,p8]) (Int.not_le.2 hsg) (.inr hg30) hc41) (dg ..)])
 |(exact Zt 15;rw [show (sgF f y [p0,p1,p2,p3,p4,p5,p6,p7,p8] c)=(nxE 220) from Ip (s:=[p0,p1,p2,p3,p4,p5,p6,p7,p8]) hsg])
 exact zq.h):Xo n Q P:=zh
theorem Kk (zh:Xo n Q P:=by
 apply Zom;intro zq;rotate_left;simp
 first
 |(exact Zt 1;rw [show (sgF f y [p0,p1,p2,p3,p4,p5,p6,p7,p8] c)=(aS f (y.gs.getD p6.toNat 0) c) from Eq.trans (nH (s:=[p0,p1,p2,p3,p4,p5,p6,p7,p8]) (Int.not_le.2 hsg) (fun q=>hc41 q.2)) (bV (.inl hge))])
 |(exact Zt 2;rw [show (sgF f y [p0,p1,p2,p3,p4,p5,p6,p7,p8] c)=(aS f (y.gs.getD p6.toNat 0) c) from Eq.trans (nH (s:=[p0,p1,p2,p3,p4,p5,p6,p7,p8]) (Int.not_le.2 hsg) (fun q=>hc41 q.2)) (bV (.inr hc53))])
 |(exact Zt 3;rw [show (eI f y [p0,p1,p2,p3,p4,p5,p6,p7,p8] k.pl)=(a6 f y.a y.b [3,0,p2,p3,p4,p5,p6,p7,p8]) from Eq.trans (EF (s:=[p0,p1,p2,p3,p4,p5,p6,p7,p8]) hc18) (dg ..)])
 |(exact Zt 4;rw [show (eI f y [p0,p1,p2,p3,p4,p5,p6,p7,p8] k.pl)=(a6 f y.a y.b [p0,(p1+1),p2,p3,p4,p5,p6,p7,p8]) from Eq.trans (tA (s:=[p0,p1,p2,p3,p4,p5,p6,p7,p8]) hc18) (ej hge hc54)])
 |(exact Zt 5;rw [show (dw f y [p0,p1,p2,p3,p4,p5,p6,p7,p8] k.pl)=(a6 f y.a y.b [4,0,p2,p3,p4,p5,p6,p7,p8]) from Eq.trans (EA (s:=[p0,p1,p2,p3,p4,p5,p6,p7,p8]) hc22) (dg ..)])
 |(exact Zt 6;rw [show (dw f y [p0,p1,p2,p3,p4,p5,p6,p7,p8] k.pl)=(a6 f y.a y.b [p0,(p1+1),0,p3,p4,p5,p6,p7,p8]) from Eq.trans (te (s:=[p0,p1,p2,p3,p4,p5,p6,p7,p8]) hc22 hc30 hc39) (ej hge hc42)])
 |(exact Zt 7;rw [show (dw f y [p0,p1,p2,p3,p4,p5,p6,p7,p8] k.pl)=(a6 f y.a y.b [p0,p1,1,(p3+((gT (k.pl.seq.getD p1.toNat 0) (aX f (k.pl.seq.getD p1.toNat 0)) (k.pl.cntV f y p1)).length:Int)),p4,p5,p6,p7,p8]) from Eq.trans (td (s:=[p0,p1,p2,p3,p4,p5,p6,p7,p8]) hc22 hc30 hc39 h71 hc74) (ej hge hc110)])
 |(exact Zt 8;rw [show (dw f y [p0,p1,p2,p3,p4,p5,p6,p7,p8] k.pl)=(sgF f y [p0,p1,p2,p3,p4,p5,p6,p7,p8] (k.pl.cntV f y p1)) from Ex (s:=[p0,p1,p2,p3,p4,p5,p6,p7,p8]) hc22 hc30 hc39 h71 hc74])
 |(exact Zt 9;rw [show List.replicate f.size (255:UInt8)=(ao f.size 0 []) from (DH oe).symm])
 |(exact Zt 10;rw [show bg x.img (ah x.ops)=x.new from rfl])
 |(exact Zt 11;rw [show syS (x.m:Int) (x.m:Int) x.ops=ah x.ops from by unfold syS;rw [if_pos x.chk]])
 |(exact Zt 12;rw [EF (s:=[p0,p1,p2,p3,p4,p5,p6,p7,p8]) hc16])
 |(exact Zt 13;rw [tA (s:=[p0,p1,p2,p3,p4,p5,p6,p7,p8]) hc16])
 |(exact Zt 14;rw [EA (s:=[p0,p1,p2,p3,p4,p5,p6,p7,p8]) hc21])
 |(exact Zt 15;rw [Ez (s:=[p0,p1,p2,p3,p4,p5,p6,p7,p8]) hc21 hc31])
 exact zq.h):Xo n Q P:=zh
theorem Kj (zh:Xo n Q P:=by
 apply Zom;intro zq;rotate_left;simp
 first
 |(exact Zt 1;rw [te (s:=[p0,p1,p2,p3,p4,p5,p6,p7,p8]) hc21 hc31 hc41])
 |(exact Zt 2;rw [Ey (s:=[p0,p1,p2,p3,p4,p5,p6,p7,p8]) hc21 hc31 hc41 hc66])
 |(exact Zt 3;rw [Ex (s:=[p0,p1,p2,p3,p4,p5,p6,p7,p8]) hc21 hc31 hc41 hc66 hc71])
 |(exact Zt 4;rw [td (s:=[p0,p1,p2,p3,p4,p5,p6,p7,p8]) hc21 hc31 hc41 hc66 hc71])
 |(exact Zt 5;rw [← c5,← c5,← Em,← vy])
 |(exact Zt 6;show (List.replicate (x.n+x.more) (0:Int)).getD i 0=0)
 |(exact Zt 7;show (List.replicate (x.n+x.more) false).getD i false=false)
 |(exact Zt 8;simp only [List.getD_eq_getElem?_getD,List.getElem?_take,List.getElem?_drop])
 |(exact Zt 9;simp only [List.getD_eq_getElem?_getD,List.getElem?_take])
 |(exact Zt 10;simp only [List.getElem?_take,List.getElem?_append,List.length_take,List.length_append,List.getElem?_drop,hcl])
 |(exact Zt 11;simp only [Result.andThen_ok,Sem.run_pure])
 |(exact Zt 12;simp only [e,List.length_append,dE])
 |(exact Zt 13;simp only [execOp,ho,Instr.buildSlice,Sem.run_bind,run_underlying e1,Result.andThen_ok,hS])
 |(exact Zt 14;simp only [execOp,ho,hρ _ _ hx,hρ _ _ hy,Sem.run_bind,hg,Result.andThen_ok,binOp_shr,Op.shift,if_neg hb,Sem.run_pure,IntKind.bits])
 |(exact Zt 15;simp only [wpQuiet,Region.wanted,if_true])
 exact zq.h):Xo n Q P:=zh
theorem Ki (zh:Xo n Q P:=by
 apply Zom;intro zq;rotate_left;simp
 first
 |(exact Zt 1;apply Y 0x4fe87e)
 |(exact Zt 2;apply Y 0xa63fe90f)
 |(exact Zt 4;apply Y 0xa84f62e)
 |(exact Zt 5;apply Y 0x78484f)
 |(exact Zt 6;apply Y 0x82e584f)
 |(exact Zt 10;refine L.store (j:=1) rfl rfl rfl rfl rfl rfl rfl ov ?_)
 |(exact Zt 11;refine LA.alt [7] oa ob ⟨⟨_,rfl,?_⟩,trivial⟩)
 |(exact Zt 12;refine LM.cut [] oa hcx ?_)
 |(exact Zt 13;refine LM.nil oa trivial ?_)
 |(exact Zt 14;refine Py ?_)
 |(exact Zt 15;refine Lu ?_)
 exact zq.h):Xo n Q P:=zh
theorem Kh (zh:Xo n Q P:=by
 apply Zom;intro zq;rotate_left;simp
 first
 |(exact Zt 2;refine sp (Ev.nilCheck rfl (Src.o 1 rfl) oA) ?_)
 exact zq.h):Xo n Q P:=zh
theorem NM (zh:Xo n Q P:=by
 apply Zod;simp
 first
 |(exact Zt 0;exact Lt)
 |(exact Zt 1;exact Ls)
 |(exact Zt 2;exact Lr)
 |(exact Zt 3;exact Lq)
 |(exact Zt 4;exact Lp)
 |(exact Zt 5;exact Lo)
 |(exact Zt 6;exact Ln)
 |(exact Zt 7;exact Lm)
 |(exact Zt 8;exact Ll)
 |(exact Zt 9;exact Lk)
 |(exact Zt 10;exact Lj)
 |(exact Zt 11;exact Li)
 |(exact Zt 12;exact Lh)
 |(exact Zt 13;exact Lf)
 |(exact Zt 14;exact Ld)
 |(exact Zt 15;exact Lc)):Xo n Q P:=zh
theorem NK (zh:Xo n Q P:=by
 apply Zod;simp
 first
 |(exact Zt 0;exact Lb)
 |(exact Zt 1;exact La)
 |(exact Zt 2;exact K9)
 |(exact Zt 3;exact K8)
 |(exact Zt 4;exact K7)
 |(exact Zt 5;exact K6)
 |(exact Zt 6;exact K5)
 |(exact Zt 7;exact K4)
 |(exact Zt 8;exact K3)
 |(exact Zt 9;exact K2)
 |(exact Zt 10;exact K1)
 |(exact Zt 11;exact K0)
 |(exact Zt 12;exact KZ)
 |(exact Zt 13;exact KY)
 |(exact Zt 14;exact KX)
 |(exact Zt 15;exact KW)):Xo n Q P:=zh
theorem NJ (zh:Xo n Q P:=by
 apply Zod;simp
 first
 |(exact Zt 0;exact KV)
 |(exact Zt 1;exact KU)
 |(exact Zt 2;exact KT)
 |(exact Zt 3;exact KS)
 |(exact Zt 4;exact KR)
 |(exact Zt 5;exact KQ)
 |(exact Zt 6;exact KP)
 |(exact Zt 7;exact KO)
 |(exact Zt 8;exact KN)
 |(exact Zt 9;exact KM)
 |(exact Zt 10;exact KL)
 |(exact Zt 11;exact KK)
 |(exact Zt 12;exact KJ)
 |(exact Zt 14;exact KI)
 |(exact Zt 15;exact KH)):Xo n Q P:=zh
theorem NH (zh:Xo n Q P:=by
 apply Zod;simp
 first
 |(exact Zt 0;exact KG)
 |(exact Zt 1;exact KF)
 |(exact Zt 2;exact KE)
 |(exact Zt 3;exact KD)
 |(exact Zt 4;exact KC)
 |(exact Zt 5;exact KB)
 |(exact Zt 6;exact KA)
 |(exact Zt 7;exact Kz)
 |(exact Zt 8;exact Ky)
 |(exact Zt 9;exact Kx)
 |(exact Zt 10;exact Kw)
 |(exact Zt 11;exact Kv)
 |(exact Zt 12;exact Ku)
 |(exact Zt 13;exact Kt)
 |(exact Zt 14;exact Ks)
 |(exact Zt 15;exact Kr)):Xo n Q P:=zh
theorem NG (zh:Xo n Q P:=by
 apply Zod;simp
 first
 |(exact Zt 0;exact Kq)
 |(exact Zt 1;exact Kp)
 |(exact Zt 2;exact Ko)
 |(exact Zt 3;exact Kn)
 |(exact Zt 4;exact Km)
 |(exact Zt 5;exact Kl)
 |(exact Zt 6;exact Kk)
 |(exact Zt 7;exact Kj)
 |(exact Zt 8;exact Ki)
 |(exact Zt 9;exact Kh)):Xo n Q P:=zh
theorem RD (zh:Xo n Q P:=by
 apply Zod;simp
 first
 |(exact Zt 0;exact NM)
 |(exact Zt 1;exact NK)
 |(exact Zt 2;exact NJ)
 |(exact Zt 3;exact NH)
 |(exact Zt 4;exact NG)):Xo n Q P:=zh
theorem AX (zh:Xo n Q P:=by
 apply Zod;simp
 first
 |(exact Zt 15;exact RD)):Xo n Q P:=zh
theorem RJ (zh:Xo n (Q∧R) P:=by
 apply Zop;intro zq zr;rotate_left;simp
 first
 |(exact Zt 7;refine kL _ rfl (imp of_decide_eq_true ?_) (imp of_decide_eq_false ?_))
 |(exact Zt 14;apply Zu 0x7938)
 exact zq.h
 exact zr.h):Xo n (Q∧R) P:=zh
theorem RI (zh:Xo n (Q∧R) P:=by
 apply Zop;intro zq zr;rotate_left;simp
 first
 |(exact Zt 1;refine kL _ rfl ?_ ?_)
 exact zq.h
 exact zr.h):Xo n (Q∧R) P:=zh
theorem RH (zh:Xo n (Q∧R) P:=by
 apply Zop;intro zq zr;rotate_left;simp
 first
 |(exact Zt 14;refine kL _ rfl (imp fA ?_) (imp fz ?_))
 exact zq.h
 exact zr.h):Xo n (Q∧R) P:=zh
theorem RG (zh:Xo n (Q∧R) P:=by
 apply Zop;intro zq zr;rotate_left;simp
 first
 |(exact Zt 5;refine kL _ rfl (imp ky ?_) (imp kA ?_))
 exact zq.h
 exact zr.h):Xo n (Q∧R) P:=zh
theorem Zhb (zh:Xo n (Q∧R) P:=by
 apply Zod;simp
 first
 |(exact Zt 9;exact RJ)
 |(exact Zt 10;exact RI)
 |(exact Zt 12;exact RH)
 |(exact Zt 13;exact RG)):Xo n (Q∧R) P:=zh
theorem N5 (zh:Xo n (Q∧R) P:=by
 apply Zop;intro zq zr;rotate_left;simp
 first
 |(exact Zt 1;refine ⟨none,0,?_,?_,rfl⟩)
 exact zq.h
 exact zr.h):Xo n (Q∧R) P:=zh
theorem N4 (zh:Xo n (Q∧R) P:=by
 apply Zop;intro zq zr;rotate_left;simp
 first
 |(exact Zt 4;refine bh (js:=[0]) (js':=[1,2,3]) (xk D A (l.drop (2*ni (k))) c (wds.getD k 0) hcc oo hw.2) rfl rfl rfl ob hcx rfl ?_ ?_)
 exact zq.h
 exact zr.h):Xo n (Q∧R) P:=zh
theorem N3 (zh:Xo n (Q∧R) P:=by
 apply Zop;intro zq zr;rotate_left;simp
 first
 |(exact Zt 12;refine bb (js:=[0]) (js':=[]) (eA T 3 A [.int .i64 last,.int .i64 size] (bj S c 2 1) (l.drop 2) (c-2) oo) rfl rfl rfl ob hcx rfl ?_ ?_)
 |(exact Zt 13;refine bb (js:=[0]) (js':=[]) (eA T 3 A [.int .i64 last,.int .i64 size] S l c hc) rfl rfl rfl ob hcx rfl ?_ ?_)
 exact zq.h
 exact zr.h):Xo n (Q∧R) P:=zh
theorem N2 (zh:Xo n (Q∧R) P:=by
 apply Zop;intro zq zr;rotate_left;simp
 first
 |(exact Zt 7;refine ⟨TO,tc,?_,?_,rfl⟩)
 exact zq.h
 exact zr.h):Xo n (Q∧R) P:=zh
theorem N1 (zh:Xo n (Q∧R) P:=by
 apply Zop;intro zq zr;rotate_left;simp
 first
 |(exact Zt 11;refine LA.alt [1,5] oa ob ⟨⟨_,rfl,?_⟩,⟨_,rfl,?_⟩,trivial⟩)
 exact zq.h
 exact zr.h):Xo n (Q∧R) P:=zh
theorem N0 (zh:Xo n (Q∧R) P:=by
 apply Zop;intro zq zr;rotate_left;simp
 first
 |(exact Zt 13;refine LA.alt [3,6] oa ob ⟨⟨_,rfl,?_⟩,⟨_,rfl,?_⟩,trivial⟩)
 exact zq.h
 exact zr.h):Xo n (Q∧R) P:=zh
theorem RC (zh:Xo n (Q∧R) P:=by
 apply Zod;simp
 first
 |(exact Zt 0;exact N5)
 |(exact Zt 1;exact N4)
 |(exact Zt 2;exact N3)
 |(exact Zt 5;exact N2)
 |(exact Zt 8;exact N1)
 |(exact Zt 11;exact N0)):Xo n (Q∧R) P:=zh
theorem NF (zh:Xo n (Q∧R) P:=by
 apply Zod;simp
 first
 |(exact Zt 14;exact RC)):Xo n (Q∧R) P:=zh
theorem Kg (zh:Xo n (Q∧R) P:=by
 apply Zop;intro zq zr;rotate_left;simp
 first
 |(exact Zt 15;refine LA.alt [1,4] oa ob ⟨⟨_,rfl,?_⟩,⟨_,rfl,?_⟩,trivial⟩)
 exact zq.h
 exact zr.h):Xo n (Q∧R) P:=zh
theorem Kf (zh:Xo n (Q∧R) P:=by
 apply Zop;intro zq zr;rotate_left;simp
 first
 |(exact Zt 11;refine ⟨PO,pc,?_,?_,rfl⟩)
 exact zq.h
 exact zr.h):Xo n (Q∧R) P:=zh
theorem Ke (zh:Xo n (Q∧R) P:=by
 apply Zop;intro zq zr;rotate_left;simp
 first
 |(exact Zt 6;refine LA.alt [2,6] oa ob ⟨⟨_,rfl,?_⟩,⟨_,rfl,?_⟩,trivial⟩)
 exact zq.h
 exact zr.h):Xo n (Q∧R) P:=zh
theorem Kd (zh:Xo n (Q∧R) P:=by
 apply Zop;intro zq zr;rotate_left;simp
 first
 |(exact Zt 11;refine L.bool 35 rfl (imp of_decide_eq_true ?_) (imp of_decide_eq_false ?_))
 exact zq.h
 exact zr.h):Xo n (Q∧R) P:=zh
theorem Kc (zh:Xo n (Q∧R) P:=by
 apply Zop;intro zq zr;rotate_left;simp
 first
 |(exact Zt 3;refine kL _ rfl (imp eq_of_beq ?_) ?_)
 |(exact Zt 12;refine L.bool 10 rfl (imp of_decide_eq_true ?_) (imp of_decide_eq_false ?_))
 |(exact Zt 13;refine L.bool 22 rfl (imp of_decide_eq_true ?_) (imp of_decide_eq_false ?_))
 |(exact Zt 14;refine L.bool 24 rfl (imp of_decide_eq_true ?_) (imp of_decide_eq_false ?_))
 |(exact Zt 15;refine L.bool 31 rfl (imp of_decide_eq_true ?_) (imp of_decide_eq_false ?_))
 exact zq.h
 exact zr.h):Xo n (Q∧R) P:=zh
theorem Kb (zh:Xo n (Q∧R) P:=by
 apply Zop;intro zq zr;rotate_left;simp
 first
 |(exact Zt 2;refine bb (js:=[]) (js':=[0]) (dY 220) rfl rfl rfl ob trivial rfl ?_ ?_)
 |(exact Zt 7;refine LA.alt [0,5] oa ob ⟨⟨_,rfl,?_⟩,⟨_,rfl,?_⟩,trivial⟩)
 |(exact Zt 9;refine LA.alt [2,4] oa ob ⟨⟨_,rfl,?_⟩,⟨_,rfl,?_⟩,trivial⟩)
 |(exact Zt 10;refine LA.alt [3,5] oa ob ⟨⟨_,rfl,?_⟩,⟨_,rfl,?_⟩,trivial⟩)
 exact zq.h
 exact zr.h):Xo n (Q∧R) P:=zh
theorem Ka (zh:Xo n (Q∧R) P:=by
 apply Zop;intro zq zr;rotate_left;simp
 first
 |(exact Zt 1;refine LQ.bool 54 rfl (imp fA ?_) (imp fz ?_))
 |(exact Zt 2;refine LQ.bool 65 rfl (imp fA ?_) (imp fz ?_))
 exact zq.h
 exact zr.h):Xo n (Q∧R) P:=zh
theorem J9 (zh:Xo n (Q∧R) P:=by
 apply Zop;intro zq zr;rotate_left;simp
 first
 |(exact Zt 15;refine ⟨XA,xc,?_,?_,rfl⟩)
 exact zq.h
 exact zr.h):Xo n (Q∧R) P:=zh
theorem J7 (zh:Xo n (Q∧R) P:=by
 apply Zop;intro zq zr;rotate_left;simp
 first
 |(exact Zt 4;refine L.bool 11 rfl (imp of_decide_eq_true ?_) (imp of_decide_eq_false ?_))
 |(exact Zt 5;refine L.bool 13 rfl (imp fA ?_) (imp fz ?_))
 |(exact Zt 6;refine L.bool 13 rfl (imp of_decide_eq_true ?_) (imp of_decide_eq_false ?_))
 |(exact Zt 7;refine L.bool 14 rfl (imp of_decide_eq_true ?_) (imp of_decide_eq_false ?_))
 |(exact Zt 8;refine L.bool 15 rfl (imp of_decide_eq_true ?_) (imp of_decide_eq_false ?_))
 |(exact Zt 9;refine L.bool 15 rfl ?_ ?_)
 |(exact Zt 10;refine L.bool 16 rfl (imp of_decide_eq_true ?_) (imp of_decide_eq_false ?_))
 |(exact Zt 11;refine L.bool 17 rfl ?_ ?_)
 |(exact Zt 12;refine L.bool 18 rfl (imp of_decide_eq_true ?_) (imp of_decide_eq_false ?_))
 |(exact Zt 13;refine L.bool 21 rfl (imp of_decide_eq_true ?_) (imp of_decide_eq_false ?_))
 |(exact Zt 14;refine L.bool 21 rfl ?_ ?_)
 |(exact Zt 15;refine L.bool 28 rfl (imp of_decide_eq_true ?_) (imp of_decide_eq_false ?_))
 exact zq.h
 exact zr.h):Xo n (Q∧R) P:=zh
theorem J6 (zh:Xo n (Q∧R) P:=by
 apply Zop;intro zq zr;rotate_left;simp
 first
 |(exact Zt 1;refine L.bool 29 rfl (imp of_decide_eq_true ?_) (imp of_decide_eq_false ?_))
 |(exact Zt 2;refine L.bool 30 rfl (imp of_decide_eq_true ?_) (imp of_decide_eq_false ?_))
 |(exact Zt 3;refine L.bool 44 rfl (imp of_decide_eq_true ?_) (imp of_decide_eq_false ?_))
 |(exact Zt 4;refine L.bool 8 rfl ?_ ?_)
 |(exact Zt 6;refine bh (js:=[0]) (js':=[1,2]) (lr f a hok hh y G U V gc uc vc hyn hyl hcap p0 p1 p2 p3 p4 p5 p6 p7 p8 hp k rv OA QA HA oc qc hc hpl M (aS f (y.gs.getD p6.toNat 0) c).x XA xc (aS f (y.gs.getD p6.toNat 0) c).done (aS f (y.gs.getD p6.toNat 0) c).e) rfl rfl rfl ob hcx rfl ?_ ?_)
 |(exact Zt 7;refine bh (js:=[0]) (js':=[1]) (dj f a hok hh y G U V gc uc vc hyn hyl hcap p0 p1 p2 p3 p4 p5 p6 p7 p8 hp k rv OA QA HA oc qc hc hpl M [p0,p1,(p2+1),p3,p4,p5,p6,p7,p8] rfl) rfl rfl rfl ob hcx rfl ?_ ?_)
 |(exact Zt 14;refine LA.alt [0,4] oa ob ⟨⟨_,rfl,?_⟩,⟨_,rfl,?_⟩,trivial⟩)
 |(exact Zt 15;refine LA.alt [1,2] oa ob ⟨⟨_,rfl,?_⟩,⟨_,rfl,?_⟩,trivial⟩)
 exact zq.h
 exact zr.h):Xo n (Q∧R) P:=zh
theorem J5 (zh:Xo n (Q∧R) P:=by
 apply Zop;intro zq zr;rotate_left;simp
 first
 |(exact Zt 1;refine LA.alt [1,6] oa ob ⟨⟨_,rfl,?_⟩,⟨_,rfl,?_⟩,trivial⟩)
 |(exact Zt 2;refine LA.alt [2,5] oa ob ⟨⟨_,rfl,?_⟩,⟨_,rfl,?_⟩,trivial⟩)
 |(exact Zt 3;refine LM.alt [11,13] oa ob hcx ⟨⟨_,rfl,?_⟩,⟨_,rfl,?_⟩,trivial⟩)
 exact zq.h
 exact zr.h):Xo n (Q∧R) P:=zh
theorem J4 (zh:Xo n (Q∧R) P:=by
 apply Zop;intro zq zr;rotate_left;simp
 first
 |(exact Zt 6;refine ⟨none,none,0,0,?_,?_,rfl⟩)
 exact zq.h
 exact zr.h):Xo n (Q∧R) P:=zh
theorem J3 (zh:Xo n (Q∧R) P:=by
 apply Zop;intro zq zr;rotate_left;simp
 first
 |(exact Zt 2;refine L.bool 16 rfl (imp ky ?_) (imp kA ?_))
 |(exact Zt 3;refine L.bool 17 rfl (imp of_decide_eq_true ?_) (imp of_decide_eq_false ?_))
 |(exact Zt 4;refine L.bool 19 rfl (imp of_decide_eq_true ?_) (imp of_decide_eq_false ?_))
 |(exact Zt 5;refine L.bool 20 rfl (imp of_decide_eq_true ?_) (imp of_decide_eq_false ?_))
 |(exact Zt 6;refine L.bool 23 rfl (imp of_decide_eq_true ?_) (imp of_decide_eq_false ?_))
 |(exact Zt 7;refine L.bool 25 rfl (imp ky ?_) (imp kA ?_))
 |(exact Zt 8;refine L.bool 25 rfl (imp fA ?_) (imp fz ?_))
 |(exact Zt 9;refine L.bool 26 rfl (imp of_decide_eq_true ?_) (imp of_decide_eq_false ?_))
 |(exact Zt 10;refine L.bool 27 rfl (imp of_decide_eq_true ?_) (imp of_decide_eq_false ?_))
 |(exact Zt 11;refine L.bool 31 rfl (imp ky ?_) (imp kA ?_))
 |(exact Zt 12;refine L.bool 33 rfl (imp fA ?_) (imp fz ?_))
 |(exact Zt 13;refine L.bool 33 rfl (imp of_decide_eq_true ?_) (imp of_decide_eq_false ?_))
 |(exact Zt 14;refine L.bool 37 rfl (imp of_decide_eq_true ?_) (imp of_decide_eq_false ?_))
 |(exact Zt 15;refine L.bool 40 rfl (imp of_decide_eq_true ?_) (imp of_decide_eq_false ?_))
 exact zq.h
 exact zr.h):Xo n (Q∧R) P:=zh
theorem J2 (zh:Xo n (Q∧R) P:=by
 apply Zop;intro zq zr;rotate_left;simp
 first
 |(exact Zt 1;refine L.bool 41 rfl (imp ky ?_) (imp kA ?_))
 |(exact Zt 2;refine L.bool 41 rfl (imp fA ?_) (imp fz ?_))
 |(exact Zt 3;refine L.bool 44 rfl (imp fA ?_) (imp fz ?_))
 |(exact Zt 4;refine L.bool 8 rfl (imp fA ?_) (imp fz ?_))
 |(exact Zt 7;refine bb (js:=[]) (js':=[0,1]) (dY 240) rfl rfl rfl ob trivial rfl ?_ ?_)
 |(exact Zt 8;refine bb (js:=[]) (js':=[0]) (dY 240) rfl rfl rfl ob trivial rfl ?_ ?_)
 |(exact Zt 9;refine bh (js:=[0]) (js':=[1]) (dj f a hok hh y G U V gc uc vc hyn hyl hcap p0 p1 p2 p3 p4 p5 p6 p7 p8 hp k rv OA QA HA oc qc hc hpl M [p0,p1,p2,p3,p4,p5,(p6+1),p7,p8] rfl) rfl rfl rfl ob hcx rfl ?_ ?_)
 exact zq.h
 exact zr.h):Xo n (Q∧R) P:=zh
theorem J1 (zh:Xo n (Q∧R) P:=by
 apply Zop;intro zq zr;rotate_left;simp
 first
 |(exact Zt 8;refine LA.alt [1,3] oa ob ⟨⟨_,rfl,?_⟩,⟨_,rfl,?_⟩,trivial⟩)
 |(exact Zt 9;refine LM.alt [3,6] oa ob hcx ⟨⟨_,rfl,?_⟩,⟨_,rfl,?_⟩,trivial⟩)
 |(exact Zt 10;refine LM.alt [7,12] oa ob hcx ⟨⟨_,rfl,?_⟩,⟨_,rfl,?_⟩,trivial⟩)
 |(exact Zt 11;refine LM.alt [7,13] oa ob hcx ⟨⟨_,rfl,?_⟩,⟨_,rfl,?_⟩,trivial⟩)
 |(exact Zt 12;refine LM.alt [7,8] oa ob hcx ⟨⟨_,rfl,?_⟩,⟨_,rfl,?_⟩,trivial⟩)
 |(exact Zt 13;refine LM.alt [8,12] oa ob hcx ⟨⟨_,rfl,?_⟩,⟨_,rfl,?_⟩,trivial⟩)
 |(exact Zt 14;refine LM.bool 174 rfl (imp fA ?_) (imp fz ?_))
 exact zq.h
 exact zr.h):Xo n (Q∧R) P:=zh
theorem J0 (zh:Xo n (Q∧R) P:=by
 apply Zop;intro zq zr;rotate_left;simp
 first
 |(exact Zt 10;refine LQ.bool 51 rfl (imp ky ?_) (imp kA ?_))
 |(exact Zt 11;refine LQ.bool 93 rfl (imp of_decide_eq_true ?_) (imp of_decide_eq_false ?_))
 exact zq.h
 exact zr.h):Xo n (Q∧R) P:=zh
theorem ND (zh:Xo n (Q∧R) P:=by
 apply Zod;simp
 first
 |(exact Zt 0;exact Kg)
 |(exact Zt 1;exact Kf)
 |(exact Zt 3;exact Ke)
 |(exact Zt 6;exact Kd)
 |(exact Zt 13;exact Kc)
 |(exact Zt 14;exact Kb)
 |(exact Zt 15;exact Ka)):Xo n (Q∧R) P:=zh
theorem NC (zh:Xo n (Q∧R) P:=by
 apply Zod;simp
 first
 |(exact Zt 1;exact J9)
 |(exact Zt 7;exact J7)
 |(exact Zt 8;exact J6)
 |(exact Zt 9;exact J5)
 |(exact Zt 15;exact J4)):Xo n (Q∧R) P:=zh
theorem NB (zh:Xo n (Q∧R) P:=by
 apply Zod;simp
 first
 |(exact Zt 0;exact J3)
 |(exact Zt 1;exact J2)
 |(exact Zt 2;exact J1)
 |(exact Zt 5;exact J0)):Xo n (Q∧R) P:=zh
theorem Rz (zh:Xo n (Q∧R) P:=by
 apply Zod;simp
 first
 |(exact Zt 0;exact ND)
 |(exact Zt 1;exact NC)
 |(exact Zt 3;exact NB)):Xo n (Q∧R) P:=zh
theorem Jx (zh:Xo n (Q∧R) P:=by
 apply Zod;simp
 first
 |(exact Zt 15;exact Rz)):Xo n (Q∧R) P:=zh
theorem Zgc (zh:Xo n True P:=by
 apply Zoz;rotate_left;simp
 first
 |(exact Zt 2;rfl)):Xo n True P:=zh
theorem RF (zh:Xo n True P:=by
 apply Zoz;rotate_left;simp
 first
 |(exact Zt 1;omega)):Xo n True P:=zh
theorem Zhc (zh:Xo n True P:=by
 apply Zod;simp
 first
 |(exact Zt 8;exact RF)):Xo n True P:=zh
theorem NZ (zh:Xo n True P:=by
 apply Zoz;rotate_left;simp
 first
 |(exact Zt 2;exact Zm 0x384fb02f)
 |(exact Zt 3;exact Zm 0x884f47e)
 |(exact Zt 8;simp)):Xo n True P:=zh
theorem NY (zh:Xo n True P:=by
 apply Zoz;rotate_left;simp
 first
 |(exact Zt 2;exact h)):Xo n True P:=zh
theorem NX (zh:Xo n True P:=by
 apply Zoz;rotate_left;simp
 first
 |(exact Zt 3;refine aR (()) Ot (lk [1] [0]))
 |(exact Zt 4;exact Nat.zero_le _)
 |(exact Zt 5;exact ⟨rfl,rfl,rfl⟩)):Xo n True P:=zh
theorem NW (zh:Xo n True P:=by
 apply Zoz;rotate_left;simp
 first
 |(exact Zt 2;exact ⟨none,0,rfl,rfl,rfl⟩)):Xo n True P:=zh
theorem NV (zh:Xo n True P:=by
 apply Zoz;rotate_left;simp
 first
 |(exact Zt 2;exact DP oe oe)):Xo n True P:=zh
theorem NU (zh:Xo n True P:=by
 apply Zoz;rotate_left;simp
 first
 |(exact Zt 3;exact ⟨_,by rw [hE];rfl,rfl,rfl⟩)
 |(exact Zt 7;exact ⟨A,c,rfl,rfl,rfl⟩)
 |(exact Zt 8;exact ⟨hne,NO,nc,rfl,rfl,rfl⟩)
 |(exact Zt 9;exact ⟨hne,rfl,rfl⟩)):Xo n True P:=zh
theorem NT (zh:Xo n True P:=by
 apply Zoz;rotate_left;simp
 first
 |(exact Zt 4;exact IR oe)
 |(exact Zt 5;exact ⟨by decide,rfl,rfl⟩)):Xo n True P:=zh
theorem NS (zh:Xo n True P:=by
 apply Zoz;rotate_left;simp
 first
 |(exact Zt 2;decide)
 |(exact Zt 4;exact absurd h ob)
 |(exact Zt 5;exact ⟨hge,rfl,rfl⟩)):Xo n True P:=zh
theorem NR (zh:Xo n True P:=by
 apply Zoz;rotate_left;simp
 first
 |(exact Zt 11;exact Nat.le_refl _)):Xo n True P:=zh
theorem NQ (zh:Xo n True P:=by
 apply Zoz;rotate_left;simp
 first
 |(exact Zt 14;refine ⟨none,0,by rw [CJ hB,l5 hB];rfl,rfl,by rw [l5 hB];rfl⟩)):Xo n True P:=zh
theorem NP (zh:Xo n True P:=by
 apply Zoz;rotate_left;simp
 first
 |(exact Zt 14;exact gM f ob)
 |(exact Zt 15;exact iZ oe oe hc50 oe)):Xo n True P:=zh
theorem NN (zh:Xo n True P:=by
 apply Zoz;rotate_left;simp
 first
 |(exact Zt 1;exact iZ oe oe hc56 oe)
 |(exact Zt 2;exact decide_eq_false oe)
 |(exact Zt 3;exact ⟨b,hbl,hbc,rfl,rfl,rfl⟩)):Xo n True P:=zh
theorem Ry (zh:Xo n True P:=by
 apply Zod;simp
 first
 |(exact Zt 1;exact NZ)
 |(exact Zt 2;exact NY)
 |(exact Zt 3;exact NX)
 |(exact Zt 4;exact NW)
 |(exact Zt 7;exact NV)
 |(exact Zt 8;exact NU)
 |(exact Zt 9;exact NT)
 |(exact Zt 10;exact NS)
 |(exact Zt 11;exact NR)
 |(exact Zt 12;exact NQ)
 |(exact Zt 14;exact NP)
 |(exact Zt 15;exact NN)):Xo n True P:=zh
theorem Nz (zh:Xo n True P:=by
 apply Zod;simp
 first
 |(exact Zt 14;exact Ry)):Xo n True P:=zh
theorem JZ (zh:Xo n True P:=by
 apply Zoz;rotate_left;simp
 first
 |(exact Zt 9;exact NxOk.nxE _)
 |(exact Zt 10;exact ⟨congrArg Value.bool ((FU oe).symm),rfl,rfl⟩)):Xo n True P:=zh
theorem JY (zh:Xo n True P:=by
 apply Zoz;rotate_left;simp
 first
 |(exact Zt 11;exact Nat.le_trans (ze ok _ _ _) ob)
 |(exact Zt 12;exact cT.bad f ob)
 |(exact Zt 13;exact cT.next _ _ _ _)
 |(exact Zt 14;exact NxOk.next _ _ _ _)
 |(exact Zt 15;exact h _ _ hh)):Xo n True P:=zh
theorem JX (zh:Xo n True P:=by
 apply Zoz;rotate_left;simp
 first
 |(exact Zt 1;exact ⟨by simp,Nat.le_refl _⟩)
 |(exact Zt 14;refine QE.round (j+1) qG oe (lk [0,1] []))):Xo n True P:=zh
theorem JW (zh:Xo n True P:=by
 apply Zoz;rotate_left;simp
 first
 |(exact Zt 12;refine ⟨none,0,by rw [CE hB,lY hB];rfl,rfl,by rw [lY hB];rfl⟩)):Xo n True P:=zh
theorem JU (zh:Xo n True P:=by
 apply Zoz;rotate_left;simp
 first
 |(exact Zt 1;simp [bodyPostS,results,hd,hst])
 |(exact Zt 2;simp only [execOp,resolve,invoke,builtin,Sem.run_bind,Sem.run_pure,Result.andThen_ok,List.map_toArray,List.map_cons,List.map_nil,hf.eval hx,hf.eval hy,hrun])
 |(exact Zt 3;simpa using h2)
 |(exact Zt 14;exact (dg f y _).symm)
 |(exact Zt 15;exact List.getElem_mem h)):Xo n True P:=zh
theorem JT (zh:Xo n True P:=by
 apply Zoz;rotate_left;simp
 first
 |(exact Zt 1;exact hf.vals t u hu)
 |(exact Zt 2;exact ⟨O,c,rfl,rfl,rfl⟩)
 |(exact Zt 3;exact ⟨by rw [hE];rfl,rfl,rfl⟩)
 |(exact Zt 4;exact ⟨none,none,none,0,0,0,rfl,rfl,rfl⟩)
 |(exact Zt 15;refine aR ((A3,A12,cc12,A16,cc16)) Oz (by exact lk [0,1,2,3,4] [0,3,1,2] (hh:=⟨rfl,oB,oB,oB,trivial⟩)))):Xo n True P:=zh
theorem JS (zh:Xo n True P:=by
 apply Zoz;rotate_left;simp
 first
 |(exact Zt 3;refine QE.round (i:=(k,hs)) ((k+1,hs)) Qs ou (by exact lk [0,1,2,3] [0,1] (hh:=⟨(congrArg some OW),(congrArg some OW),trivial⟩)))):Xo n True P:=zh
theorem JQ (zh:Xo n True P:=by
 apply Zoz;rotate_left;simp
 first
 |(exact Zt 11;rw [dR Q4])
 |(exact Zt 12;rw [dI _ _ _ _ hi])
 |(exact Zt 13;simp [execOp,ho,hρ _ _ hx,hρ _ _ hy,hg,hb])):Xo n True P:=zh
theorem JP (zh:Xo n True P:=by
 apply Zoz;rotate_left;simp
 first
 |(exact Zt 3;exact cT.fin f _)
 |(exact Zt 4;exact gM f h)
 |(exact Zt 5;exact aR (A9) trivial (lk [0,1,2,3,4,5,6,7,8,9,10,11,12,13] [1,2]))
 |(exact Zt 6;exact vm oe oe hc50)
 |(exact Zt 7;exact vm oe oe hc56)
 |(exact Zt 8;exact vk oe oe hc50 oe)
 |(exact Zt 9;exact vk oe oe hc56 oe)
 |(exact Zt 10;exact hK _ _ (k v R' H' hΦ _ _ (hf.put oU v) hs'))
 |(exact Zt 11;exact hf.vals t _ hb)
 |(exact Zt 12;exact kp R' H' hΨ _ _ hf hs')
 |(exact Zt 13;exact zc (k:=k) oe (EZ oe))
 |(exact Zt 14;exact ⟨A7,cc7,by simp only [Nat.zero_add];rfl,rfl,by simp only [sel,Nat.zero_add,List.nil_append];rfl⟩)
 |(exact Zt 15;exact ⟨O,oc,rfl,rfl,rfl⟩)):Xo n True P:=zh
theorem JO (zh:Xo n True P:=by
 apply Zoz;rotate_left;simp
 first
 |(exact Zt 1;exact ⟨az,rfl,⟨fun i hi=>absurd hi (Nat.not_lt_zero _),Nat.zero_le _⟩,rfl,rfl,rfl⟩)
 |(exact Zt 2;exact ⟨congrArg Value.bool ((CP oe (CS oe hN)).symm),rfl,rfl⟩)):Xo n True P:=zh
theorem JN (zh:Xo n True P:=by
 apply Zoz;rotate_left;simp
 first
 |(exact Zt 10;refine QE.round (i+1) QY oe (lk [0,1,2,3,4] []))):Xo n True P:=zh
theorem JM (zh:Xo n True P:=by
 apply Zoz;rotate_left;simp
 first
 |(exact Zt 1;rw [if_neg h,if_neg h2,if_pos h3])
 |(exact Zt 2;simp [Instr.fill,newRow,Array.range_zero'])
 |(exact Zt 3;simp [List.getD_eq_getElem?_getD,h])
 |(exact Zt 4;simp [execOp,ho,resolve,invoke,builtin,hρ _ _ h2,Builtin.len_,run_underlying e1,goInt])):Xo n True P:=zh
theorem JL (zh:Xo n True P:=by
 apply Zoz;rotate_left;simp
 first
 |(exact Zt 12;exact (cT.tow _ _ _).thn)
 |(exact Zt 13;exact (NxOk.tow _ _ _).thn)
 |(exact Zt 14;exact aR ((A5,XA,xc)) hsg (lk [0,1,2,3,4,5,6,7,8] [0,1,2]))
 |(exact Zt 15;exact decide_eq_true oe)):Xo n True P:=zh
theorem JK (zh:Xo n True P:=by
 apply Zoz;rotate_left;simp
 first
 |(exact Zt 1;exact h.dis p q d d' hp hq hpq k hk hk')
 |(exact Zt 2;exact ⟨.returned (.tuple #[]),(.panicking [{ v:=pv,recovered:=true }]),_,fr,⟨tup vs,dh hrs hf hsat hr,tup vs,_,_,hΦ,rfl,(hsat.selR js).sel hn⟩,r⟩)
 |(exact Zt 3;exact ⟨.returned (.tuple #[]),.returning,_,fr,⟨tup vs,dh hrs hf hsat hr,tup vs,_,_,hΦ,rfl,(hsat.selR js).sel hn⟩,r⟩)
 |(exact Zt 4;exact ⟨YA,yc,rfl,rfl,rfl⟩)
 |(exact Zt 5;exact ⟨_,hA,by rw [adz];exact hc⟩)
 |(exact Zt 6;exact ⟨congrArg Value.bool ((sY (p:=fun a=>chY l inn (t*S+a)) (k:=j) oe hx).symm),rfl,rfl⟩)
 |(exact Zt 7;exact ⟨hf.size,by simp [Act.put,hf.dfs],fun s v hv=>hf.vals s v hv⟩)
 |(exact Zt 8;exact ⟨hge,_,_,rfl,rfl,rfl⟩)
 |(exact Zt 9;exact ⟨hge,rO (aS f (y.gs.getD p6.toNat 0) c).done XA,rC (aS f (y.gs.getD p6.toNat 0) c).done xc,rfl,rfl,rfl⟩)
 |(exact Zt 10;exact ⟨i,by rw [hx];rfl,rfl,rfl,by omega,h1,fun q hq hq2=>h2 q oe hq2⟩)):Xo n True P:=zh
theorem JJ (zh:Xo n True P:=by
 apply Zoz;rotate_left;simp
 first
 |(exact Zt 13;refine aR ((A3,A12,cc12,A16,cc16)) Oz (by exact lk [0,1,2,3,4] [0,2,1,3] (hh:=⟨rfl,oB,oB,oB,trivial⟩)))
 |(exact Zt 14;refine aR ((A3,A12,cc12,A16,cc16)) Oz (by exact lk [0,1,2,3,4] [0,3,2,1] (hh:=⟨rfl,oB,oB,oB,trivial⟩)))
 |(exact Zt 15;refine aR ((b,A8)) ob6 (lk [0,1,2,3,7,6] [0,1]))):Xo n True P:=zh
theorem JI (zh:Xo n True P:=by
 apply Zoz;rotate_left;simp
 first
 |(exact Zt 1;refine aR ((b,A9,A24,c24)) obV (lk [0,1,2,3,4,5,6,7] [5,6,1,2,3,4,0]))
 |(exact Zt 2;refine aR ((b2,A10)) ob5 (lk [0,1,2,3] [0,2]))
 |(exact Zt 6;refine QE.round (i:=(i,A,c)) ((i+1,A84,cc84)) ou ou (by exact lk [0] [0,1,2] (hh:=⟨rfl,(congrArg some (ax rfl OU)),(congrArg some (ax OU QG)),trivial⟩)))
 |(exact Zt 8;refine QE.round (u+1) oaD oe (lk [0,1,2,3] []))):Xo n True P:=zh
theorem JH (zh:Xo n True P:=by
 apply Zoz;rotate_left;simp
 first
 |(exact Zt 6;rw [← h,List.getElem?_take,if_pos hq,List.getElem?_drop])
 |(exact Zt 7;simp [List.getD_eq_getElem?_getD,h,Brk.zero])
 |(exact Zt 8;simp [execOp,ho,hρ _ _ h1,hρ _ _ h,asBool])
 |(exact Zt 9;simp [execOp,ho,hρ _ _ hx,hc,hg,hb])
 |(exact Zt 10;simp [execOp,hx',hf.eval hy,Instr.storeAt,Instr.sureAddr,storeVar,hv,hS,hsz,storeCells,ha0,hst])):Xo n True P:=zh
theorem JG (zh:Xo n True P:=by
 apply Zoz;rotate_left;simp
 first
 |(exact Zt 14;exact (decide_eq_false fun h=>hg10 ob7).symm)
 |(exact Zt 15;exact (decide_eq_false fun h=>hg17 ob7).symm)):Xo n True P:=zh
theorem JF (zh:Xo n True P:=by
 apply Zoz;rotate_left;simp
 first
 |(exact Zt 1;exact .inl ⟨_,List.mem_of_getElem? hj,hk⟩)
 |(exact Zt 2;exact aR ((A10,XA,xc)) trivial (lk [0,1,2,3,4,5,6,7,8,9,10,11] [0,1,2]))
 |(exact Zt 3;exact aR ((A11,b1)) ⟨hb1,hc1⟩ (lk [0,1,2,3,8,9,10,11,12,13,14,15,16,17,18,19] [0,1]))
 |(exact Zt 4;exact aR (A3) trivial (lk [0,1,2,3,4,5,6,7,8,9] [1,2]))
 |(exact Zt 5;exact h.dis i i' x y hx' hy' hne k hk hk')
 |(exact Zt 6;exact hs.dis p q c d hpc hqd (njj p hp q hq) k hk hk')
 |(exact Zt 7;exact hx x (List.mem_of_getElem? hx1) c (List.mem_of_getElem? hc) k hx2 hk)
 |(exact Zt 8;exact hx x (List.mem_of_getElem? hx1) d (List.mem_of_getElem? hd) k hx2 hk')
 |(exact Zt 9;exact k hinv _ _ ob0 (fun e he=>getD_set_true (h0 e he)) (hf.put oU v) hs)
 |(exact Zt 10;exact ⟨Nat.lt_of_lt_of_le (hk▸hg) hst.size,.inr ⟨_,rfl,hk⟩⟩)
 |(exact Zt 11;exact ⟨_,_,_,⟨rfl,rfl,rfl⟩,rfl,hs⟩)
 |(exact Zt 12;exact ⟨_,_,⟨hk,rfl⟩,rfl,rfl,rfl⟩)
 |(exact Zt 13;exact ⟨congrArg Value.bool (by unfold ib;rw [hall];simp),rfl,rfl⟩)
 |(exact Zt 14;exact ⟨congrArg Value.bool (decide_eq_true rfl),rfl,rfl⟩)
 |(exact Zt 15;exact ⟨congrArg Value.bool (fa fun q=>by have:=q.2.1;omega).symm,rfl,rfl⟩)):Xo n True P:=zh
theorem JE (zh:Xo n True P:=by
 apply Zoz;rotate_left;simp
 first
 |(exact Zt 1;exact ⟨congrArg Value.bool (fa fun q=>by have:=q.2.2.1;omega).symm,rfl,rfl⟩)
 |(exact Zt 2;exact ⟨congrArg Value.bool (fa fun q=>by have:=q.2.2.2.1;omega).symm,rfl,rfl⟩)
 |(exact Zt 3;exact ⟨congrArg Value.bool (fa fun q=>by have:=q.2.2.2.2.1;omega).symm,rfl,rfl⟩)
 |(exact Zt 4;exact ⟨congrArg Value.bool (fa fun q=>by have:=q.2.2.2.2.2.1;omega).symm,rfl,rfl⟩)
 |(exact Zt 5;exact ⟨congrArg Value.bool oS,rfl,rfl⟩)
 |(exact Zt 6;exact ⟨congrArg Value.bool oaM,rfl,rfl⟩)
 |(exact Zt 7;exact ⟨congrArg Value.bool oap,rfl,rfl⟩)
 |(exact Zt 8;exact ⟨h.own q d hq,fun k hk=>⟨(h.ofp q d hq k hk).1,.inr ⟨q,d,hq,hk⟩⟩⟩)
 |(exact Zt 9;exact ⟨none,0,by rw [gk hno];rfl,hno.symm,rfl,by rw [gk hno];rfl⟩)
 |(exact Zt 10;exact ⟨rfl,⟨fun i hi=>absurd hi (Nat.not_lt_zero _),Nat.zero_le _⟩⟩)
 |(exact Zt 11;exact ⟨⟨b2,GA,UA,VA,PO,PQ,PH,IA,NA,gc,uc,vc,c1,c2,c3,ic,nc⟩,⟨hb2,hc2,hvc⟩,rfl,rfl,rfl⟩)
 |(exact Zt 12;exact ⟨⟨⟨⟨⟨a,b⟩,c⟩,d⟩,e⟩,f⟩)):Xo n True P:=zh
theorem JD (zh:Xo n True P:=by
 apply Zoz;rotate_left;simp
 first
 |(exact Zt 12;refine QE.join ((5,((x.S:Int)+1),(x.n:Int),true)) Oz (lk [0,1,2,3,4,5,6,7,8,9,10,11,12,13,14,15] [0,1]))
 |(exact Zt 13;refine QE.join ((5,(x.S:Int),((x.n:Int)+1),true)) Oz (lk [0,1,2,3,4,5,6,7,8,9,10,11,12,13,14,15] [0,1]))
 |(exact Zt 14;refine QE.join ((5,(x.S:Int),(x.n:Int),false)) Oz (lk [0,1,2,3,4,5,6,7,8,9,10,11,12,13,14,15] [0,1]))
 |(exact Zt 15;refine QE.join ((5,(x.S:Int),(x.n:Int),true)) Oz (lk [0,1,2,3,4,5,6,7,8,9,10,11,12,13,14,15] [0,1]))):Xo n True P:=zh
theorem JB (zh:Xo n True P:=by
 apply Zoz;rotate_left;simp
 first
 |(exact Zt 1;refine QE.join ((6,(x.S:Int),(x.n:Int),true)) Oz (lk [0,1,2,3,4,5,6,7,8,9,10,11,12,13,14,15] [0,1]))
 |(exact Zt 2;refine aR ((A15,cc15)) Oz (by exact lk [0] [1] (hh:=⟨(by rw [← b9];rfl),trivial⟩)))
 |(exact Zt 3;refine aR ((A3,A12,cc12,A16,cc16)) Oz (by exact lk [0,1,2,3,4] [0,1,2,3] (hh:=⟨rfl,oB,oB,oB,trivial⟩)))
 |(exact Zt 4;refine aR ((A48,cc48)) Oz (lk [0,1,2,3] [1]))
 |(exact Zt 5;refine aR ((fid,cap,Aw,ws,A24)) (by exact hw) (lk [0,1,2,3,4,5,6,7,8] [0,1,2]))
 |(exact Zt 6;refine aR (A5) Oz (lk [0,1,2,3,4,5] [0,1]))):Xo n True P:=zh
theorem JA (zh:Xo n True P:=by
 apply Zoz;rotate_left;simp
 first
 |(exact Zt 2;refine QE.round (i+1) oe oe (by exact lk [0,1] [] ⟨rfl,rfl,rfl,rfl,(congrArg some (congrArg (Value.int .i64) oe)),trivial⟩))
 |(exact Zt 3;refine QE.round (i:=(i,g,b)) ((i+1,(bq x.lay x.pkg true ((bs.getD i Brk.zero).a.toNat%30) g).f,b1)) oaV ou (lk [4,5,6,7,8,9,10,11,12,13,14,15,16,17,18,19] [0]))
 |(exact Zt 4;refine QE.round (i:=(k,O,c)) ((k+1,A51,cc51)) ou ou (by exact lk [0,1] [0] ⟨rfl,rfl,obl,rfl,trivial⟩ (hh:=⟨(congrArg some (ax e2.symm oau)),trivial⟩)))
 |(exact Zt 5;refine QE.round (i:=(t,A,c)) ((t+1,A55,cc55)) ou ou (by exact lk [0,1,2] [0] ⟨rfl,rfl,rfl,rfl,qK,trivial⟩ (hh:=⟨(congrArg some (ax hel.symm qg)),trivial⟩)))
 |(exact Zt 6;refine QE.round (j+1) (by exact ⟨by omega,bB hj2 hN⟩) oe (lk [0,1] []))
 |(exact Zt 7;refine QE.round (j+1) QD oe (lk [0,1,2,3,4,5,6,7] []))
 |(exact Zt 8;refine QE.round (j+1) QD oe (lk [0,1,2,3,4,5,6] []))
 |(exact Zt 11;refine QE.round (k+1) obt oe (lk [0] []))
 |(exact Zt 12;refine QE.round (t+1) (by exact (bB hno hx)) oe (lk [0,1,2] [0]))):Xo n True P:=zh
theorem Jz (zh:Xo n True P:=by
 apply Zoz;rotate_left;simp
 first
 |(exact Zt 3;exact Zm 0x984f284f)
 |(exact Zt 7;exact Zm 0x194f684f)
 |(exact Zt 8;exact Zm 0x784f294f)
 |(exact Zt 9;exact ⟨u,_,⟨wE (k:=ni k+wds.getD k 0) ho oy,_,cz l k,rfl⟩,rfl,rfl⟩)):Xo n True P:=zh
theorem Jy (zh:Xo n True P:=by
 apply Zoz;rotate_left;simp
 first
 |(exact Zt 1;refine aR ((A',c')) oX (by exact lk [0] [0,1,2] (hh:=⟨rfl,om,rfl,trivial⟩)))):Xo n True P:=zh
theorem Ny (zh:Xo n True P:=by
 apply Zod;simp
 first
 |(exact Zt 0;exact JZ)
 |(exact Zt 2;exact JY)
 |(exact Zt 3;exact JX)
 |(exact Zt 4;exact JW)
 |(exact Zt 5;exact JU)
 |(exact Zt 6;exact JT)
 |(exact Zt 7;exact JS)
 |(exact Zt 9;exact JQ)
 |(exact Zt 12;exact JP)
 |(exact Zt 13;exact JO)
 |(exact Zt 15;exact JN)):Xo n True P:=zh
theorem Nw (zh:Xo n True P:=by
 apply Zod;simp
 first
 |(exact Zt 3;exact JM)
 |(exact Zt 5;exact JL)
 |(exact Zt 6;exact JK)
 |(exact Zt 9;exact JJ)
 |(exact Zt 10;exact JI)):Xo n True P:=zh
theorem Nv (zh:Xo n True P:=by
 apply Zod;simp
 first
 |(exact Zt 0;exact JH)
 |(exact Zt 12;exact JG)
 |(exact Zt 13;exact JF)
 |(exact Zt 14;exact JE)):Xo n True P:=zh
theorem Nu (zh:Xo n True P:=by
 apply Zod;simp
 first
 |(exact Zt 5;exact JD)
 |(exact Zt 6;exact JB)
 |(exact Zt 7;exact JA)):Xo n True P:=zh
theorem Nt (zh:Xo n True P:=by
 apply Zod;simp
 first
 |(exact Zt 8;exact Jz)
 |(exact Zt 9;exact Jy)):Xo n True P:=zh
theorem Rx (zh:Xo n True P:=by
 apply Zod;simp
 first
 |(exact Zt 0;exact Ny)
 |(exact Zt 1;exact Nw)
 |(exact Zt 2;exact Nv)
 |(exact Zt 3;exact Nu)
 |(exact Zt 4;exact Nt)):Xo n True P:=zh
theorem Jw (zh:Xo n True P:=by
 apply Zod;simp
 first
 |(exact Zt 15;exact Rx)):Xo n True P:=zh
theorem Y {P Q:Prop}(s:Nat)(h:Zs s Q P:=by repeat (first|exact Zz|(apply Zn1;exact Zga)|(apply Zn2;exact Zha)|(apply Zn3;exact Hz)|(apply Zn4;exact AX)))(q:Q):P:=h.h q
theorem Zu {P Q R:Prop}(s:Nat)(h:Zs s (Q∧R) P:=by repeat (first|exact Zz|(apply Zn1;exact Zga)|(apply Zn2;exact Zha)|(apply Zn3;exact Hz)|(apply Zn4;exact AX)|(apply Zn2;exact Zhb)|(apply Zn3;exact NF)|(apply Zn4;exact Jx)))(q:Q)(r:R):P:=h.h ⟨q,r⟩
theorem Zm {P:Prop}(s:Nat)(h:Zs s True P:=by repeat (first|exact Zz|(apply Zn1;exact Zga)|(apply Zn2;exact Zha)|(apply Zn3;exact Hz)|(apply Zn4;exact AX)|(apply Zn1;exact Zgc)|(apply Zn2;exact Zhc)|(apply Zn3;exact Nz)|(apply Zn4;exact Jw))):P:=h.h trivial
end Go.Sl
