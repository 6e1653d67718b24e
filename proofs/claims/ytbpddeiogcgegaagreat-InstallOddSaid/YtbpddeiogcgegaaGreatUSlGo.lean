/-
  Lines of proofs, by numbers: what is done is the default value of a hypothesis.
-/
import Derived.KernelRfl
set_option maxRecDepth 8000
set_option linter.all false
namespace Go.Sl
inductive Tg:Nat→Prop
  |k (n:Nat):Tg n
theorem Zt (n:Nat):Tg n:=Tg.k n
structure Xo (n:Nat)(Q P:Prop):Prop where
  h:Q→P
structure Zs (s:Nat)(Q P:Prop):Prop where
  h:Q→P
structure Bx (Q:Prop):Prop where
  h:Q
theorem Zom {n:Nat}{Q P:Prop}(h:Bx Q→P)(_b:Tg (n%16)):Xo n Q P:=⟨fun q=>h ⟨q⟩⟩
theorem Zop {n:Nat}{Q1 Q2 P:Prop}(h:Bx Q1→Bx Q2→P)(_b:Tg (n%16)):Xo n (Q1∧Q2) P:=⟨fun q=>h ⟨q.1⟩ ⟨q.2⟩⟩
theorem Zoz {n:Nat}{P:Prop}(h:P)(_b:Tg (n%16)):Xo n True P:=⟨fun _=>h⟩
theorem Zod {n:Nat}{Q P:Prop}(_b:Tg (n%16))(h:Xo (n/16) Q P):Xo n Q P:=⟨h.h⟩
theorem oa {P:Prop}(zh:P:=by kernel_rfl):P:=zh
theorem ob {P:Prop}(zh:P:=by decide):P:=zh
theorem oe {P:Prop}(zh:P:=by omega):P:=zh
theorem og {P:Prop}(zh:P:=by exact aB (rs:=[0]) (hs:=[0,1,2]) ⟨rfl,rfl,rfl,rfl,rfl,trivial⟩ ⟨rfl,trivial⟩ ⟨rfl,om,rfl,trivial⟩ ob):P:=zh
theorem oh {P:Prop}(zh:P:=by exact aB (rs:=[1]) (hs:=[0]) ⟨rfl,rfl,rfl,trivial⟩ ⟨rfl,trivial⟩ ⟨rfl,trivial⟩ ob):P:=zh
theorem om {P:Prop}(zh:P:=by rw [← zl (l:=l) (k:=k) oe,← j7];rfl):P:=zh
theorem oo {P:Prop}(zh:P:=by rw [List.length_drop];omega):P:=zh
theorem ot {P:Prop}(zh:P:=by dsimp only;omega):P:=zh
theorem ou {P:Prop}(zh:P:=by exact aG oM):P:=zh
theorem ov {P:Prop}(zh:P:=by rw [bw];omega):P:=zh
theorem ow {P:Prop}(zh:P:=by rw [bB oC,b6];omega):P:=zh
theorem ox {P:Prop}(zh:P:=by rw [← jK hk];exact hk1):P:=zh
theorem oy {P:Prop}(zh:P:=by rw [bw,cz];decide):P:=zh
theorem oA {P:Prop}(zh:P:=by simp only [Nat.zero_add];rfl):P:=zh
theorem oB {P:Prop}(zh:P:=by exact aB (rs:=[0,1]) (hs:=[]) ⟨rfl,rfl,rfl,trivial⟩ ⟨rfl,rfl,trivial⟩ trivial ob):P:=zh
theorem oC {P:Prop}(zh:P:=by rw [b6];exact hh):P:=zh
theorem oD {P:Prop}(zh:P:=by exact aB (rs:=[0,1,2,3,4]) (hs:=[0,3,1,2]) ⟨rfl,rfl,rfl,rfl,trivial⟩ ⟨rfl,rfl,rfl,rfl,rfl,trivial⟩ ⟨rfl,oA,oA,oA,trivial⟩ ob):P:=zh
theorem oE {P:Prop}(zh:P:=by exact aB (rs:=[0,1,2,3]) (hs:=[0,1]) ⟨rfl,rfl,rfl,rfl,rfl,rfl,rfl,rfl,rfl,trivial⟩ ⟨rfl,rfl,rfl,rfl,trivial⟩ ⟨(congrArg some OT),(congrArg some OT),trivial⟩ ob):P:=zh
theorem oF {P:Prop}(zh:P:=by exact aB (rs:=[0,1]) (hs:=[]) ⟨rfl,rfl,rfl,rfl,trivial⟩ ⟨rfl,rfl,trivial⟩ trivial ob):P:=zh
theorem oG {P:Prop}(zh:P:=by rw [aJ];omega):P:=zh
theorem oH {P:Prop}(zh:P:=by show _*1≤_;omega):P:=zh
theorem oI {P:Prop}(zh:P:=by exact aB (rs:=[0]) (hs:=[0,1,2]) ⟨rfl,rfl,rfl,rfl,rfl,trivial⟩ ⟨rfl,trivial⟩ ⟨rfl,(congrArg some (ay rfl OP)),(congrArg some (ay OP QC)),trivial⟩ ob):P:=zh
theorem oJ {P:Prop}(zh:P:=by exact aB (rs:=[0,1,2,3,4,5,6,7,8,9,10,11,12]) (hs:=[0,1,2,3,4,5]) ⟨rfl,rfl,rfl,rfl,rfl,rfl,rfl,rfl,rfl,trivial⟩ ⟨rfl,rfl,rfl,rfl,rfl,rfl,rfl,rfl,rfl,rfl,rfl,rfl,rfl,trivial⟩ ⟨rfl,(congrArg some (ay x.dat_len.symm hrows)),(congrArg some (by rw [hdat];rfl)),(congrArg some (ay List.length_replicate.symm rfl)),(congrArg some (ay List.length_replicate.symm rfl)),(congrArg some (ay rfl hcel)),trivial⟩ ob):P:=zh
theorem oK {P:Prop}(zh:P:=by exact aB (rs:=[0,1,2,3,4,5,6,7,8,9,10,11,12,13]) (hs:=[1,2]) ⟨rfl,rfl,rfl,rfl,rfl,rfl,rfl,trivial⟩ ⟨rfl,rfl,rfl,rfl,rfl,rfl,rfl,rfl,rfl,rfl,rfl,rfl,rfl,rfl,trivial⟩ ⟨rfl,rfl,trivial⟩ ob):P:=zh
theorem oL {P:Prop}(zh:P:=by exact aB (rs:=[0,1,2,3,4,5,6,7,8,9]) (hs:=[0]) ⟨rfl,rfl,rfl,rfl,rfl,rfl,trivial⟩ ⟨rfl,rfl,rfl,rfl,rfl,rfl,rfl,rfl,rfl,rfl,trivial⟩ ⟨rfl,trivial⟩ ob):P:=zh
theorem oM {P:Prop}(zh:P:=by rw [cz];omega):P:=zh
theorem oN {P:Prop}(zh:P:=by rw [List.length_take];omega):P:=zh
theorem oO {P:Prop}(zh:P:=by simp):P:=zh
theorem oP {P:Prop}(zh:P:=by rfl):P:=zh
theorem oQ {P:Prop}(zh:P:=by simpa [Nat.blt_eq] using hd):P:=zh
theorem oR {P:Prop}(zh:P:=by exact aB (rs:=[0,1,2,3,4]) (hs:=[0,2,1,3]) ⟨rfl,rfl,rfl,rfl,trivial⟩ ⟨rfl,rfl,rfl,rfl,rfl,trivial⟩ ⟨rfl,oA,oA,oA,trivial⟩ ob):P:=zh
theorem oS {P:Prop}(zh:P:=by exact aB (rs:=[0,1,2,3,4]) (hs:=[0,3,2,1]) ⟨rfl,rfl,rfl,rfl,trivial⟩ ⟨rfl,rfl,rfl,rfl,rfl,trivial⟩ ⟨rfl,oA,oA,oA,trivial⟩ ob):P:=zh
theorem oT {P:Prop}(zh:P:=by exact ⟨hk1,hcc'⟩):P:=zh
theorem oU {P:Prop}(zh:P:=by show _*8≤_;omega):P:=zh
theorem oV {P:Prop}(zh:P:=by exact aB (rs:=[0,1,2,3,4,5,6,7]) (hs:=[5,6,1,2,3,4,0]) ⟨rfl,rfl,rfl,rfl,rfl,rfl,trivial⟩ ⟨rfl,rfl,rfl,rfl,rfl,rfl,rfl,rfl,trivial⟩ ⟨rfl,rfl,rfl,rfl,rfl,rfl,rfl,trivial⟩ ob):P:=zh
theorem oW {P:Prop}(zh:P:=by exact aB (rs:=[0,1,2,3,4,5]) (hs:=[0,1]) ⟨rfl,rfl,rfl,rfl,rfl,rfl,trivial⟩ ⟨rfl,rfl,rfl,rfl,rfl,rfl,trivial⟩ ⟨rfl,rfl,trivial⟩ ob):P:=zh
theorem oX {P:Prop}(zh:P:=by exact Nat.zero_lt_succ _):P:=zh
theorem oY {P:Prop}(zh:P:=by rw [bw];exact (Nat.mul_one _).symm):P:=zh
theorem oZ {P:Prop}(zh:P:=by rw [b6];omega):P:=zh
theorem Oa {P:Prop}(zh:P:=by exact aB (rs:=[0,1,2,3]) (hs:=[0,1,2]) ⟨rfl,rfl,rfl,rfl,rfl,trivial⟩ ⟨rfl,rfl,rfl,rfl,trivial⟩ ⟨rfl,rfl,rfl,trivial⟩ ob):P:=zh
theorem Ob {P:Prop}(zh:P:=by exact aB (rs:=[1,2,3,4,11,12,13,14,15,16,6,0]) (hs:=[0]) ⟨rfl,rfl,rfl,rfl,trivial⟩ ⟨rfl,rfl,rfl,rfl,rfl,rfl,rfl,rfl,rfl,rfl,rfl,rfl,trivial⟩ ⟨rfl,trivial⟩ ob):P:=zh
theorem Oc {P:Prop}(zh:P:=by exact aB (rs:=[2,3,4,5,6,7,8,9]) (hs:=[0,1]) ⟨rfl,rfl,rfl,rfl,rfl,rfl,O6,trivial⟩ ⟨rfl,rfl,rfl,rfl,rfl,rfl,rfl,rfl,trivial⟩ ⟨rfl,rfl,trivial⟩ ob):P:=zh
theorem Od {P:Prop}(zh:P:=by exact aB (rs:=[0,1,2,3,4,5,6,7,8]) (hs:=[0,1,2]) ⟨rfl,rfl,rfl,rfl,rfl,rfl,trivial⟩ ⟨rfl,rfl,rfl,rfl,rfl,rfl,rfl,rfl,rfl,trivial⟩ ⟨rfl,rfl,rfl,trivial⟩ ob):P:=zh
theorem Oe {P:Prop}(zh:P:=by rw [pH];exact (Nat.mul_one _).symm):P:=zh
theorem Of {P:Prop}(zh:P:=by exact aB (rs:=[0,1]) (hs:=[0]) ⟨rfl,rfl,rfl,rfl,trivial⟩ ⟨rfl,rfl,trivial⟩ ⟨rfl,trivial⟩ ob):P:=zh
theorem Og {P:Prop}(zh:P:=by exact aB (rs:=[0]) (hs:=[]) ⟨rfl,rfl,rfl,trivial⟩ ⟨rfl,trivial⟩ trivial ob):P:=zh
theorem Oh {P:Prop}(zh:P:=by show _=([.int .i64 (x.S:Int),.slice b.D x.dat.length b.cD,.slice b.W (List.replicate (x.n+x.more) (0:Int)).length b.cW,.int .i64 100000,.slice b.E (List.replicate (x.n+x.more) false).length b.cE]:List Value);rw [x.dat_len,List.length_replicate,List.length_replicate]):P:=zh
theorem Oi {P:Prop}(zh:P:=by exact aB (rs:=[0,1,2,3,4,5,6,7]) (hs:=[]) ⟨rfl,rfl,rfl,rfl,rfl,rfl,rfl,rfl,rfl,rfl,trivial⟩ ⟨rfl,rfl,rfl,rfl,rfl,rfl,rfl,rfl,trivial⟩ trivial ob):P:=zh
theorem Oj {P:Prop}(zh:P:=by exact aB (rs:=[0]) (hs:=[0,1,2,3]) ⟨rfl,rfl,rfl,rfl,rfl,rfl,trivial⟩ ⟨rfl,trivial⟩ ⟨rfl,rfl,rfl,(congrArg some (ay rfl (by rw [hbk];rfl))),trivial⟩ ob):P:=zh
theorem Ol {P:Prop}(zh:P:=by exact aB (rs:=[0,1,2,3,4]) (hs:=[]) ⟨rfl,rfl,rfl,rfl,rfl,trivial⟩ ⟨rfl,rfl,rfl,rfl,rfl,trivial⟩ trivial ob):P:=zh
theorem Om {P:Prop}(zh:P:=by exact ⟨h9,h13⟩):P:=zh
theorem Oo {P:Prop}(zh:P:=by exact aB (rs:=[0,1,2,3]) (hs:=[]) ⟨rfl,rfl,rfl,rfl,rfl,trivial⟩ ⟨rfl,rfl,rfl,rfl,trivial⟩ trivial ob):P:=zh
theorem Oq {P:Prop}(zh:P:=by exact aB (rs:=[0,1,2]) (hs:=[0]) ⟨rfl,rfl,rfl,rfl,rfl,trivial⟩ ⟨rfl,rfl,rfl,trivial⟩ ⟨rfl,trivial⟩ ob):P:=zh
theorem Ot {P:Prop}(zh:P:=by exact aB (rs:=[0,1,2,3,4]) (hs:=[0,1,2,3]) ⟨rfl,rfl,rfl,rfl,trivial⟩ ⟨rfl,rfl,rfl,rfl,rfl,trivial⟩ ⟨rfl,oA,oA,oA,trivial⟩ ob):P:=zh
theorem Ou {P:Prop}(zh:P:=by exact aB (rs:=[0,1,2,3,4]) (hs:=[]) ⟨rfl,rfl,rfl,trivial⟩ ⟨rfl,rfl,rfl,rfl,rfl,trivial⟩ trivial ob):P:=zh
theorem Ov {P:Prop}(zh:P:=by exact aB (rs:=[0,1]) (hs:=[0]) ⟨rfl,rfl,rfl,rfl,rfl,trivial⟩ ⟨rfl,rfl,trivial⟩ ⟨rfl,trivial⟩ ob):P:=zh
theorem Ow {P:Prop}(zh:P:=by exact aB (rs:=[0,1,2,3,7,6]) (hs:=[0,1]) ⟨rfl,rfl,rfl,rfl,rfl,trivial⟩ ⟨rfl,rfl,rfl,rfl,rfl,rfl,trivial⟩ ⟨rfl,rfl,trivial⟩ ob):P:=zh
theorem Ox {P:Prop}(zh:P:=by exact aB (rs:=[0,1,2,3,4,5,6,7,8,9]) (hs:=[0,1]) ⟨rfl,rfl,rfl,rfl,rfl,rfl,rfl,rfl,rfl,rfl,rfl,rfl,rfl,rfl,trivial⟩ ⟨rfl,rfl,rfl,rfl,rfl,rfl,rfl,rfl,rfl,rfl,trivial⟩ ⟨rfl,rfl,trivial⟩ ob):P:=zh
theorem Oy {P:Prop}(zh:P:=by exact aB (rs:=[0,1,2]) (hs:=[0]) ⟨rfl,rfl,rfl,rfl,qF,trivial⟩ ⟨rfl,rfl,rfl,trivial⟩ ⟨(congrArg some (ay hel.symm qd)),trivial⟩ ob):P:=zh
theorem Oz {P:Prop}(zh:P:=by exact aB (rs:=[0,1,2,3,4,5,6]) (hs:=[]) ⟨rfl,rfl,rfl,rfl,rfl,trivial⟩ ⟨rfl,rfl,rfl,rfl,rfl,rfl,rfl,trivial⟩ trivial ob):P:=zh
theorem OB {P:Prop}(zh:P:=by exact aB (rs:=[0,1]) (hs:=[0]) ⟨rfl,rfl,obb,rfl,trivial⟩ ⟨rfl,rfl,trivial⟩ ⟨(congrArg some (ay e2.symm oao)),trivial⟩ ob):P:=zh
theorem OC {P:Prop}(zh:P:=by exact aB (rs:=[0]) (hs:=[0]) ⟨rfl,rfl,rfl,rfl,rfl,trivial⟩ ⟨rfl,trivial⟩ ⟨rfl,trivial⟩ ob):P:=zh
theorem OD {P:Prop}(zh:P:=by exact aB (rs:=[0,1]) (hs:=[]) ⟨rfl,rfl,rfl,rfl,rfl,trivial⟩ ⟨rfl,rfl,trivial⟩ trivial ob):P:=zh
theorem OE {P:Prop}(zh:P:=by exact aB (rs:=[0]) (hs:=[0,1,2,3,4]) ⟨rfl,rfl,rfl,rfl,rfl,rfl,trivial⟩ ⟨rfl,trivial⟩ ⟨rfl,rfl,rfl,rfl,rfl,trivial⟩ ob):P:=zh
theorem OF {P:Prop}(zh:P:=by exact aB (rs:=[0,1,2,3,4,5,6,7,8,9,10,11]) (hs:=[0,1,2]) ⟨rfl,rfl,rfl,rfl,rfl,rfl,trivial⟩ ⟨rfl,rfl,rfl,rfl,rfl,rfl,rfl,rfl,rfl,rfl,rfl,rfl,trivial⟩ ⟨rfl,rfl,rfl,trivial⟩ ob):P:=zh
theorem OG {P:Prop}(zh:P:=by exact aB (rs:=[0,1,2,3]) (hs:=[0,1,2]) ⟨rfl,rfl,rfl,rfl,trivial⟩ ⟨rfl,rfl,rfl,rfl,trivial⟩ ⟨rfl,rfl,rfl,trivial⟩ ob):P:=zh
theorem OH {P:Prop}(zh:P:=by dsimp only;rw [he,List.length_append];rfl):P:=zh
theorem OI {P:Prop}(zh:P:=by exact aB (rs:=[0,1,2,3]) (hs:=[0,2]) ⟨rfl,rfl,rfl,rfl,rfl,trivial⟩ ⟨rfl,rfl,rfl,rfl,trivial⟩ ⟨rfl,rfl,trivial⟩ ob):P:=zh
theorem OJ {P:Prop}(zh:P:=by exact aB (rs:=[0,1,2,3,4,5]) (hs:=[]) ⟨rfl,rfl,rfl,rfl,trivial⟩ ⟨rfl,rfl,rfl,rfl,rfl,rfl,trivial⟩ trivial ob):P:=zh
theorem OK {P:Prop}(zh:P:=by rw [Int.natCast_emod];rfl):P:=zh
theorem OL {P:Prop}(zh:P:=by rw [show be2 (b.drop 1)-(k+1)+1=be2 (b.drop 1)-k from by omega];exact hh):P:=zh
theorem OM {P:Prop}(zh:P:=by rw [hlb,show e.toNat-(e.toNat-(be2 ((aI f us).drop (e.toNat-2))))=(be2 ((aI f us).drop (e.toNat-2))) from by omega];rfl):P:=zh
theorem ON {P:Prop}(zh:P:=by exact aB (rs:=[0,1,2,3,4,5,6,7,8,9]) (hs:=[0]) ⟨rfl,rfl,rfl,rfl,rfl,rfl,rfl,rfl,trivial⟩ ⟨rfl,rfl,rfl,rfl,rfl,rfl,rfl,rfl,rfl,rfl,trivial⟩ ⟨rfl,trivial⟩ ob):P:=zh
theorem OO {P:Prop}(zh:P:=by unfold ndU;rw [show (((ndT old (bf old (ah ops)) S seq):Nat):Int)+(S:Int)-1=(((ndT old (bf old (ah ops)) S seq)+S-1:Nat):Int) by omega];exact (Int.natCast_ediv _ _).symm):P:=zh
theorem OP {P:Prop}(zh:P:=by dsimp only;rw [hgo];dsimp only;rw [List.length_append];rfl):P:=zh
theorem OQ {P:Prop}(zh:P:=by show -1000000≤(x.n:Int)∧(x.n:Int)≤1000000;have:=x.n_le;omega):P:=zh
theorem OR {P:Prop}(zh:P:=by exact aB (rs:=[0,1,2,3,4,5,6,7,8,9]) (hs:=[1,2]) ⟨rfl,rfl,rfl,trivial⟩ ⟨rfl,rfl,rfl,rfl,rfl,rfl,rfl,rfl,rfl,rfl,trivial⟩ ⟨rfl,rfl,trivial⟩ ob):P:=zh
theorem OS {P:Prop}(zh:P:=by exact trivial):P:=zh
theorem OT {P:Prop}(zh:P:=by dsimp only;rw [he]):P:=zh
theorem OU {P:Prop}(zh:P:=by rw [List.length_take,List.length_drop,Nat.min_eq_left oe];rfl):P:=zh
theorem OV {P:Prop}(zh:P:=by unfold cF;rw [if_neg oe,hinv,hno];rfl):P:=zh
theorem OW {P:Prop}(zh:P:=by exact aB (rs:=[0]) (hs:=[0]) ⟨rfl,rfl,rfl,rfl,rfl,rfl,trivial⟩ ⟨rfl,trivial⟩ ⟨rfl,trivial⟩ ob):P:=zh
theorem OX {P:Prop}(zh:P:=by exact aB (rs:=[0,1,2,3,4,5]) (hs:=[0,1]) ⟨rfl,rfl,rfl,rfl,rfl,rfl,rfl,rfl,trivial⟩ ⟨rfl,rfl,rfl,rfl,rfl,rfl,trivial⟩ ⟨rfl,rfl,trivial⟩ ob):P:=zh
theorem OY {P:Prop}(zh:P:=by rw [hcl,show too at_.toNat f.size b.length s-at_.toNat-(frm at_.toNat f.size s-at_.toNat)=too at_.toNat f.size b.length s-frm at_.toNat f.size s from by omega];rfl):P:=zh
theorem O0 {P:Prop}(zh:P:=by rw [bB qp,bS];omega):P:=zh
theorem O3 {P:Prop}(zh:P:=by exact aB (rs:=[0,1,2,3,4,5,6,7]) (hs:=[]) ⟨rfl,rfl,rfl,rfl,rfl,rfl,trivial⟩ ⟨rfl,rfl,rfl,rfl,rfl,rfl,rfl,rfl,trivial⟩ trivial ob):P:=zh
theorem O4 {P:Prop}(zh:P:=by exact aB (rs:=[0,1,2,3,4,5,6]) (hs:=[0]) ⟨rfl,rfl,rfl,rfl,rfl,rfl,trivial⟩ ⟨rfl,rfl,rfl,rfl,rfl,rfl,rfl,trivial⟩ ⟨rfl,trivial⟩ ob):P:=zh
theorem O5 {P:Prop}(zh:P:=by exact aB (rs:=[0,1]) (hs:=[]) ⟨rfl,rfl,rfl,rfl,(congrArg some (congrArg (Value.int .i64) oe)),trivial⟩ ⟨rfl,rfl,trivial⟩ trivial ob):P:=zh
theorem O6 {P:Prop}(zh:P:=by dsimp only;rw [(eu (n:=b.length) hps).1];exact congrArg some (congrArg (Value.int .i64) oe)):P:=zh
theorem O7 {P:Prop}(zh:P:=by simp only [if_true];split<;>omega):P:=zh
theorem O8 {P:Prop}(zh:P:=by simp;omega):P:=zh
theorem O9 {P:Prop}(zh:P:=by exact aB (rs:=[0]) (hs:=[]) ⟨rfl,rfl,rfl,rfl,rfl,trivial⟩ ⟨rfl,trivial⟩ trivial ob):P:=zh
theorem qa {P:Prop}(zh:P:=by exact aB (rs:=[0,1,2,3,4,5]) (hs:=[0,1]) ⟨rfl,rfl,rfl,rfl,trivial⟩ ⟨rfl,rfl,rfl,rfl,rfl,rfl,trivial⟩ ⟨rfl,rfl,trivial⟩ ob):P:=zh
theorem qb {P:Prop}(zh:P:=by exact aB (rs:=[0]) (hs:=[0]) ⟨rfl,rfl,rfl,trivial⟩ ⟨rfl,trivial⟩ ⟨rfl,trivial⟩ ob):P:=zh
theorem qd {P:Prop}(zh:P:=by dsimp only;rw [he,Ez,← cK];rfl):P:=zh
theorem qe {P:Prop}(zh:P:=by exact aB (rs:=[0,1,2,3,4,5,6]) (hs:=[]) ⟨rfl,rfl,rfl,rfl,trivial⟩ ⟨rfl,rfl,rfl,rfl,rfl,rfl,rfl,trivial⟩ trivial ob):P:=zh
theorem qf {P:Prop}(zh:P:=by rw [he,List.length_append];rfl):P:=zh
theorem qg {P:Prop}(zh:P:=by exact congrArg some (ay qw oaM)):P:=zh
theorem qh {P:Prop}(zh:P:=by exact aB (rs:=[0,1,2]) (hs:=[0]) ⟨rfl,rfl,rfl,rfl,rfl,rfl,rfl,trivial⟩ ⟨rfl,rfl,rfl,trivial⟩ ⟨rfl,trivial⟩ ob):P:=zh
theorem qi {P:Prop}(zh:P:=by exact aB (rs:=[0,1]) (hs:=[0,1]) ⟨rfl,rfl,rfl,rfl,rfl,rfl,trivial⟩ ⟨rfl,rfl,trivial⟩ ⟨rfl,rfl,trivial⟩ ob):P:=zh
theorem qj {P:Prop}(zh:P:=by exact aB (rs:=[0,1]) (hs:=[0,1,2]) ⟨rfl,rfl,rfl,rfl,trivial⟩ ⟨rfl,rfl,trivial⟩ ⟨rfl,rfl,rfl,trivial⟩ ob):P:=zh
theorem qk {P:Prop}(zh:P:=by exact aB (rs:=[0,1,2,3,4]) (hs:=[]) ⟨rfl,rfl,rfl,rfl,trivial⟩ ⟨rfl,rfl,rfl,rfl,rfl,trivial⟩ trivial ob):P:=zh
theorem qm {P:Prop}(zh:P:=by exact aB (rs:=[0]) (hs:=[0,1,2]) ⟨rfl,rfl,rfl,rfl,rfl,trivial⟩ ⟨rfl,trivial⟩ ⟨rfl,rfl,rfl,trivial⟩ ob):P:=zh
theorem qo {P:Prop}(zh:P:=by exact aB (rs:=[0,1,2,3]) (hs:=[1]) ⟨rfl,rfl,rfl,trivial⟩ ⟨rfl,rfl,rfl,rfl,trivial⟩ ⟨rfl,trivial⟩ ob):P:=zh
theorem qp {P:Prop}(zh:P:=by rw [bS];exact hh):P:=zh
theorem qq {P:Prop}(zh:P:=by rw [show (aV f ((((aW (aI f y.us) (f.size:Int) p3).b.getD 0 0).toNat:Nat):Int)).length=f.size from hrw];omega):P:=zh
theorem qt {P:Prop}(zh:P:=by exact aB (rs:=[0,1,2]) (hs:=[0]) ⟨rfl,rfl,rfl,rfl,trivial⟩ ⟨rfl,rfl,rfl,trivial⟩ ⟨rfl,trivial⟩ ob):P:=zh
theorem qu {P:Prop}(zh:P:=by unfold dH;omega):P:=zh
theorem qw {P:Prop}(zh:P:=by dsimp only;rw [hst,List.length_append (bs:=[_,_])];rfl):P:=zh
theorem qx {P:Prop}(zh:P:=by rw [List.length_take,List.length_drop,hl];rfl):P:=zh
theorem qz {P:Prop}(zh:P:=by exact aB (rs:=[0]) (hs:=[1]) ⟨rfl,rfl,trivial⟩ ⟨rfl,trivial⟩ ⟨(by rw [← b8];rfl),trivial⟩ ob):P:=zh
theorem qA {P:Prop}(zh:P:=by rw [aJ];exact (Nat.mul_one _).symm):P:=zh
theorem qB {P:Prop}(zh:P:=by exact aB (rs:=[0]) (hs:=[0,1]) ⟨rfl,rfl,rfl,rfl,trivial⟩ ⟨rfl,trivial⟩ ⟨rfl,rfl,trivial⟩ ob):P:=zh
theorem qC {P:Prop}(zh:P:=by exact ⟨by omega,bx hno hx⟩):P:=zh
theorem qD {P:Prop}(zh:P:=by rw [bB QF,b6];omega):P:=zh
theorem qE {P:Prop}(zh:P:=by rw [bB Q8,bS,cu];omega):P:=zh
theorem qF {P:Prop}(zh:P:=by dsimp only;rw [hel];rfl):P:=zh
theorem qG {P:Prop}(zh:P:=by dsimp only;rw [e1];simp only [List.length_append];rfl):P:=zh
theorem qH {P:Prop}(zh:P:=by exact aB (rs:=[0,1]) (hs:=[0]) ⟨rfl,rfl,rfl,trivial⟩ ⟨rfl,rfl,trivial⟩ ⟨rfl,trivial⟩ ob):P:=zh
theorem qI {P:Prop}(zh:P:=by rw [bB Qc,bS,j4];omega):P:=zh
theorem qJ {P:Prop}(zh:P:=by exact aB (rs:=[0]) (hs:=[0]) ⟨rfl,rfl,rfl,rfl,trivial⟩ ⟨rfl,trivial⟩ ⟨rfl,trivial⟩ ob):P:=zh
theorem qK {P:Prop}(zh:P:=by rw [pH];omega):P:=zh
theorem qL {P:Prop}(zh:P:=by rw [Int.toNat_natCast];exact gp (fun h=>FI h hx oe)):P:=zh
theorem qM {P:Prop}(zh:P:=by unfold cF;rw [if_pos oe]):P:=zh
theorem qN {P:Prop}(zh:P:=by exact congrArg some (congrArg (Value.int .i64) ot)):P:=zh
theorem qO {P:Prop}(zh:P:=by unfold eqGuard;rfl):P:=zh
theorem qP {P:Prop}(zh:P:=by simpa using h):P:=zh
theorem qQ {P:Prop}(zh:P:=by unfold dS aV;rw [hg72,Bool.true_and,← hc77,List.length_take,hwl,Nat.min_eq_left oe]):P:=zh
theorem qR {P:Prop}(zh:P:=by rw [Int.toNat_natCast];omega):P:=zh
theorem qS {P:Prop}(zh:P:=by unfold chY;rw [if_neg oe];exact decide_eq_true oe):P:=zh
theorem qT {P:Prop}(zh:P:=by exact aB (rs:=[0]) (hs:=[]) ⟨rfl,rfl,rfl,rfl,trivial⟩ ⟨rfl,trivial⟩ trivial ob):P:=zh
theorem qU {P:Prop}(zh:P:=by rw [bS];omega):P:=zh
theorem qV {P:Prop}(zh:P:=by exact aB (rs:=[0,1]) (hs:=[]) ⟨rfl,rfl,trivial⟩ ⟨rfl,rfl,trivial⟩ trivial ob):P:=zh
theorem qW {P:Prop}(zh:P:=by rw [List.length_take,Nat.min_eq_left oe]):P:=zh
theorem qX {P:Prop}(zh:P:=by rw [aJ,aJ,List.length_append,List.length_replicate,List.length_replicate,hyl];omega):P:=zh
theorem qY {P:Prop}(zh:P:=by simp [pev,hx,hy,GZ]):P:=zh
theorem qZ {P:Prop}(zh:P:=by rw [List.length_take,List.length_drop,List.length_drop];omega):P:=zh
theorem q7 {P:Prop}(zh:P:=by exact ⟨by dsimp only;omega,by dsimp only;omega,by dsimp only;rw [List.length_drop];omega⟩):P:=zh
theorem q8 {P:Prop}(zh:P:=by exact congrArg some (congrArg (Value.int .i64) oaT)):P:=zh
theorem q9 {P:Prop}(zh:P:=by rw [show (be2 (rec.drop 1))-(k+1)+1=(be2 (rec.drop 1))-k from by omega];exact hh):P:=zh
theorem Qa {P:Prop}(zh:P:=by unfold maxLen;omega):P:=zh
theorem Qb {P:Prop}(zh:P:=by rw [aJ,List.length_drop];omega):P:=zh
theorem Qc {P:Prop}(zh:P:=by rw [bS,j4];exact hss):P:=zh
theorem Qd {P:Prop}(zh:P:=by unfold eA;rw [if_pos oe]):P:=zh
theorem Qe {P:Prop}(zh:P:=by rintro ⟨q|q,_⟩;exact hg26 q;exact hg30 q):P:=zh
theorem Qg {P:Prop}(zh:P:=by rw [hf.eval hx,ag,Option.map_some,adz]):P:=zh
theorem Qh {P:Prop}(zh:P:=by rw [aJ,List.length_take,List.length_drop];show _=_*1;rw [Nat.mul_one];omega):P:=zh
theorem Qi {P:Prop}(zh:P:=by rw [bB QR,bS];omega):P:=zh
theorem Qj {P:Prop}(zh:P:=by simp only [Bool.false_eq_true,if_false];split<;>omega):P:=zh
theorem Qk {P:Prop}(zh:P:=by simp [zeroValue,typeInfo,hj,h3]):P:=zh
theorem Ql {P:Prop}(zh:P:=by dsimp only;rw [he,← b8];rfl):P:=zh
theorem Qm {P:Prop}(zh:P:=by dsimp only;rw [he];rfl):P:=zh
theorem Qo {P:Prop}(zh:P:=by unfold G1;rw [Int.toNat_natCast,Int.toNat_natCast,Int.toNat_natCast,hst];rfl):P:=zh
theorem Qp {P:Prop}(zh:P:=by exact ⟨by dsimp only;omega,hhs⟩):P:=zh
theorem Qq {P:Prop}(zh:P:=by rw [bw,bm];omega):P:=zh
theorem Qr {P:Prop}(zh:P:=by rw [List.length_take,hwl,Nat.min_eq_left oe]):P:=zh
theorem Qs {P:Prop}(zh:P:=by rw [List.length_map];omega):P:=zh
theorem Qt {P:Prop}(zh:P:=by apply Array.ext';simpa using e1):P:=zh
theorem Qu {P:Prop}(zh:P:=by rw [h];exact Bool.false_ne_true):P:=zh
theorem Qv {P:Prop}(zh:P:=by unfold fc;omega):P:=zh
theorem Qw {P:Prop}(zh:P:=by unfold syS;rw [if_pos hE]):P:=zh
theorem Qy {P:Prop}(zh:P:=by exact ⟨by dsimp only;omega,by dsimp only;rw [List.length_append,hhs];rfl⟩):P:=zh
theorem Qz {P:Prop}(zh:P:=by exact ⟨by omega,Bu hallj htj hx⟩):P:=zh
theorem QB {P:Prop}(zh:P:=by rw [Nat.mul_one,gQ,bu];rfl):P:=zh
theorem QC {P:Prop}(zh:P:=by dsimp only;rw [hgo];dsimp only;rw [lR];rfl):P:=zh
theorem QD {P:Prop}(zh:P:=by show _*24≤_;omega):P:=zh
theorem QF {P:Prop}(zh:P:=by rw [b6];exact hdh):P:=zh
theorem QG {P:Prop}(zh:P:=by rw [h2];decide):P:=zh
theorem QH {P:Prop}(zh:P:=by show (if _<_ then _ else _)=_;split<;>omega):P:=zh
theorem QI {P:Prop}(zh:P:=by rw [List.length_drop,bw];omega):P:=zh
theorem QJ {P:Prop}(zh:P:=by exact ⟨by omega,.inr obB⟩):P:=zh
theorem QK {P:Prop}(zh:P:=by dsimp only;rw [jt oe,Nat.mul_add,← List.drop_drop];rfl):P:=zh
theorem QL {P:Prop}(zh:P:=by simp [List.getD_eq_getElem?_getD,h]):P:=zh
theorem QN {P:Prop}(zh:P:=by rw [a7,aZ oe,aJ,lL oe];omega):P:=zh
theorem QP {P:Prop}(zh:P:=by rw [m1];omega):P:=zh
theorem QQ {P:Prop}(zh:P:=by dsimp only;rw [he,← cK];rfl):P:=zh
theorem QR {P:Prop}(zh:P:=by rw [bS];exact hmhs):P:=zh
theorem QS {P:Prop}(zh:P:=by rw [List.length_drop,List.length_drop];omega):P:=zh
theorem QT {P:Prop}(zh:P:=by unfold chY;rw [if_neg oe];exact decide_eq_false oe):P:=zh
theorem QU {P:Prop}(zh:P:=by exact ⟨by omega,bx hall hx⟩):P:=zh
theorem QV {P:Prop}(zh:P:=by rw [Nat.mul_one,gQ,bu]):P:=zh
theorem QW {P:Prop}(zh:P:=by rw [aJ,List.length_replicate]):P:=zh
theorem QX {P:Prop}(zh:P:=by dsimp only;rw [show ke _ 0=[] from rfl,List.append_nil];rfl):P:=zh
theorem QY {P:Prop}(zh:P:=by dsimp only;rw [e1,List.length_append];rfl):P:=zh
theorem QZ {P:Prop}(zh:P:=by rw [List.length_replicate];omega):P:=zh
theorem Q1 {P:Prop}(zh:P:=by show _*56≤_;omega):P:=zh
theorem Q2 {P:Prop}(zh:P:=by rw [hdesc,hk,if_neg (by simp [vJ])];exact aG oe):P:=zh
theorem Q3 {P:Prop}(zh:P:=by rw [List.length_drop];rfl):P:=zh
theorem Q4 {P:Prop}(zh:P:=by rw [aJ,dA];rfl):P:=zh
theorem Q5 {P:Prop}(zh:P:=by simpa using hc19):P:=zh
theorem Q6 {P:Prop}(zh:P:=by simpa using hc16):P:=zh
theorem Q7 {P:Prop}(zh:P:=by unfold ptF ptE;rw [hB,if_neg oe]):P:=zh
theorem Q8 {P:Prop}(zh:P:=by rw [bS,cu];exact hhs):P:=zh
theorem Q9 {P:Prop}(zh:P:=by dsimp only;rw [show ke _ 0=[] from rfl,List.append_nil]):P:=zh
theorem oaa {P:Prop}(zh:P:=by rw [aF,if_neg (fun e=>hc23 (dJ.2 e)),mX hst]):P:=zh
theorem oab {P:Prop}(zh:P:=by show some (Value.int IntKind.i64 ((w:Int)-1))=_;simp):P:=zh
theorem oac {P:Prop}(zh:P:=by dsimp only;rw [e1,List.length_append]):P:=zh
theorem oad {P:Prop}(zh:P:=by rw [iL oe];exact decide_eq_false oe):P:=zh
theorem oae {P:Prop}(zh:P:=by rw [← Int.natCast_mul];omega):P:=zh
theorem oaf {P:Prop}(zh:P:=by unfold il;omega):P:=zh
theorem oag {P:Prop}(zh:P:=by rw [IntKind.wrap_i64];omega):P:=zh
theorem oah {P:Prop}(zh:P:=by rw [m2];omega):P:=zh
theorem oai {P:Prop}(zh:P:=by simpa using hc22):P:=zh
theorem oaj {P:Prop}(zh:P:=by rw [Bool.eq_iff_iff,dy,decide_eq_true_eq];omega):P:=zh
theorem oak {P:Prop}(zh:P:=by simpa using hc21):P:=zh
theorem oal {P:Prop}(zh:P:=by rw [bw,hyl];rfl):P:=zh
theorem oam {P:Prop}(zh:P:=by unfold syS;rw [if_pos hE0]):P:=zh
theorem oan {P:Prop}(zh:P:=by simp [pev,hs,hd,hj,hx]):P:=zh
theorem oao {P:Prop}(zh:P:=by dsimp only;rw [e1];exact eM _ (k,k+1)):P:=zh
theorem oap {P:Prop}(zh:P:=by simp [jl,List.range_succ,List.filter_append,h]):P:=zh
theorem oaq {P:Prop}(zh:P:=by simp [aH,List.range_succ,List.filter_append,h]):P:=zh
theorem oar {P:Prop}(zh:P:=by rw [cr];exact Nat.le_refl _):P:=zh
theorem oas {P:Prop}(zh:P:=by dsimp only;rw [jm,List.length_append];rfl):P:=zh
theorem oat {P:Prop}(zh:P:=by dsimp only;rw [jW,List.length_append];rfl):P:=zh
theorem oau {P:Prop}(zh:P:=by rw [hno];exact Bool.false_ne_true):P:=zh
theorem oav {P:Prop}(zh:P:=by rw [Int.toNat_natCast];exact hfit):P:=zh
theorem oaw {P:Prop}(zh:P:=by rw [bw,hyl];decide):P:=zh
theorem oax {P:Prop}(zh:P:=by exact ⟨by omega,bx hu2 hx⟩):P:=zh
theorem oay {P:Prop}(zh:P:=by rw [bS,bW];exact hmhs):P:=zh
theorem oaz {P:Prop}(zh:P:=by rw [h];decide):P:=zh
theorem oaA {P:Prop}(zh:P:=by rw [pH,dP];exact Nat.zero_lt_of_lt hlt):P:=zh
theorem oaB {P:Prop}(zh:P:=by rw [Int.toNat_natCast,Int.toNat_natCast];omega):P:=zh
theorem oaC {P:Prop}(zh:P:=by dsimp only;rw [e1];simp only [wi];rfl):P:=zh
theorem oaD {P:Prop}(zh:P:=by rw [List.length_take,List.length_drop];omega):P:=zh
theorem oaE {P:Prop}(zh:P:=by unfold yK;rw [Bool.eq_iff_iff];simp;omega):P:=zh
theorem oaF {P:Prop}(zh:P:=by unfold chY;rw [if_pos oe];exact hg34):P:=zh
theorem oaG {P:Prop}(zh:P:=by unfold chY;rw [if_pos oe];exact hc51):P:=zh
theorem oaH {P:Prop}(zh:P:=by unfold CG;exact decide_eq_false oe):P:=zh
theorem oaI {P:Prop}(zh:P:=by unfold ndQ;exact (Int.natCast_ediv _ _).symm):P:=zh
theorem oaJ {P:Prop}(zh:P:=by rw [bm,List.length_range]):P:=zh
theorem oaK {P:Prop}(zh:P:=by rintro ⟨q|q,_⟩;exact hg31 q;exact hg36 q):P:=zh
theorem oaL {P:Prop}(zh:P:=by unfold dj;simp [*]):P:=zh
theorem oaM {P:Prop}(zh:P:=by dsimp only;rw [hst,← b8 _ [_,_]];rfl):P:=zh
theorem oaN {P:Prop}(zh:P:=by rw [List.length_map];exact h):P:=zh
theorem oaO {P:Prop}(zh:P:=by dsimp only;rw [e1,← b8]):P:=zh
theorem oaP {P:Prop}(zh:P:=by rw [run_store _ _ _ _ _ h1];simp [hc,hfr]):P:=zh
theorem oaQ {P:Prop}(zh:P:=by simpa using List.nodup_range):P:=zh
theorem oaR {P:Prop}(zh:P:=by show 1*_≤_;omega):P:=zh
theorem oaS {P:Prop}(zh:P:=by unfold ptF ptE;rw [hB,if_pos oe]):P:=zh
theorem oaT {P:Prop}(zh:P:=by rw [aJ,List.length_replicate];omega):P:=zh
theorem oaU {P:Prop}(zh:P:=by cases A<;>simp [Addr.add]):P:=zh
theorem oaV {P:Prop}(zh:P:=by unfold aj;split<;>rfl):P:=zh
theorem oaW {P:Prop}(zh:P:=by have:=Nat.two_pow_pos ls.length;omega):P:=zh
theorem oaX {P:Prop}(zh:P:=by rw [dA];omega):P:=zh
theorem oaY {P:Prop}(zh:P:=by rw [cr];omega):P:=zh
theorem oaZ {P:Prop}(zh:P:=by unfold dS aV;rw [hab];exact hc84):P:=zh
theorem oa0 {P:Prop}(zh:P:=by rw [Int.natCast_mul]):P:=zh
theorem oa1 {P:Prop}(zh:P:=by rw [bS,j4];omega):P:=zh
theorem oa2 {P:Prop}(zh:P:=by rw [cu];omega):P:=zh
theorem oa3 {P:Prop}(zh:P:=by rw [lz,List.length_take];omega):P:=zh
theorem oa4 {P:Prop}(zh:P:=by rw [Nat.zero_add];exact Nat.mul_one _):P:=zh
theorem oa5 {P:Prop}(zh:P:=by rw [b6,List.length_set];exact hb):P:=zh
theorem oa6 {P:Prop}(zh:P:=by simpa using hc9):P:=zh
theorem oa7 {P:Prop}(zh:P:=by rw [hE];decide):P:=zh
theorem oa8 {P:Prop}(zh:P:=by rw [iP h0 h1]):P:=zh
theorem oa9 {P:Prop}(zh:P:=by simpa using hsmall):P:=zh
theorem oba {P:Prop}(zh:P:=by exact ⟨by omega,bx hallu hux⟩):P:=zh
theorem obb {P:Prop}(zh:P:=by dsimp only;rw [e2];rfl):P:=zh
theorem obc {P:Prop}(zh:P:=by rw [← jD];simpa using hc16):P:=zh
theorem obd {P:Prop}(zh:P:=by rw [← jD];simpa using hg25):P:=zh
theorem obe {P:Prop}(zh:P:=by rw [← hs9];exact BQ f y.a y.b):P:=zh
theorem obf {P:Prop}(zh:P:=by rw [← rI hok];simpa using hc15):P:=zh
theorem obg {P:Prop}(zh:P:=by rw [← rI hok];simpa using hc19):P:=zh
theorem obh {P:Prop}(zh:P:=by exact ⟨by omega,bx hno hc17⟩):P:=zh
theorem obi {P:Prop}(zh:P:=by simpa using hh):P:=zh
theorem obk {P:Prop}(zh:P:=by simpa using hv):P:=zh
theorem obl {P:Prop}(zh:P:=by rw [cu];exact hhs):P:=zh
theorem obm {P:Prop}(zh:P:=by rw [cV];exact hi2):P:=zh
theorem obn {P:Prop}(zh:P:=by unfold ndN;omega):P:=zh
theorem obo {P:Prop}(zh:P:=by unfold ndW;omega):P:=zh
theorem obp {P:Prop}(zh:P:=by unfold ndC;omega):P:=zh
theorem obq {P:Prop}(zh:P:=by apply Array.ext';simp):P:=zh
theorem obr {P:Prop}(zh:P:=by rw [j4];exact hss):P:=zh
theorem obs {P:Prop}(zh:P:=by show 24*_≤_;omega):P:=zh
theorem obt {P:Prop}(zh:P:=by rw [bS];exact hhs):P:=zh
theorem obu {P:Prop}(zh:P:=by show _*16≤_;omega):P:=zh
theorem obv {P:Prop}(zh:P:=by simpa using hc29):P:=zh
theorem obw {P:Prop}(zh:P:=by simpa using hg17):P:=zh
theorem obx {P:Prop}(zh:P:=by simpa using hc23):P:=zh
theorem oby {P:Prop}(zh:P:=by rw [b6];exact hi):P:=zh
theorem obz {P:Prop}(zh:P:=by rw [bm];exact hl):P:=zh
theorem obA {P:Prop}(zh:P:=by simp [bw];omega):P:=zh
theorem obB {P:Prop}(zh:P:=by rw [← hkp.2.2];omega):P:=zh
theorem obC {P:Prop}(zh:P:=by simpa using hlt):P:=zh
theorem obD {P:Prop}(zh:P:=by simpa using hB.1.1.2):P:=zh
theorem obE {P:Prop}(zh:P:=by rw [b6];exact h):P:=zh
theorem obF {P:Prop}(zh:P:=by rw [h3];decide):P:=zh
theorem obG {P:Prop}(zh:P:=by exact ⟨hb,hkc,hkD⟩):P:=zh
theorem obH {P:Prop}(zh:P:=by rw [hrw];omega):P:=zh
theorem obI {P:Prop}(zh:P:=by rw [hcl];omega):P:=zh
theorem obJ {P:Prop}(zh:P:=by rw [gL];omega):P:=zh
theorem obK {P:Prop}(zh:P:=by simpa using hn):P:=zh
theorem obL {P:Prop}(zh:P:=by simpa using hl):P:=zh
theorem obM {P:Prop}(zh:P:=by simpa using hz):P:=zh
theorem obN {P:Prop}(zh:P:=by decide+kernel):P:=zh
theorem obO {P:Prop}(zh:P:=by unfold ej;omega):P:=zh
theorem obP {P:Prop}(zh:P:=by simp [hx]):P:=zh
theorem obQ {P:Prop}(zh:P:=by rw [bm];omega):P:=zh
theorem obR {P:Prop}(zh:P:=by rw [j4];omega):P:=zh
theorem obS {P:Prop}(zh:P:=by rw [e1];simp):P:=zh
theorem obT {P:Prop}(zh:P:=by exact ⟨hb2,hbc2⟩):P:=zh
theorem obU {P:Prop}(zh:P:=by exact ⟨hb,hbc⟩):P:=zh
theorem obV {P:Prop}(zh:P:=by rw [h]):P:=zh
theorem Zz {Q:Prop}:Zs 0 Q Q:=⟨id⟩
theorem Zn1 {s:Nat}{Q Q' P:Prop}(h:Xo s Q' P)(k:Zs (s/16) Q Q'):Zs s Q P:=⟨fun q=>h.h (k.h q)⟩
theorem Zn2 {s:Nat}{Q Q' P:Prop}(h:Xo s Q' P)(k:Zs (s/256) Q Q'):Zs s Q P:=⟨fun q=>h.h (k.h q)⟩
theorem Zn3 {s:Nat}{Q Q' P:Prop}(h:Xo s Q' P)(k:Zs (s/4096) Q Q'):Zs s Q P:=⟨fun q=>h.h (k.h q)⟩
theorem Zn4 {s:Nat}{Q Q' P:Prop}(h:Xo s Q' P)(k:Zs (s/65536) Q Q'):Zs s Q P:=⟨fun q=>h.h (k.h q)⟩
variable {n:Nat}{Q R P:Prop}
theorem Zga (zh:Xo n Q P:=by
 apply Zom;intro zq;rotate_left;simp
 first
 |(exact Zt 1;apply Y 0x987)
 |(exact Zt 3;refine L.nil (QE.m oa ?_))
 |(exact Zt 4;refine L.yes rfl ?_)
 |(exact Zt 5;refine C.seq ?_)
 |(exact Zt 6;refine LQ.yes rfl ?_)
 |(exact Zt 7;refine sp (Ev.pure rfl) ?_)
 exact zq.h):Xo n Q P:=zh
theorem RW (zh:Xo n Q P:=by
 apply Zom;intro zq;rotate_left;simp
 first
 |(exact Zt 2;apply Y 0x77)
 |(exact Zt 3;apply Y 0x17)
 |(exact Zt 4;apply Y 0x785)
 |(exact Zt 5;apply Y 0x485)
 |(exact Zt 6;refine L.nil (QE.a oa ?_))
 |(exact Zt 7;refine C.region ?_)
 |(exact Zt 8;(rintro _ _ _ ⟨rfl,rfl,rfl⟩))
 |(exact Zt 9;apply Y 0x8a60e)
 |(exact Zt 10;refine L.alloc rfl rfl rfl ?_)
 |(exact Zt 11;apply Y 0x728)
 |(exact Zt 12;apply Y 0x3848)
 |(exact Zt 13;apply Y 0x128)
 |(exact Zt 14;refine C.ret ?_)
 |(exact Zt 15;apply Y 0xa4e21e)
 exact zq.h):Xo n Q P:=zh
theorem RV (zh:Xo n Q P:=by
 apply Zom;intro zq;rotate_left;simp
 first
 |(exact Zt 1;(rintro _ _ _ ⟨y1,y2,rfl,rfl,rfl⟩);revert y1 y2)
 |(exact Zt 2;(rintro _ _ ⟨y1,rfl,rfl⟩);revert y1)
 |(exact Zt 3;apply Y 0xfdfd)
 |(exact Zt 4;apply Y 0x51)
 |(exact Zt 5;apply Y 0x8a7a)
 |(exact Zt 6;apply Y 0x214f3)
 |(exact Zt 8;apply Y 0xbaee8)
 |(exact Zt 9;apply Y 0xaabd)
 |(exact Zt 10;apply Y 0x8ae5e)
 |(exact Zt 11;apply Y 0x748)
 |(exact Zt 12;apply Y 0x6d6d)
 |(exact Zt 13;apply Y 0x4be8)
 |(exact Zt 14;refine sp (faO 0) ?_)
 |(exact Zt 15;apply Y 0x4bc)
 exact zq.h):Xo n Q P:=zh
theorem RU (zh:Xo n Q P:=by
 apply Zom;intro zq;rotate_left;simp
 first
 |(exact Zt 1;apply Y 0x148)
 |(exact Zt 4;refine lnr [_] [0] ?_)
 |(exact Zt 5;apply Y 0x687)
 |(exact Zt 6;apply Y 0x7b48)
 |(exact Zt 7;refine C.skip ?_)
 |(exact Zt 8;refine QE.seq ?_)
 |(exact Zt 9;apply Y 0xcfefb)
 |(exact Zt 10;refine C.block ?_)
 |(exact Zt 11;refine sp (Ev.build rfl rfl rfl rfl rfl rfl rfl) ?_)
 |(exact Zt 12;apply Y 0x24efd)
 |(exact Zt 13;refine sp (Ev.add rfl rfl oe oe) ?_)
 |(exact Zt 14;apply Y 0x24e39)
 |(exact Zt 15;apply Y 0x1ee3be)
 exact zq.h):Xo n Q P:=zh
theorem RT (zh:Xo n Q P:=by
 apply Zom;intro zq;rotate_left;simp
 first
 |(exact Zt 1;(rintro _ _ _ ⟨rfl,y1,rfl,rfl⟩);revert y1)
 |(exact Zt 2;refine L.lit rfl rfl rfl rfl rfl oP oP oP rfl rfl ?_)
 |(exact Zt 3;apply Y 0xa1e80e)
 |(exact Zt 4;refine qrt [] [] [_] rfl rt ?_)
 |(exact Zt 5;apply Y 0x986b)
 |(exact Zt 6;refine cO (j:=0) rfl rfl rfl rfl rfl (Nat.zero_lt_succ _) rfl rfl ?_)
 |(exact Zt 7;refine KV rfl rfl ?_)
 |(exact Zt 8;apply Y 0xba48)
 |(exact Zt 9;apply Y 0xd9ed9e)
 |(exact Zt 10;apply Y 0x778)
 |(exact Zt 11;apply Y 0xfceae1f)
 |(exact Zt 12;apply Y 0x598)
 |(exact Zt 13;apply Y 0x78cae)
 |(exact Zt 14;apply Y 0x53e4)
 |(exact Zt 15;apply Y 0x8a86e)
 exact zq.h):Xo n Q P:=zh
theorem RS (zh:Xo n Q P:=by
 apply Zom;intro zq;rotate_left;simp
 first
 |(exact Zt 1;apply Y 0x2848)
 |(exact Zt 2;refine lnr [_,_] [0,1] ?_)
 |(exact Zt 3;apply Y 0x68110f)
 |(exact Zt 4;refine cO (j:=1) rfl rfl rfl rfl rfl (Nat.zero_lt_succ _) rfl rfl ?_)
 |(exact Zt 5;apply Y 0xfc7)
 |(exact Zt 6;apply Y 0x4be9e)
 |(exact Zt 7;refine cfz 0 [1] ?_)
 |(exact Zt 8;refine cnr [_] [0] ?_)
 |(exact Zt 9;apply Y 0x9be3be)
 |(exact Zt 10;apply Y 0x2878)
 |(exact Zt 11;apply Y 0x74)
 |(exact Zt 12;refine qrt [0] [] [_] rfl ⟨⟨_,_,0,_,rfl,rfl,Src.o 0 rfl,.inl ⟨rfl,by decide,_,rfl,rfl,rfl⟩⟩,trivial⟩ ?_)
 |(exact Zt 13;apply Y 0x6d6)
 |(exact Zt 14;refine ⟨congrArg Value.bool ?_,rfl,rfl⟩)
 |(exact Zt 15;apply Y 0x314f3)
 exact zq.h):Xo n Q P:=zh
theorem RR (zh:Xo n Q P:=by
 apply Zom;intro zq;rotate_left;simp
 first
 |(exact Zt 1;apply Y 0x3928)
 |(exact Zt 2;apply Y 0x93ee8)
 |(exact Zt 3;apply Y 0x93ebae)
 |(exact Zt 5;refine sp (nkO 0) ?_)
 |(exact Zt 6;refine sq (Ev.pure rfl) ?_)
 |(exact Zt 7;apply Y 0xf9bc)
 |(exact Zt 8;apply Y 0x4859)
 |(exact Zt 9;apply Y 0x2858)
 |(exact Zt 10;refine Ap oa ?_)
 |(exact Zt 11;apply Y 0x559)
 |(exact Zt 12;apply Y 0xaa1a)
 |(exact Zt 15;apply Y 0x24e24e)
 exact zq.h):Xo n Q P:=zh
theorem Zha (zh:Xo n Q P:=by
 apply Zod;simp
 first
 |(exact Zt 8;exact RW)
 |(exact Zt 9;exact RV)
 |(exact Zt 10;exact RU)
 |(exact Zt 11;exact RT)
 |(exact Zt 12;exact RS)
 |(exact Zt 13;exact RR)):Xo n Q P:=zh
theorem NZ (zh:Xo n Q P:=by
 apply Zom;intro zq;rotate_left;simp
 first
 |(exact Zt 1;refine ⟨congrArg (Value.int .i64) (Eq.symm ?_),rfl,rfl⟩)
 |(exact Zt 2;apply Y 0xdce78)
 |(exact Zt 3;apply Y 0x51a)
 |(exact Zt 4;apply Y 0x32e6d)
 |(exact Zt 5;(rintro _ _ _ ⟨y1,y2,y3,y4,rfl,rfl,rfl⟩);revert y1 y2 y3 y4)
 |(exact Zt 6;refine L.nil ?_)
 |(exact Zt 7;refine lnr [_,_,_] [0,1,2] ?_)
 |(exact Zt 8;refine sp (faR 1) ?_)
 |(exact Zt 9;refine sq (ldR 0) ?_)
 |(exact Zt 10;apply Y 0x2d1a)
 |(exact Zt 11;apply Y 0xf5e89)
 |(exact Zt 12;(rintro _ _ ⟨y1,y2,rfl,rfl⟩);revert y1 y2)
 exact zq.h):Xo n Q P:=zh
theorem NY (zh:Xo n Q P:=by
 apply Zom;intro zq;rotate_left;simp
 first
 |(exact Zt 1;refine r7 (js:=[]) (hs:=[]) ob ⟨rfl,?_⟩)
 |(exact Zt 2;refine sp (faR 0) ?_)
 |(exact Zt 3;refine sq (faR 0) ?_)
 |(exact Zt 4;(rintro _ _ _ ⟨y1,rfl,rfl,rfl⟩);revert y1)
 |(exact Zt 6;refine sp (Ev.sub rfl rfl oe oe) ?_)
 |(exact Zt 7;refine cnr [_,_] [0,1] ?_)
 |(exact Zt 8;apply Y 0x60e7)
 |(exact Zt 9;refine qrt [] [0] [_] rfl rt ?_)
 |(exact Zt 10;refine sp (ldR 1) ?_)
 |(exact Zt 11;(rintro y1 ⟨y2,y3⟩);revert y1 y2 y3)
 |(exact Zt 12;(have y1:=ok);revert y1)
 |(exact Zt 13;refine cfz 0 [1,2] ?_)
 |(exact Zt 14;apply Y 0x114f68)
 |(exact Zt 15;(rintro ⟨y1,y2,y3⟩ y4);revert y1 y2 y3 y4)
 exact zq.h):Xo n Q P:=zh
theorem NX (zh:Xo n Q P:=by
 apply Zom;intro zq;rotate_left;simp
 first
 |(exact Zt 1;refine LA.nil oa ?_)
 |(exact Zt 2;refine qrt [] [0] [_,_] rfl rt ?_)
 |(exact Zt 3;apply Y 0x8afd0f)
 |(exact Zt 6;refine L.more (r:=Rd (bh S c 2 1) (U8 (l.drop 2))) (aQ (Has.r 0 rfl) c 2 hc) ?_)
 |(exact Zt 7;refine LA.alt [5] oa ob ⟨⟨_,rfl,?_⟩,trivial⟩)
 |(exact Zt 8;refine LA.alt [8] oa ob ⟨⟨_,rfl,?_⟩,trivial⟩)
 |(exact Zt 9;refine LA.alt [9] oa ob ⟨⟨_,rfl,?_⟩,trivial⟩)
 |(exact Zt 11;refine cfz 1 [0] ?_)
 |(exact Zt 13;refine QE.nil_own 5 1 ?_)
 |(exact Zt 15;refine fx 14 rfl oa trivial ?_)
 exact zq.h):Xo n Q P:=zh
theorem NW (zh:Xo n Q P:=by
 apply Zom;intro zq;rotate_left;simp
 first
 |(exact Zt 1;refine N2 ?_)
 |(exact Zt 2;(rintro _ _ _ ⟨y1,y2,y3,rfl,rfl,rfl⟩);revert y1 y2 y3)
 |(exact Zt 4;refine mq 0 rfl (Ev.pure rfl) ?_)
 |(exact Zt 5;apply Y 0xa4e5be)
 |(exact Zt 6;refine sp (ab rfl rfl rfl (Src.r 0 rfl) rfl rfl ob) ?_)
 |(exact Zt 7;refine sp (faR 2) ?_)
 |(exact Zt 8;refine sq (ldR 1) ?_)
 |(exact Zt 9;apply Y 0xbaeaae)
 |(exact Zt 10;refine cO (j:=2) rfl rfl rfl rfl rfl (Nat.zero_lt_succ _) rfl rfl ?_)
 |(exact Zt 11;refine mfo 12 ?_)
 |(exact Zt 12;refine sq (faR 1) ?_)
 |(exact Zt 13;rw [Bool.eq_iff_iff])
 |(exact Zt 14;unfold Oper.wp)
 |(exact Zt 15;refine mfo 7 ?_)
 exact zq.h):Xo n Q P:=zh
theorem NV (zh:Xo n Q P:=by
 apply Zom;intro zq;rotate_left;simp
 first
 |(exact Zt 1;refine sp (faO 3) ?_)
 |(exact Zt 2;refine L.no rfl rfl rfl ?_)
 |(exact Zt 3;refine mfo 11 ?_)
 |(exact Zt 4;refine sq (faO 0) ?_)
 |(exact Zt 6;refine fe (js:=[0]) (hs:=[0]) (vs:=[]) rfl trivial ob ?_)
 |(exact Zt 7;refine mfo 8 ?_)
 |(exact Zt 8;refine ⟨?_,rfl,rfl⟩)
 |(exact Zt 9;refine sp (ldO 0) ?_)
 |(exact Zt 10;refine sp (ldR 0) ?_)
 |(exact Zt 11;refine LA.alt [3] oa ob ⟨⟨_,rfl,?_⟩,trivial⟩)
 |(exact Zt 12;refine LQ.no rfl rfl rfl ?_)
 |(exact Zt 13;dsimp only)
 |(exact Zt 14;refine mfo 6 ?_)
 |(exact Zt 15;refine sp (ab rfl rfl rfl (Src.r 1 rfl) rfl rfl ob) ?_)
 exact zq.h):Xo n Q P:=zh
theorem NU (zh:Xo n Q P:=by
 apply Zom;intro zq;rotate_left;simp
 first
 |(exact Zt 1;refine sp (Ev.mul rfl rfl oe oe) ?_)
 |(exact Zt 3;rw [hE,hV])
 |(exact Zt 4;refine cnr [_,_,_] [0,1,2] ?_)
 |(exact Zt 5;refine mq 9 rfl (Ev.pure rfl) ?_)
 |(exact Zt 6;refine qrt [0] [] [_,_,_] rfl ⟨⟨_,_,0,_,rfl,rfl,Src.o 0 rfl,.inl ⟨rfl,by decide,_,rfl,rfl,rfl⟩⟩,rfl,rfl,trivial⟩ ?_)
 |(exact Zt 7;refine qrt [] [] [_,_] rfl rt ?_)
 |(exact Zt 8;refine ⟨congrArg Value.bool (Eq.symm ?_),rfl,rfl⟩)
 |(exact Zt 9;rw [nG hL])
 |(exact Zt 10;refine LA.alt [1] oa ob ⟨⟨_,rfl,?_⟩,trivial⟩)
 |(exact Zt 11;refine mfo 13 ?_)
 |(exact Zt 12;refine sp (ab rfl rfl rfl (Src.o 1 rfl) rfl rfl ob) ?_)
 |(exact Zt 13;refine sp (ldR 2) ?_)
 |(exact Zt 14;apply Y 0x340f39e)
 |(exact Zt 15;refine QE.more (r:=Rd none []) (Has.nil) ?_)
 exact zq.h):Xo n Q P:=zh
theorem NT (zh:Xo n Q P:=by
 apply Zom;intro zq;rotate_left;simp
 first
 |(exact Zt 1;refine Dj ?_)
 |(exact Zt 2;refine cfz 0 [1,2,3] ?_)
 |(exact Zt 3;rw [List.take_length])
 |(exact Zt 4;(have y1:=(X.ok _ _ ht).und);revert y1)
 |(exact Zt 5;refine cO (j:=3) rfl rfl rfl rfl rfl (Nat.zero_lt_succ _) rfl rfl ?_)
 |(exact Zt 6;refine fx 11 rfl oa trivial ?_)
 |(exact Zt 7;refine fx 7 rfl oa trivial ?_)
 |(exact Zt 8;refine GN ?_)
 |(exact Zt 9;refine mfo 9 ?_)
 |(exact Zt 10;refine mq 5 rfl (Ev.pure rfl) ?_)
 |(exact Zt 11;refine sp (faO 2) ?_)
 |(exact Zt 13;refine LA.alt [2] oa ob ⟨⟨_,rfl,?_⟩,trivial⟩)
 |(exact Zt 14;refine LA.alt [6] oa ob ⟨⟨_,rfl,?_⟩,trivial⟩)
 |(exact Zt 15;refine fx 10 rfl oa trivial ?_)
 exact zq.h):Xo n Q P:=zh
theorem NS (zh:Xo n Q P:=by
 apply Zom;intro zq;rotate_left;simp
 first
 |(exact Zt 1;refine fx 8 rfl oa trivial ?_)
 |(exact Zt 2;refine mfo 10 ?_)
 |(exact Zt 3;refine mq 8 rfl (Ev.pure rfl) ?_)
 |(exact Zt 4;apply Y 0x13e13e)
 |(exact Zt 5;(have y1:0≤p0∧p0≤4294967295:=hp p0 oO);revert y1)
 |(exact Zt 6;(have y1:0≤p1∧p1≤4294967295:=hp p1 oO);revert y1)
 |(exact Zt 7;(have y1:0≤p2∧p2≤4294967295:=hp p2 oO);revert y1)
 |(exact Zt 8;(have y1:0≤p3∧p3≤4294967295:=hp p3 oO);revert y1)
 |(exact Zt 9;(have y1:0≤p4∧p4≤4294967295:=hp p4 oO);revert y1)
 |(exact Zt 10;(have y1:0≤p5∧p5≤4294967295:=hp p5 oO);revert y1)
 |(exact Zt 11;(have y1:0≤p6∧p6≤4294967295:=hp p6 oO);revert y1)
 |(exact Zt 12;(have y1:0≤p7∧p7≤4294967295:=hp p7 oO);revert y1)
 |(exact Zt 13;(have y1:0≤p8∧p8≤4294967295:=hp p8 oO);revert y1)
 |(exact Zt 15;refine sp (ab (vs:=[_,_,_,_,_,_,_,_]) rfl rfl rfl (Src.r 0 rfl) rfl rfl ob) ?_)
 exact zq.h):Xo n Q P:=zh
theorem NR (zh:Xo n Q P:=by
 apply Zom;intro zq;rotate_left;simp
 first
 |(exact Zt 4;refine L.store (j:=2) rfl rfl rfl rfl rfl rfl rfl rfl ?_)
 |(exact Zt 6;refine fx 12 rfl oa trivial ?_)
 |(exact Zt 7;refine mq 11 rfl (Ev.pure rfl) ?_)
 |(exact Zt 8;refine qrt [] [1] [_,_] rfl rt ?_)
 |(exact Zt 9;refine sp (ab (vs:=[_,_,_,_]) rfl rfl rfl (Src.r 0 rfl) rfl rfl ob) ?_)
 |(exact Zt 10;refine sp (uH rfl rfl rfl rfl oe oe) ?_)
 |(exact Zt 11;refine sq (ldO 0) ?_)
 |(exact Zt 12;refine sq (nkO 0) ?_)
 |(exact Zt 13;unfold bI yK)
 |(exact Zt 14;(have y1:=ed (P:=X.P) w (X.ok _ _ he));revert y1)
 exact zq.h):Xo n Q P:=zh
theorem NQ (zh:Xo n Q P:=by
 apply Zom;intro zq;rotate_left;simp
 first
 |(exact Zt 2;refine C.cap 0 rfl ?_)
 |(exact Zt 3;refine C.exit ?_)
 |(exact Zt 4;refine L.store (j:=0) rfl rfl rfl rfl rfl rfl rfl rfl ?_)
 |(exact Zt 5;refine LA.alt [4] oa ob ⟨⟨_,rfl,?_⟩,trivial⟩)
 |(exact Zt 6;refine LY.step (Ev.pure rfl) rfl ?_)
 |(exact Zt 7;refine al (PK _ _ _) ?_)
 |(exact Zt 8;refine mfo 3 ?_)
 |(exact Zt 9;refine mq 10 rfl (Ev.pure rfl) ?_)
 |(exact Zt 10;refine qrt [] [] [_,_] rfl ⟨⟨_,_,0,_,rfl,rfl,Src.o 0 rfl,.inl ⟨rfl,by decide,_,rfl,rfl,rfl⟩⟩,rfl,trivial⟩ ?_)
 |(exact Zt 11;refine sp (faR 3) ?_)
 |(exact Zt 13;apply Y 0xc4ec4e)
 |(exact Zt 14;apply Y 0x891a)
 exact zq.h):Xo n Q P:=zh
theorem NP (zh:Xo n Q P:=by
 apply Zom;intro zq;rotate_left;simp
 first
 |(exact Zt 2;refine fx 13 rfl oa trivial ?_)
 |(exact Zt 3;refine mfo 2 ?_)
 |(exact Zt 4;refine mfo 4 ?_)
 |(exact Zt 5;refine mq 6 rfl (Ev.pure rfl) ?_)
 |(exact Zt 6;refine sq (Ev.load rfl rfl rfl (Src.r 0 rfl) (bp oe)) ?_)
 |(exact Zt 7;rw [Ha hB])
 |(exact Zt 8;refine fx 4 rfl oa trivial ?_)
 |(exact Zt 9;refine fx 9 rfl oa trivial ?_)
 |(exact Zt 10;refine N5 ?_)
 |(exact Zt 11;refine N1 ?_)
 |(exact Zt 12;refine cfz 0 [] ?_)
 |(exact Zt 13;refine mq 1 rfl (Ev.pure rfl) ?_)
 |(exact Zt 14;refine mq 1 rfl (faR 1) ?_)
 |(exact Zt 15;refine mq 4 rfl (Ev.pure rfl) ?_)
 exact zq.h):Xo n Q P:=zh
theorem NN (zh:Xo n Q P:=by
 apply Zom;intro zq;rotate_left;simp
 first
 |(exact Zt 1;refine sp (cL rfl rfl rfl rfl) ?_)
 |(exact Zt 2;refine sp (Ev.load rfl rfl rfl (Src.r 0 rfl) (bp oe)) ?_)
 |(exact Zt 3;refine sp (faO 1) ?_)
 |(exact Zt 4;refine sq (Ev.load rfl rfl rfl (Src.r 4 rfl) (aG oe)) ?_)
 |(exact Zt 5;apply Y 0x421e)
 |(exact Zt 6;(have y1:dH sec a b:=qu);revert y1)
 |(exact Zt 7;(have y1:=x.S_le);revert y1)
 |(exact Zt 8;(have y1:=x.n_le);revert y1)
 |(exact Zt 9;refine L.store (j:=1) rfl rfl rfl rfl rfl rfl rfl rfl ?_)
 |(exact Zt 11;refine fx 5 rfl oa trivial ?_)
 |(exact Zt 12;refine QE.more (r:=aS [] (J8 [])) (Has.kids0) ?_)
 |(exact Zt 13;refine QE.more (r:=Rd none (I64 [])) (Has.nil) ?_)
 |(exact Zt 14;refine QE.more (r:=Rd none (aC [] (J8 []))) (Has.nil) ?_)
 |(exact Zt 15;refine mfo 5 ?_)
 exact zq.h):Xo n Q P:=zh
theorem NM (zh:Xo n Q P:=by
 apply Zom;intro zq;rotate_left;simp
 first
 |(exact Zt 1;refine mq 2 rfl (ldR 1) ?_)
 |(exact Zt 2;refine qrt [1,0] [] [_,_] rfl rt ?_)
 |(exact Zt 3;refine qrt [] [] [_] rfl ⟨⟨_,_,0,_,rfl,rfl,Src.o 0 rfl,.inl ⟨rfl,by decide,_,rfl,rfl,rfl⟩⟩,trivial⟩ ?_)
 |(exact Zt 4;refine sp (faR 13) ?_)
 |(exact Zt 5;refine sp (faR 4) ?_)
 |(exact Zt 6;refine sp (ldR 3) ?_)
 |(exact Zt 7;refine sp (ldR 4) ?_)
 |(exact Zt 8;refine sq (Ev.add rfl rfl oe oe) ?_)
 |(exact Zt 10;rw [e1,e2])
 |(exact Zt 11;rw [Hg oe])
 |(exact Zt 12;unfold dL)
 |(exact Zt 13;apply Y 0x81eda)
 |(exact Zt 14;apply Y 0x514f913f)
 |(exact Zt 15;apply Y 0x11e13e)
 exact zq.h):Xo n Q P:=zh
theorem NK (zh:Xo n Q P:=by
 apply Zom;intro zq;rotate_left;simp
 first
 |(exact Zt 1;(have y1:((ah ops).length:Int)=out:=mo ops out k3 k6);revert y1)
 |(exact Zt 3;refine aE [_,_,_,_,_,_,_,_,_] (Hq [0,1,2,3,4,5,6,7,8] rfl) ?_)
 |(exact Zt 4;refine fx 15 rfl oa trivial ?_)
 |(exact Zt 5;refine fx 6 rfl oa trivial ?_)
 |(exact Zt 6;refine cnr [_,_,_,_] [0,1,2,3] ?_)
 |(exact Zt 7;refine al (I2) ?_)
 |(exact Zt 8;refine lnr [_,_,_,_] [0,1,2,3] ?_)
 |(exact Zt 9;refine mq 2 rfl (Ev.pure rfl) ?_)
 |(exact Zt 10;refine mq 3 rfl (Ev.pure rfl) ?_)
 |(exact Zt 11;refine mq 3 rfl (faR 0) ?_)
 |(exact Zt 12;refine sp (Ev.load rfl rfl rfl (Src.r 5 rfl) (kY oe)) ?_)
 |(exact Zt 13;refine sp (ab (vs:=[.int .i64 p0,.int .i64 p1,.int .i64 p2,.int .i64 p3,.int .i64 p4,.int .i64 p5,.int .i64 p6,.int .i64 p7,.int .i64 p8]) rfl rfl rfl (Src.r 0 rfl) rfl rfl ob) ?_)
 |(exact Zt 14;refine sp (j8 rfl rfl rfl rfl) ?_)
 |(exact Zt 15;refine sp (faR 10) ?_)
 exact zq.h):Xo n Q P:=zh
theorem NJ (zh:Xo n Q P:=by
 apply Zom;intro zq;rotate_left;simp
 first
 |(exact Zt 1;refine sp (ldO 1) ?_)
 |(exact Zt 2;refine sp (ldO 2) ?_)
 |(exact Zt 3;unfold dF)
 |(exact Zt 4;(have y1:=gw (ah ops) inn S n);revert y1)
 |(exact Zt 5;(have y1:=nJ (ops:=ops) hf hg);revert y1)
 |(exact Zt 6;(rintro _ _ _ ⟨y1,y2,y3,rfl,rfl,rfl,y4⟩);revert y1 y2 y3 y4)
 |(exact Zt 7;(rintro ⟨y1,y2⟩);revert y1 y2)
 |(exact Zt 11;refine N6 ?_)
 |(exact Zt 12;refine N3 ?_)
 |(exact Zt 13;refine mq 0 rfl (faR 0) ?_)
 |(exact Zt 14;refine mq 1 rfl (faR 0) ?_)
 |(exact Zt 15;refine mq 2 rfl (ldR 0) ?_)
 exact zq.h):Xo n Q P:=zh
theorem NH (zh:Xo n Q P:=by
 apply Zom;intro zq;rotate_left;simp
 first
 |(exact Zt 1;refine sp (ae (k:=x.sec.toNat) rfl rfl rfl rfl rfl rfl oe oe (Src.r 5 rfl) qK) ?_)
 |(exact Zt 2;refine sp (Ev.load rfl rfl rfl (Src.r 1 rfl) (aN hh oe)) ?_)
 |(exact Zt 3;refine sp (ldR 13) ?_)
 |(exact Zt 4;refine sq (ae (k:=x.sec.toNat) rfl rfl rfl rfl rfl rfl oe oe (Src.r 4 rfl) ov) ?_)
 |(exact Zt 5;refine sq (Ev.load rfl rfl rfl (Src.r 0 rfl) (aG oe)) ?_)
 |(exact Zt 6;refine ⟨congrArg (Value.int .i64) ?_,rfl,rfl⟩)
 |(exact Zt 7;rw [hf.dfs])
 |(exact Zt 8;unfold iK)
 |(exact Zt 9;unfold fitE)
 |(exact Zt 10;unfold du)
 |(exact Zt 11;unfold dw)
 |(exact Zt 12;apply Y 0xdceab)
 |(exact Zt 13;(have y1:cF inn out ops=60:=by unfold cF;rw [if_neg oe,hinv,hno];rfl);revert y1)
 |(exact Zt 14;(have y1:=dy.1 hszb0);revert y1)
 |(exact Zt 15;(obtain ⟨y1,y2,y3,y4,y5,y6⟩:1≤S∧S≤4096∧1≤n∧n≤64∧inn≤(S:Int)*(n:Int)∧out≤(S:Int)*(n:Int):=⟨by omega,by omega,by omega,by omega,hszb.2.2.2.2.1,hszb.2.2.2.2.2⟩);revert y1 y2 y3 y4 y5 y6)
 exact zq.h):Xo n Q P:=zh
theorem RK (zh:Xo n Q P:=by
 apply Zod;simp
 first
 |(exact Zt 0;exact NZ)
 |(exact Zt 1;exact NY)
 |(exact Zt 2;exact NX)
 |(exact Zt 3;exact NW)
 |(exact Zt 4;exact NV)
 |(exact Zt 5;exact NU)
 |(exact Zt 6;exact NT)
 |(exact Zt 7;exact NS)
 |(exact Zt 8;exact NR)
 |(exact Zt 9;exact NQ)
 |(exact Zt 10;exact NP)
 |(exact Zt 11;exact NN)
 |(exact Zt 12;exact NM)
 |(exact Zt 13;exact NK)
 |(exact Zt 14;exact NJ)
 |(exact Zt 15;exact NH)):Xo n Q P:=zh
theorem GG (zh:Xo n Q P:=by
 apply Zod;simp
 first
 |(exact Zt 14;exact RK)):Xo n Q P:=zh
theorem KR (zh:Xo n Q P:=by
 apply Zom;intro zq;rotate_left;simp
 first
 |(exact Zt 1;(obtain ⟨y1,y2,y3,y4,y5,y6⟩:=fM hE);revert y1 y2 y3 y4 y5 y6)
 |(exact Zt 4;refine aE [_,_,_,_,_,_,_,_,_,_] (Hq [0,1,2,3,4,5,6,7,8,9] rfl) ?_)
 |(exact Zt 5;refine L.append (j:=1) rfl rfl rfl rfl ob rfl rfl rfl rfl (Src.o 0 rfl) oP (bQ _) oe oH rfl ?_)
 |(exact Zt 6;refine L.freeze 0 rfl [1] ob ob ?_)
 |(exact Zt 8;refine QE.nil_own 223 2 ?_)
 |(exact Zt 9;refine cfz 0 [1,2,3,4] ?_)
 |(exact Zt 10;refine cfz 1 [0,2] ?_)
 |(exact Zt 11;refine cfz 2 [0,1] ?_)
 |(exact Zt 12;refine mq 17 rfl (Ev.pure rfl) ?_)
 |(exact Zt 13;refine qfz 2 [0,1] ?_)
 |(exact Zt 14;refine qrt [0] [] [_] rfl ⟨⟨_,_,0,_,rfl,rfl,Src.o 1 rfl,.inl ⟨rfl,by decide,_,rfl,rfl,rfl⟩⟩,trivial⟩ ?_)
 |(exact Zt 15;refine sp ((Ev.cast (u:=.int .u64 (0)) (Ev.pure rfl) (congrArg (Value.int .u64) ob))) ?_)
 exact zq.h):Xo n Q P:=zh
theorem KQ (zh:Xo n Q P:=by
 apply Zom;intro zq;rotate_left;simp
 first
 |(exact Zt 1;refine sp (ldO 3) ?_)
 |(exact Zt 2;refine sq (faR 3) ?_)
 |(exact Zt 3;refine sq (ldR 3) ?_)
 |(exact Zt 5;(have y1:fc f us at_ b:=Qv);revert y1)
 |(exact Zt 6;(have y1:cF inn out ops=60:=by unfold cF;rw [if_pos oe]);revert y1)
 |(exact Zt 7;(have y1:syS inn out ops=ah ops:=Qw);revert y1)
 |(exact Zt 8;(have y1:=(X.ok _ _ h1).und);revert y1)
 |(exact Zt 9;(have y1:=mj (by rw [hE];decide:cntE lf sz n inn out ops seq st data fs ls lst k≠0));revert y1)
 |(exact Zt 10;(have y1:=hf'.dfs);revert y1)
 |(exact Zt 11;(have y1:=ed (P:=X.P) w (X.ok _ _ ht));revert y1)
 |(exact Zt 12;(obtain ⟨y1,y2,y3⟩:=aD (List.mem_of_getElem? hd));revert y1 y2 y3)
 |(exact Zt 13;(rintro ⟨y1,y2,y3,y4⟩ ⟨y5,y6⟩);revert y6;revert y5;revert y4;revert y3;revert y2;revert y1)
 exact zq.h):Xo n Q P:=zh
theorem KP (zh:Xo n Q P:=by
 apply Zom;intro zq;rotate_left;simp
 first
 |(exact Zt 3;refine hI 3 1 ?_)
 |(exact Zt 4;refine L.append (j:=2) rfl rfl rfl rfl ob rfl rfl rfl rfl (Src.r 4 rfl) Oe (Aq _) oe oH rfl ?_)
 |(exact Zt 5;refine L.freeze 0 rfl [] ob ob ?_)
 |(exact Zt 6;refine L.panic rfl ?_)
 |(exact Zt 8;refine LY.no rfl rfl rfl ?_)
 |(exact Zt 9;refine LY.yes rfl ?_)
 |(exact Zt 10;refine QE.more (r:=Rd none (I64 (NI []))) (Has.nil) ?_)
 |(exact Zt 12;refine mfo 19 ?_)
 |(exact Zt 13;refine mfo 20 ?_)
 |(exact Zt 14;refine mq 14 rfl (Ev.pure rfl) ?_)
 |(exact Zt 15;refine mq 4 rfl (ldR 0) ?_)
 exact zq.h):Xo n Q P:=zh
theorem KO (zh:Xo n Q P:=by
 apply Zom;intro zq;rotate_left;simp
 first
 |(exact Zt 1;refine qfz 0 [] ?_)
 |(exact Zt 2;refine sp (Ev.load rfl rfl rfl (Src.r 0 rfl) (aG oe)) ?_)
 |(exact Zt 3;refine sp (Ev.load rfl rfl rfl (Src.r 0 rfl) (cv hh oe)) ?_)
 |(exact Zt 4;refine sp (Ev.load rfl rfl rfl (Src.r 2 rfl) (aN hh oe)) ?_)
 |(exact Zt 5;refine sp (ab (vs:=(flL f a)) rfl rfl rfl (Src.r 2 rfl) rfl rfl ob) ?_)
 |(exact Zt 6;refine sp (ab (vs:=(flL f a)) rfl rfl rfl (Src.r 4 rfl) rfl rfl ob) ?_)
 |(exact Zt 7;refine sp (ab (vs:=(di y G U V gc uc vc)) rfl rfl rfl (Src.r 1 rfl) rfl rfl ob) ?_)
 |(exact Zt 8;refine sp (ab (vs:=(di y G U V gc uc vc)) rfl rfl rfl (Src.r 3 rfl) rfl rfl ob) ?_)
 |(exact Zt 9;refine sp (ab (vs:=[.int .i64 p0,.int .i64 p1,.int .i64 (p2+1),.int .i64 p3,.int .i64 p4,.int .i64 p5,.int .i64 p6,.int .i64 p7,.int .i64 p8]) rfl rfl rfl (Src.r 0 rfl) rfl rfl ob) ?_)
 |(exact Zt 10;refine sp (ab (vs:=[_,_,_,_,_,_]) rfl rfl rfl (Src.r 1 rfl) rfl rfl ob) ?_)
 |(exact Zt 11;refine sp (bt (l:=k) rfl rfl rfl rfl rfl rfl oe) ?_)
 |(exact Zt 13;rw [if_neg oe])
 |(exact Zt 14;simp [wpOpsS,go_sem,recoverD,hu,Exit.thenS])
 exact zq.h):Xo n Q P:=zh
theorem KN (zh:Xo n Q P:=by
 apply Zom;intro zq;rotate_left;simp
 first
 |(exact Zt 3;apply Y 0xece913f)
 |(exact Zt 4;(have y1:eA x=.agg (List.toArray x.cells):=by unfold eA;rw [if_pos oe]);revert y1)
 |(exact Zt 5;(have y1:n*S≤64*4096:=Nat.mul_le_mul hn2 hS2);revert y1)
 |(exact Zt 6;(have y1:=hu.l);revert y1)
 |(exact Zt 7;(have y1:=x.more_le);revert y1)
 |(exact Zt 8;(have y1:=x.sg_le);revert y1)
 |(exact Zt 9;(have y1:=x.st_len);revert y1)
 |(exact Zt 10;(rintro _ _ _ ⟨y1,rfl,rfl,rfl,y2⟩);revert y1 y2)
 |(exact Zt 11;(rintro ⟨y1,y2,y3⟩);revert y1 y2 y3)
 |(exact Zt 12;(rintro ⟨y1,y2⟩ ⟨y3,y4⟩);revert y4;revert y3;revert y2;revert y1)
 exact zq.h):Xo n Q P:=zh
theorem KM (zh:Xo n Q P:=by
 apply Zom;intro zq;rotate_left;simp
 first
 |(exact Zt 4;refine (hfn.use hj hj' hn hR hs).mono ?_)
 |(exact Zt 5;refine aE [_,_,_,_,_,_] (Hq [0,1,2,3,4,5] rfl) ?_)
 |(exact Zt 6;refine aE [_] (Hq [0] rfl) ?_)
 |(exact Zt 7;refine L.append (j:=0) rfl rfl rfl rfl ob rfl rfl rfl rfl (Src.o 1 rfl) rfl (dG rfl) oe oU rfl ?_)
 |(exact Zt 8;refine L.append (j:=1) rfl rfl rfl rfl ob rfl rfl rfl rfl (Src.r 3 rfl) oY (cY _) oe oU rfl ?_)
 |(exact Zt 9;refine L.append (j:=3) rfl rfl rfl rfl ob rfl rfl rfl rfl (Src.r 4 rfl) Oe (Aq _) oe oH rfl ?_)
 |(exact Zt 11;refine GP rfl rfl rfl rfl ?_)
 |(exact Zt 12;refine fx 16 rfl oa trivial ?_)
 |(exact Zt 13;refine fx 20 rfl oa trivial ?_)
 |(exact Zt 14;refine QE.freezeKids 1 rfl [0] ob ob ?_)
 exact zq.h):Xo n Q P:=zh
theorem KL (zh:Xo n Q P:=by
 apply Zom;intro zq;rotate_left;simp
 first
 |(exact Zt 1;refine QE.more (r:=aS [] []) Has.kids0 ?_)
 |(exact Zt 2;refine QE.more (r:=Rd none (ck [])) (Has.nil) ?_)
 |(exact Zt 3;refine QE.more (r:=Rd none []) Has.nil ?_)
 |(exact Zt 4;refine QE.norm (H':=[_,_]) [0,1] rt ob ?_)
 |(exact Zt 5;refine GH ?_)
 |(exact Zt 7;refine al (rY f.size oe) ?_)
 |(exact Zt 8;refine lnr [_,_,_,_,_] [0,1,2,3,4] ?_)
 |(exact Zt 9;refine mfo 14 ?_)
 |(exact Zt 10;refine mfo 18 ?_)
 |(exact Zt 11;refine mq 0 rfl (ab (vs:=(flL f a)) rfl rfl rfl (Src.r 5 rfl) rfl rfl ob) ?_)
 |(exact Zt 12;refine mq 1 rfl (ab (vs:=(di y G U V gc uc vc)) rfl rfl rfl (Src.r 4 rfl) rfl rfl ob) ?_)
 |(exact Zt 13;refine mq 1 rfl (ldR 0) ?_)
 |(exact Zt 14;refine mq 1 rfl (nkR 10) ?_)
 |(exact Zt 15;refine mq 2 rfl (faR 0) ?_)
 exact zq.h):Xo n Q P:=zh
theorem KK (zh:Xo n Q P:=by
 apply Zom;intro zq;rotate_left;simp
 first
 |(exact Zt 1;refine mq 2 rfl (faR 10) ?_)
 |(exact Zt 2;refine mq 3 rfl (ldR 0) ?_)
 |(exact Zt 3;refine mq 4 rfl (faR 0) ?_)
 |(exact Zt 4;refine mq 6 rfl (faR 10) ?_)
 |(exact Zt 5;refine qrt [0] [] [_,_,_] rfl rt ?_)
 |(exact Zt 6;refine qrt [1,0,1,1] [] [_,_] rfl ⟨⟨_,_,0,_,rfl,rfl,Src.o 0 rfl,.inl ⟨rfl,by decide,_,rfl,rfl,rfl⟩⟩,rfl,trivial⟩ ?_)
 |(exact Zt 7;refine qrt [2,1,0] [] [_,_] rfl ⟨⟨_,_,0,_,rfl,rfl,Src.o 0 rfl,.inl ⟨rfl,by decide,_,rfl,rfl,rfl⟩⟩,rfl,trivial⟩ ?_)
 |(exact Zt 8;refine sp (GU rfl rfl rfl) ?_)
 |(exact Zt 9;refine sp (cn (k:=i) (m:=i*3) rfl rfl rfl rfl rfl rfl oe (Src.r 1 rfl) (dx (k:=i) oe) rfl) ?_)
 |(exact Zt 10;refine sp (cn (k:=i) (m:=i*5) rfl rfl rfl rfl rfl rfl oe (Src.r 1 rfl) (lP (k:=i) oe) rfl) ?_)
 |(exact Zt 11;refine sp (ab (vs:=[_,_,_,_,_]) rfl rfl rfl (Src.o 1 rfl) rfl rfl ob) ?_)
 |(exact Zt 12;refine sp (ab rfl rfl rfl (Src.o 2 rfl) rfl rfl ob) ?_)
 |(exact Zt 13;refine sp (ab rfl rfl rfl (Src.r 2 rfl) rfl rfl ob) ?_)
 |(exact Zt 14;refine sp (ab rfl rfl rfl (Src.r 3 rfl) rfl rfl ob) ?_)
 |(exact Zt 15;refine sq (cL rfl rfl rfl rfl) ?_)
 exact zq.h):Xo n Q P:=zh
theorem KJ (zh:Xo n Q P:=by
 apply Zom;intro zq;rotate_left;simp
 first
 |(exact Zt 1;refine sq (ae (k:=k) rfl rfl rfl rfl rfl rfl rfl oe (Src.r 0 rfl) oG) ?_)
 |(exact Zt 2;refine sq (faO 1) ?_)
 |(exact Zt 3;refine sq (ldO 1) ?_)
 |(exact Zt 4;refine ⟨by rw [hE];rfl,rfl,?_⟩)
 |(exact Zt 5;rw [List.getD_eq_getElem?_getD,List.getElem?_eq_getElem h])
 |(exact Zt 6;rw [zi hfn.1 hf.agree ha _ rfl])
 |(exact Zt 7;rw [if_pos oe])
 |(exact Zt 8;rw [tL hL])
 |(exact Zt 9;simp only [binOp])
 |(exact Zt 13;apply Y 0x604fbee)
 |(exact Zt 14;(have y1:(rwM (rdC inn out S (ah ops)) S (rdN inn out S) (ah ops) (k+1))=(rwM (rdC inn out S (ah ops)) S (rdN inn out S) (ah ops) k):=Bp hsk);revert y1)
 |(exact Zt 15;(have y1:(t+1)*S=t*S+S:=Nat.succ_mul t S);revert y1)
 exact zq.h):Xo n Q P:=zh
theorem KI (zh:Xo n Q P:=by
 apply Zom;intro zq;rotate_left;simp
 first
 |(exact Zt 1;(have y1:(t:Int)*(S:Int)=((t*S:Nat):Int):=(Int.natCast_mul t S).symm);revert y1)
 |(exact Zt 2;(have y1:il ls.length u (ls.getD u []) j:=oaf);revert y1)
 |(exact Zt 3;(have y1:Stp w w' (fun _=>False):=⟨hs'.ext.os,hs'.ext.tape,hs'.ext.output,hs'.ext.size,fun k hk hn=>hs'.ext.block k hk hn⟩);revert y1)
 |(exact Zt 4;(have y1:args.length≤fn.ntmps:=obK);revert y1)
 |(exact Zt 5;(have y1:f.Ok:=⟨os1,os2,on1,on2,owl,odl,orows,ol1,ol2,owear⟩);revert y1)
 |(exact Zt 6;(have y1:mkP lf inn out sz n ops ol=Pp.zero:=yu oa7);revert y1)
 |(exact Zt 7;(have y1:seq.length≤64:=oe);revert y1)
 |(exact Zt 8;(have y1:syS inn out ops=ah ops:=oam);revert y1)
 |(exact Zt 9;(have y1:t*S≤64*4096:=Nat.mul_le_mul oe hS2);revert y1)
 |(exact Zt 10;(have y1:us.length*f.size≤64*4096:=Nat.mul_le_mul oe oe);revert y1)
 |(exact Zt 11;(have y1:¬(¬(0≤sec∧sec≤(f.data.length:Int)-1)∨want.length≠f.size):=oe);revert y1)
 |(exact Zt 12;(have y1:=(List.getElem?_eq_some_iff.1 h2).1);revert y1)
 |(exact Zt 13;(have y1:=(mem_ready.1 hr).1);revert y1)
 |(exact Zt 14;(have y1:=eX a b a.length);revert y1)
 |(exact Zt 15;(have y1:=mj (by rw [hE];decide:cntE false (S:Int) (n:Int) (m:Int) out ops seq st data fs ls lst (kk:Int)≠0));revert y1)
 exact zq.h):Xo n Q P:=zh
theorem KH (zh:Xo n Q P:=by
 apply Zom;intro zq;rotate_left;simp
 first
 |(exact Zt 1;(have y1:=congrArg List.length hf1);revert y1)
 |(exact Zt 2;(have y1:=b9 old t S);revert y1)
 |(exact Zt 3;(have y1:=MU hl1 hl5 (show p6.toNat<y.gs.length by omega));revert y1)
 |(exact Zt 4;(have y1:=FQ hlay);revert y1)
 |(exact Zt 5;(have y1:=tB (by rw [hE];decide:dM lf sz n inn out ops seq st old≠0));revert y1)
 |(exact Zt 6;(have y1:=orows (y.gs.getD p6.toNat 0).toNat oe);revert y1)
 |(exact Zt 7;(have y1:=iD (rec:=rec) (size:=size) oe);revert y1)
 |(exact Zt 8;(have y1:=lN hbig hdone);revert y1)
 |(exact Zt 9;(have y1:=v8 hvl);revert y1)
 |(exact Zt 10;(have y1:=x.u_le);revert y1)
 |(exact Zt 11;(obtain ⟨y1,y2,-⟩:=lK (n:=n) (l:=l) i);revert y1 y2)
 |(exact Zt 12;(obtain ⟨y1,y2,y3,-,-,-⟩:=eI.1 hvl);revert y1 y2 y3)
 |(exact Zt 13;(obtain ⟨y1,y2,y3,y4,y5,y6⟩:=fM hE0);revert y1 y2 y3 y4 y5 y6)
 |(exact Zt 14;(obtain ⟨y1,y2⟩:∃ u,xs[0]?=some u:=⟨_,List.getElem?_eq_getElem h0⟩);revert y1 y2)
 |(exact Zt 15;(rintro y1 y2 ⟨y3,y4,y5,y6⟩);revert y1 y2 y3 y4 y5 y6)
 exact zq.h):Xo n Q P:=zh
theorem KG (zh:Xo n Q P:=by
 apply Zom;intro zq;rotate_left;simp
 first
 |(exact Zt 1;(rintro y1 ⟨y2,y3,y4,y5⟩);revert y1 y2 y3 y4 y5)
 |(exact Zt 15;refine aE [] trivial ?_)
 exact zq.h):Xo n Q P:=zh
theorem KF (zh:Xo n Q P:=by
 apply Zom;intro zq;rotate_left;simp
 first
 |(exact Zt 1;refine aE [_,_,_,_,_,_,_,_,_,_,_,_,_,_,_] (Hq [0,1,2,3,4,5,6,7,8,9,10,11,12,13,14] rfl) ?_)
 |(exact Zt 2;refine aE [_,_,_,_,_,_,_,_,_,_,_,_,_,_] (Hq [0,1,2,3,4,5,6,7,8,9,10,11,12,13] rfl) ?_)
 |(exact Zt 3;refine aE [_,_,_,_,_,_,_,_] (Hq [0,1,2,3,4,5,6,7] rfl) ?_)
 |(exact Zt 4;refine aE [_,_,_,_,_,_,_] (Hq [0,1,2,3,4,5,6] rfl) ?_)
 |(exact Zt 5;refine aE [_,_,_,_,_,_,_] ⟨Has.r 0 rfl,Has.r 1 rfl,Has.r 2 rfl,Has.r 3 rfl,Has.r 4 rfl,Has.r 5 rfl,Has.o 1 rfl,trivial⟩ ?_)
 |(exact Zt 6;refine L.append (j:=1) rfl rfl rfl rfl ob rfl rfl rfl rfl (Src.r 4 rfl) Oe (Aq _) oe oH rfl ?_)
 |(exact Zt 7;refine L.append (j:=2) rfl rfl rfl rfl ob rfl rfl rfl rfl (Src.r 3 rfl) oY (cY _) oe oU rfl ?_)
 |(exact Zt 11;refine L.box rfl rfl rfl ?_)
 |(exact Zt 13;refine L.cap 0 rfl ?_)
 |(exact Zt 14;refine L.kcaps 1 rfl ?_)
 |(exact Zt 15;refine Do (j:=0) rfl rfl rfl rfl rfl rfl rfl rfl ?_)
 exact zq.h):Xo n Q P:=zh
theorem KE (zh:Xo n Q P:=by
 apply Zom;intro zq;rotate_left;simp
 first
 |(exact Zt 1;refine L.store (j:=3) rfl rfl rfl rfl rfl rfl rfl rfl ?_)
 |(exact Zt 2;refine cO (j:=6) rfl rfl rfl rfl rfl (Nat.zero_lt_succ _) rfl rfl ?_)
 |(exact Zt 4;refine LA.alt [0] oa ob ⟨⟨_,rfl,?_⟩,trivial⟩)
 |(exact Zt 7;refine fx 21 rfl oa trivial ?_)
 |(exact Zt 8;refine fx 34 rfl oa trivial ?_)
 |(exact Zt 9;refine fx 36 rfl oa trivial ?_)
 |(exact Zt 10;refine LM.q 0 rfl oa (Ev.pure rfl) rfl trivial ?_)
 |(exact Zt 11;refine LM.q 1 rfl oa (Ev.pure rfl) rfl trivial ?_)
 |(exact Zt 12;refine LM.q 2 rfl oa (Ev.pure rfl) rfl trivial ?_)
 |(exact Zt 15;refine LQ.nil ?_)
 exact zq.h):Xo n Q P:=zh
theorem KD (zh:Xo n Q P:=by
 apply Zom;intro zq;rotate_left;simp
 first
 |(exact Zt 1;refine GM rfl ?_)
 |(exact Zt 2;refine zY (js:=[]) (hs:=[]) (vs:=[_]) nm rfl rt ob ?_)
 |(exact Zt 3;refine GK (js:=[0]) (hs:=[]) (j0:=[1,2,3]) (j1:=[]) (vs:=[_,_,_]) (lG A8 A9 A10 _) rfl rfl ob rfl ⟨⟨_,_,0,_,rfl,rfl,Src.o 0 rfl,.inl ⟨rfl,by decide,_,rfl,rfl,rfl⟩⟩,⟨_,_,0,_,rfl,rfl,Src.o 1 rfl,.inr ⟨rfl,rfl⟩⟩,⟨_,_,0,_,rfl,rfl,Src.o 2 rfl,.inr ⟨rfl,rfl⟩⟩,trivial⟩ ob ?_)
 |(exact Zt 4;refine r6 (js:=[]) (hs:=[]) (vs:=[_]) nm rfl rt ob ?_)
 |(exact Zt 6;refine cnr [_,_,_,_,_] [0,1,2,3,4] ?_)
 |(exact Zt 7;refine al (C2 (bh (a.hs.getD (aj f y.a y.b).sec.toNat (none,0)).1 (a.hs.getD (aj f y.a y.b).sec.toNat (none,0)).2 (8+30*k) 1) ((a.hs.getD (aj f y.a y.b).sec.toNat (none,0)).2-(8+30*k)) (cf (f.data.getD (aj f y.a y.b).sec.toNat []) k) oe) ?_)
 |(exact Zt 8;refine al (IR _ _ _) ?_)
 |(exact Zt 9;refine mq 0 rfl (ab (vs:=(flL f a)) rfl rfl rfl (Src.r 4 rfl) rfl rfl ob) ?_)
 |(exact Zt 10;refine mq 1 rfl (ab (vs:=(di y G U V gc uc vc)) rfl rfl rfl (Src.r 3 rfl) rfl rfl ob) ?_)
 |(exact Zt 11;refine mq 12 rfl (Ev.build rfl rfl rfl rfl rfl rfl rfl) ?_)
 |(exact Zt 12;refine mq 12 rfl (Ev.pure rfl) ?_)
 |(exact Zt 13;refine mq 13 rfl (Ev.pure rfl) ?_)
 |(exact Zt 14;refine mq 16 rfl (Ev.pure rfl) ?_)
 |(exact Zt 15;refine mq 3 rfl (faR 10) ?_)
 exact zq.h):Xo n Q P:=zh
theorem KC (zh:Xo n Q P:=by
 apply Zom;intro zq;rotate_left;simp
 first
 |(exact Zt 1;refine mq 5 rfl (faR 0) ?_)
 |(exact Zt 2;refine mq 5 rfl (ldR 0) ?_)
 |(exact Zt 3;refine mq 5 rfl (nkR 10) ?_)
 |(exact Zt 4;refine mq 7 rfl (Ev.pure rfl) ?_)
 |(exact Zt 5;refine mq 7 rfl (faR 10) ?_)
 |(exact Zt 6;refine mq 8 rfl (faR 10) ?_)
 |(exact Zt 7;refine mq 9 rfl (ldR 10) ?_)
 |(exact Zt 8;refine qrt [1,0] [] [_] rfl ⟨⟨_,_,0,_,rfl,rfl,Src.o 0 rfl,.inl ⟨rfl,by decide,_,rfl,rfl,rfl⟩⟩,trivial⟩ ?_)
 |(exact Zt 9;refine qrt [4,0,1,3] [] [_,_] rfl ⟨⟨_,_,0,_,rfl,rfl,Src.o 0 rfl,.inl ⟨rfl,by decide,_,rfl,rfl,rfl⟩⟩,rfl,trivial⟩ ?_)
 |(exact Zt 10;refine sp (Ak rfl rfl) ?_)
 |(exact Zt 11;refine sp (fU rfl rfl rfl rfl rfl rfl rfl) ?_)
 |(exact Zt 12;refine sp (Ev.cast (u:=.int .i64 (((n-(ptS n l i).2):Nat):Int)) (Ev.sub rfl rfl oe oe) (congrArg (Value.int .i64) oe)) ?_)
 |(exact Zt 13;refine sp (Ev.cast (u:=.int .i64 (((t*S:Nat)):Int)) (Ev.mul rfl rfl QP QP) (congrArg (Value.int .i64) m1)) ?_)
 |(exact Zt 14;refine sp (Ev.cast (u:=.int .i64 (max inn out)) (Ev.pure rfl) (congrArg (Value.int .i64) O7)) ?_)
 |(exact Zt 15;refine sp (Ev.fieldAddr rfl rfl rfl rfl rfl rfl (Src.r 1 rfl) (dx (k:=i) oe) rfl) ?_)
 exact zq.h):Xo n Q P:=zh
theorem KB (zh:Xo n Q P:=by
 apply Zom;intro zq;rotate_left;simp
 first
 |(exact Zt 1;refine sp (cn (k:=i) (m:=i*3) rfl rfl rfl rfl rfl rfl oe (Src.r 0 rfl) (iQ (k:=i) oe) rfl) ?_)
 |(exact Zt 2;refine sp (cn (k:=k) (m:=k*2) rfl rfl rfl rfl rfl rfl hk2 (Src.r 0 rfl) (bA hk2) rfl) ?_)
 |(exact Zt 3;refine sp (ae (k:=u) rfl rfl rfl rfl rfl rfl rfl oe (Src.r 0 rfl) O0) ?_)
 |(exact Zt 4;refine sp (ae (k:=x.sec.toNat) rfl rfl rfl rfl rfl rfl oe oe (Src.o 2 rfl) ov) ?_)
 |(exact Zt 5;refine sp (av (k:=1) (m:=2) rfl rfl rfl rfl rfl rfl ob (Src.r 0 rfl) oX rfl) ?_)
 |(exact Zt 6;refine sp (ab (vs:=(flL f a)) rfl rfl rfl (Src.r 5 rfl) rfl rfl ob) ?_)
 |(exact Zt 7;refine sp (ab (vs:=(di y G U V gc uc vc)) rfl rfl rfl (Src.r 4 rfl) rfl rfl ob) ?_)
 |(exact Zt 8;refine sp (ab (vs:=[_,_,_,_,_,_,_,_,_]) rfl rfl rfl (Src.r 0 rfl) rfl rfl ob) ?_)
 |(exact Zt 9;refine sp (faR 19) ?_)
 |(exact Zt 10;refine sp (ldR 19) ?_)
 |(exact Zt 11;refine sq (faR 2) ?_)
 |(exact Zt 12;refine sq (ldR 2) ?_)
 |(exact Zt 14;rw [Array.getElem?_append_left obC])
 |(exact Zt 15;rw [List.all_eq_true])
 exact zq.h):Xo n Q P:=zh
theorem KA (zh:Xo n Q P:=by
 apply Zom;intro zq;rotate_left;simp
 first
 |(exact Zt 1;rw [List.find?_eq_none])
 |(exact Zt 2;rw [List.getD_eq_getElem?_getD,List.getElem?_eq_getElem h1])
 |(exact Zt 3;rw [List.range_succ,List.all_append])
 |(exact Zt 4;rw [ye (.inl hno)])
 |(exact Zt 5;rw [ye (.inr hno)])
 |(exact Zt 6;rw [rz (show (aK f y.a y.b)=aq f y.a y.b from cM hyes) (show (aK f y.a y.b).found=true by rw [cM hyes];exact hyes) hright hne hlt hrd])
 |(exact Zt 7;rw [D5,D5,Lf])
 |(exact Zt 8;rw [m6 (s:=[p0,p1,p2,p3,p4,p5,p6,p7,p8]) hc16 (fun q=>hc44 q.2)])
 |(exact Zt 9;rw [show (sgF f y [p0,p1,p2,p3,p4,p5,p6,p7,p8] c)=(aR f y.a y.b [p0,p1,(p2+1),p3,p4,p5,p6,p7,p8]) from Eq.trans (m6 (s:=[p0,p1,p2,p3,p4,p5,p6,p7,p8]) (Int.not_le.2 hsg) (fun q=>hc41 q.2)) (ea hge hc53)])
 |(exact Zt 10;rw [mT oe hc36 hxe hc70])
 |(exact Zt 11;rw [km oe hc36 hxe oe])
 |(exact Zt 12;show Leaves X.P fn a.tmps _ a.defers .returning w)
 |(exact Zt 13;simp only [Region.wanted,hy])
 exact zq.h):Xo n Q P:=zh
theorem Kz (zh:Xo n Q P:=by
 apply Zom;intro zq;rotate_left;simp
 first
 |(exact Zt 2;(have y1:((t+1:Nat):Int)*(S:Int)=(((t+1)*S:Nat):Int):=(Int.natCast_mul (t+1) S).symm);revert y1)
 |(exact Zt 3;(have y1:(List.toArray as).map ρ=List.toArray args:=Qt);revert y1)
 |(exact Zt 4;(have y1:(aH (ah ops) inn S (t+1)).length=(aH (ah ops) inn S t).length+1:=qf);revert y1)
 |(exact Zt 5;(have y1:(ptS n l i).2=n:=oe);revert y1)
 |(exact Zt 6;(have y1:(zeroValue e).run X.P w=.ok ei.zero w:=Qk);revert y1)
 |(exact Zt 7;(have y1:8+(ax s).length≤f.size:=sK hft.2.2.2.2.2);revert y1)
 |(exact Zt 8;(have y1:cntE false (S:Int) (n:Int) (m:Int) out ops seq st data (S:Int) (n:Int) lst (kk:Int)=_:=pa hvl oe qL);revert y1)
 |(exact Zt 9;(have y1:j∉js:=by simpa using hjj);revert y1)
 |(exact Zt 10;(have y1:k*f.size≤64*4096:=Nat.mul_le_mul oe oe);revert y1)
 |(exact Zt 11;(have y1:ptF n l=(ptS n l i).1:=by unfold ptF ptE;rw [hB,if_neg oe]);revert y1)
 |(exact Zt 12;(have y1:¬ (k:Int)<0:=oe);revert y1)
 |(exact Zt 13;(have y1:∀ k,bM s (k+1)=bM s k++c6 (s.getD k 0).toNat (wds.getD k 0):=gW s);revert y1)
 |(exact Zt 14;(have y1:=Own.len hown);revert y1)
 |(exact Zt 15;(have y1:=Db hok hu);revert y1)
 exact zq.h):Xo n Q P:=zh
theorem Ky (zh:Xo n Q P:=by
 apply Zom;intro zq;rotate_left;simp
 first
 |(exact Zt 1;(have y1:=jV (rec.drop 1));revert y1)
 |(exact Zt 2;(have y1:=gw (ah ops) inn S t);revert y1)
 |(exact Zt 3;(have y1:=mo ops out k3 k6);revert y1)
 |(exact Zt 4;(have y1:=mj (by rw [hE];decide:cntE false (S:Int) (n:Int) (m:Int) out ops seq st data (S:Int) (n:Int) lst (kk:Int)≠0));revert y1)
 |(exact Zt 5;(have y1:=fu hρ ha);revert y1)
 |(exact Zt 6;(have y1:=h.own j _ hj);revert y1)
 |(exact Zt 7;(have y1:=h.val);revert y1)
 |(exact Zt 8;(have y1:=hg 0 f0 rfl);revert y1)
 |(exact Zt 9;(have y1:=hg 1 f1 rfl);revert y1)
 |(exact Zt 10;(have y1:=hsat.own j _ hj);revert y1)
 |(exact Zt 11;(have y1:=orows k oe);revert y1)
 |(exact Zt 12;(have y1:=DT (inn:=inn) (out:=out) (S:=S) (i:=k) oe oe);revert y1)
 |(exact Zt 13;(have y1:=bW (ah ops) inn S (rdN inn out S) (rdN inn out S));revert y1)
 |(exact Zt 14;(have y1:=Fm (n:=n) hS1 r4 r3);revert y1)
 |(exact Zt 15;(have y1:=xe (P:=X.P) w (X.ok _ _ ht));revert y1)
 exact zq.h):Xo n Q P:=zh
theorem Kx (zh:Xo n Q P:=by
 apply Zom;intro zq;rotate_left;simp
 first
 |(exact Zt 1;(have y1:=kv (f.data.getD (aj f y.a y.b).sec.toNat []) (aj f y.a y.b) k);revert y1)
 |(exact Zt 2;(have y1:=iv seq);revert y1)
 |(exact Zt 3;(obtain ⟨y1,y2,y3⟩:=id hk);revert y1 y2 y3)
 |(exact Zt 4;(obtain ⟨y1,y2,y3⟩:=aD hd);revert y1 y2 y3)
 |(exact Zt 5;(rintro _ _ _ ⟨y1,y2,y3,y4,y5,y6,rfl,rfl,rfl⟩);revert y1 y2 y3 y4 y5 y6)
 |(exact Zt 6;(rintro ⟨y1,y2⟩ ⟨y3,y4,y5,y6⟩);revert y6;revert y5;revert y4;revert y3;revert y2;revert y1)
 exact zq.h):Xo n Q P:=zh
theorem Kw (zh:Xo n Q P:=by
 apply Zom;intro zq;rotate_left;simp
 first
 |(exact Zt 6;refine (hfn.useR hj hj' hn hR hs).mono ?_)
 |(exact Zt 7;refine C.le (Γ':=[(0,.slice LA l.length lc),(1,.int .i64 (n:Int)),(4,ag A4 0),(5,ag A5 0),(6,.int .i64 (i:Int)),(8,ag A8 0)]) (R':=[Rd LA (pI l)]) (H':=[Own 40 4 A4 1 1 [.bool false,.int .i64 0,.int .i64 0,.slice none 0 0],Own 40 4 A5 1 1 [.bool false,.int .i64 (n:Int),.int .i64 ((ptS n l i).2:Nat),.slice A (ptS n l i).1.length c],Own 157 5 A (ptS n l i).1.length c (ck (ptS n l i).1),Own 157 5 A8 1 1 (Po.cells (ptO n (ptS n l i).2 (l.getD i (0,0,0))))]) (by exact lk [0] [0,1,2,3] (hh:=⟨rfl,rfl,rfl,(congrArg some (ay rfl (by rw [hbk];rfl))),trivial⟩)) ?_)
 |(exact Zt 8;refine C.more (r:=aS [] []) Has.kids0 ?_)
 |(exact Zt 9;refine aE (flR f a++[Rd G (I64 y.gs),Rd U (I64 y.us),Rd V (I64 y.ls),Rd OA (ck k.pl.ops),Rd QA (I64 k.pl.seq),Rd HA (I64 k.pl.st),Rd M (mcA f a y G U V gc uc vc (.int .i64 p0::.int .i64 p1::.int .i64 p2::.int .i64 p3::.int .i64 p4::.int .i64 p5::.int .i64 p6::.int .i64 p7::.int .i64 p8::mcK k OA QA HA oc qc hc (rv::.int .i64 0::.int .i64 0::.int .i64 0::.slice none 0 0::.bool false::[])))]) ⟨Has.r 0 rfl,Has.r 1 rfl,Has.r 2 rfl,Has.r 3 rfl,Has.r 4 rfl,Has.r 5 rfl,Has.r 6 rfl,Has.r 7 rfl,Has.r 8 rfl,Has.r 9 rfl,Has.o 0 rfl,trivial⟩ ?_)
 |(exact Zt 10;refine aE [_,_,_,_] (Hq [0,1,2,3] rfl) ?_)
 |(exact Zt 11;refine L.append (j:=1) rfl rfl rfl rfl ob rfl rfl rfl rfl (Src.o 0 rfl) Q4 (bQ _) oe oH rfl ?_)
 |(exact Zt 12;refine L.append (j:=2) rfl rfl rfl rfl ob rfl rfl rfl rfl (Src.o 3 rfl) rfl (DY _) oe Q1 rfl ?_)
 |(exact Zt 13;refine L.append (j:=2) rfl rfl rfl rfl ob rfl rfl rfl rfl (Src.o 4 rfl) rfl (DY _) oe Q1 rfl ?_)
 exact zq.h):Xo n Q P:=zh
theorem Kv (zh:Xo n Q P:=by
 apply Zom;intro zq;rotate_left;simp
 first
 |(exact Zt 15;refine L.call (js:=[]) (js':=[0,1,2]) (lU IA ((dX f y.n).take p.inn.toNat) ic p.sz p.n p.lf p.inn p.out p.ops p.seq p.st OA QA HA oc qc hc hpl.1 hpl.2.1 hpl.2.2 oN oN) rfl rfl rfl ob ⟨((Has.take (Has.o 0 rfl) p.inn.toNat).cast (bu _ _)),(Has.r 11 rfl),(Has.r 12 rfl),(Has.r 13 rfl),trivial⟩ rfl ?_)
 exact zq.h):Xo n Q P:=zh
theorem Ku (zh:Xo n Q P:=by
 apply Zom;intro zq;rotate_left;simp
 first
 |(exact Zt 3;refine L.freeze 0 rfl [1,2,3] ob ob ?_)
 |(exact Zt 4;refine L.freeze 0 rfl [1,2] ob ob ?_)
 |(exact Zt 5;refine mI (cs:=Po.cells (ptO n (ptS n l i).2 (l.getD i (0,0,0)))) rfl rfl rfl rfl (Nat.zero_lt_succ _) rfl rfl rfl ?_)
 |(exact Zt 6;refine mI (cs:=Po.cells (⟨1,((ptS n l i).2:Int),((n-(ptS n l i).2:Nat):Int),0⟩:Po)) rfl rfl rfl rfl (Nat.zero_lt_succ _) rfl rfl rfl ?_)
 |(exact Zt 12;refine fx 19 rfl oa trivial ?_)
 |(exact Zt 13;refine fx 22 rfl oa trivial ?_)
 |(exact Zt 14;refine fx 23 rfl oa trivial ?_)
 |(exact Zt 15;refine fx 35 rfl oa trivial ?_)
 exact zq.h):Xo n Q P:=zh
theorem Kt (zh:Xo n Q P:=by
 apply Zom;intro zq;rotate_left;simp
 first
 |(exact Zt 1;refine LM.q 4 rfl oa (Ev.pure rfl) rfl trivial ?_)
 |(exact Zt 2;refine LM.q 5 rfl oa (Ev.pure rfl) rfl trivial ?_)
 |(exact Zt 3;refine LM.q 8 rfl oa (Ev.pure rfl) rfl trivial ?_)
 |(exact Zt 4;refine LM.q 9 rfl oa (Ev.pure rfl) rfl trivial ?_)
 |(exact Zt 5;refine N4 ?_)
 |(exact Zt 11;refine QE.norm (H':=[_,_,_]) [0,1,2] rt ob ?_)
 |(exact Zt 12;refine fe (js:=[0]) (hs:=[0]) (vs:=[_]) rfl rt ob ?_)
 |(exact Zt 13;refine fe (js:=[]) (hs:=[0]) (vs:=[_]) rfl rt ob ?_)
 exact zq.h):Xo n Q P:=zh
theorem Ks (zh:Xo n Q P:=by
 apply Zom;intro zq;rotate_left;simp
 first
 |(exact Zt 1;refine cfz 1 [0,2,3,4,5] ?_)
 |(exact Zt 2;refine cfz 3 [0,1,2] ?_)
 |(exact Zt 3;refine hK _ _ (h _ _ ?_ hs))
 |(exact Zt 4;refine hK _ _ (hh _ _ (hf.put_none _) ?_))
 |(exact Zt 5;refine al (zN f a hok hh x XA xc hxl hc17) ?_)
 |(exact Zt 6;refine al (rH IA (dX f y.n) ic p.inn.toNat hic) ?_)
 |(exact Zt 7;refine al (xp lf inn out ops OA oc hops) ?_)
 |(exact Zt 8;refine al (BB s) ?_)
 |(exact Zt 9;refine al (wj lf inn out ops OA oc hops) ?_)
 |(exact Zt 10;refine aL (s7 (ao y.a (an f.size 1 (ax s)) 3 f).1 b hk.1 hb hbc y.b (an f.size 0 []) QO f.size f.size (bZ (slot:=[]) O8) hk.2.1.symm ⟨by omega,by rw [hk.2.2];omega⟩) ?_)
 |(exact Zt 11;refine aL (s7 f a hok hh hcap y.a (an f.size 1 (ax s)) WO f.size f.size (bZ hfit) rfl ⟨hft.2.1,hft.2.2.2.1⟩) ?_)
 |(exact Zt 12;refine aL (eJ f a hok hh y G U V gc uc vc hyn hyl hcap (aO f (y.gs.getD p6.toNat 0) c) XA xc [p0,p1,(p2+1),p3,p4,p5,p6,p7,p8] rfl) ?_)
 |(exact Zt 13;refine aL (iR f a hok hh (y.gs.getD p6.toNat 0) c CA c.length cc rfl oe) ?_)
 |(exact Zt 14;refine mq 0 rfl (ab (vs:=(flL f a)) rfl rfl rfl (Src.r 2 rfl) rfl rfl ob) ?_)
 |(exact Zt 15;refine mq 0 rfl (ab rfl rfl rfl (Src.r 1 rfl) rfl rfl ob) ?_)
 exact zq.h):Xo n Q P:=zh
theorem Kr (zh:Xo n Q P:=by
 apply Zom;intro zq;rotate_left;simp
 first
 |(exact Zt 1;refine mq 0 rfl (ab rfl rfl rfl (Src.r 5 rfl) rfl rfl ob) ?_)
 |(exact Zt 2;refine mq 1 rfl (faR 2) ?_)
 |(exact Zt 3;refine mq 11 rfl (faR 1) ?_)
 |(exact Zt 4;refine mq 12 rfl (ldR 1) ?_)
 |(exact Zt 5;refine mq 15 rfl (Ev.pure rfl) ?_)
 |(exact Zt 6;refine mq 18 rfl (Ev.pure rfl) ?_)
 |(exact Zt 7;refine mq 2 rfl (ldR 2) ?_)
 |(exact Zt 8;refine mq 2 rfl (nkR 10) ?_)
 |(exact Zt 9;refine mq 3 rfl (faR 5) ?_)
 |(exact Zt 10;refine mq 3 rfl (ldR 1) ?_)
 |(exact Zt 11;refine mq 6 rfl (ldR 0) ?_)
 |(exact Zt 12;refine qrt [0] [] [_,_,_] rfl ⟨⟨_,_,0,_,rfl,rfl,Src.o 1 rfl,.inl ⟨rfl,by decide,_,rfl,rfl,rfl⟩⟩,rfl,rfl,trivial⟩ ?_)
 |(exact Zt 13;refine qrt [] [2] [_,_] rfl rt ?_)
 |(exact Zt 14;refine qrt [] [2] [_] rfl rt ?_)
 |(exact Zt 15;refine sp ((Ev.cast (u:=.int .u64 (0)) (Ev.shr rfl rfl ob) (congrArg (Value.int .u64) ob))) ?_)
 exact zq.h):Xo n Q P:=zh
theorem Kq (zh:Xo n Q P:=by
 apply Zom;intro zq;rotate_left;simp
 first
 |(exact Zt 1;refine sp ((Ev.cast (u:=.int .u64 (1)) (Ev.pure rfl) (congrArg (Value.int .u64) ob))) ?_)
 |(exact Zt 2;refine sp (Ev.cast (u:=.int .i64 ((((ptS n l i).2+(ptO n (ptS n l i).2 (l.getD i (0,0,0))).ln.toNat):Nat):Int)) (Ev.add rfl rfl oe oe) (congrArg (Value.int .i64) oe)) ?_)
 |(exact Zt 3;refine sp (Ev.cast (u:=.int .i64 ((((t+1)*S:Nat)):Int)) (Ev.mul rfl rfl oah oah) (congrArg (Value.int .i64) m2)) ?_)
 |(exact Zt 4;refine sp (Ev.cast (u:=.int .i64 (((t+1):Nat):Int)) (Ev.add rfl rfl oe oe) (congrArg (Value.int .i64) oe)) ?_)
 |(exact Zt 5;refine sp (Ev.fieldAddr rfl rfl rfl rfl rfl rfl (Src.r 0 rfl) (bA hk2) rfl) ?_)
 |(exact Zt 6;refine sp (ae (k:=0) rfl rfl rfl rfl rfl rfl rfl oe (Src.r 0 rfl) oG) ?_)
 |(exact Zt 7;refine sp (ae (k:=i) rfl rfl rfl rfl rfl rfl rfl oe (Src.r 0 rfl) ov) ?_)
 |(exact Zt 8;refine sp (ae (k:=k) rfl rfl rfl rfl rfl rfl rfl oe (Src.r 0 rfl) oG) ?_)
 |(exact Zt 9;refine sp (ae (k:=k) rfl rfl rfl rfl rfl rfl rfl oe (Src.r 0 rfl) ov) ?_)
 |(exact Zt 10;refine sp (ae (k:=sec.toNat) rfl rfl rfl rfl rfl rfl oe oe (Src.r 1 rfl) ow) ?_)
 |(exact Zt 11;refine sp (av (k:=0) (m:=1) rfl rfl rfl rfl rfl rfl ob (Src.r 0 rfl) oX rfl) ?_)
 |(exact Zt 12;refine sp (av (k:=1) (m:=10) rfl rfl rfl rfl rfl rfl ob (Src.r 19 rfl) (Nat.zero_lt_succ _) rfl) ?_)
 |(exact Zt 13;refine sp (Ev.load rfl rfl rfl (Src.r 1 rfl) (bp oe)) ?_)
 |(exact Zt 14;refine sp (ab (vs:=(flL f a)) rfl rfl rfl (Src.r 3 rfl) rfl rfl ob) ?_)
 |(exact Zt 15;refine sp (ab (vs:=(di x.lay c.G c.U c.V c.gc c.uc c.vc)) rfl rfl rfl (Src.r 10 rfl) rfl rfl ob) ?_)
 exact zq.h):Xo n Q P:=zh
theorem Kp (zh:Xo n Q P:=by
 apply Zom;intro zq;rotate_left;simp
 first
 |(exact Zt 1;refine sp (ab (vs:=(di y G U V gc uc vc)) rfl rfl rfl (Src.r 2 rfl) rfl rfl ob) ?_)
 |(exact Zt 2;refine sp (ab (vs:=Po.cells (ops.getD i Po.zero)) rfl rfl rfl (Src.r 1 rfl) (lQ ops i oe) rfl ob) ?_)
 |(exact Zt 3;refine sp (ab (vs:=Po.cells (ptO n (ptS n l i).2 (l.getD i (0,0,0)))) rfl rfl rfl (Src.o 3 rfl) rfl rfl ob) ?_)
 |(exact Zt 4;refine sp (ab (vs:=[.int .i64 p0,.int .i64 p1,.int .i64 p2,.int .i64 p3,.int .i64 p4,.int .i64 p5,.int .i64 p6,.int .i64 p7,.int .i64 p8]) rfl rfl rfl (Src.o 0 rfl) rfl rfl ob) ?_)
 |(exact Zt 5;refine sp (ab (vs:=[_,_,_,_,_,_,_,_]) rfl rfl rfl (Src.o 1 rfl) rfl rfl ob) ?_)
 |(exact Zt 6;refine sp (ab (vs:=[_,_,_,_,_,_,_,_]) rfl rfl rfl (Src.r 2 rfl) rfl rfl ob) ?_)
 |(exact Zt 7;refine sp (ab (vs:=[_,_,_,_]) rfl rfl rfl (Src.o 2 rfl) rfl rfl ob) ?_)
 |(exact Zt 8;refine sp (Dz rfl rfl rfl) ?_)
 |(exact Zt 9;refine sp (Ag rfl rfl rfl) ?_)
 |(exact Zt 10;refine sp (bn (h:=0) rfl rfl rfl rfl rfl rfl (Nat.zero_le _)) ?_)
 |(exact Zt 11;refine sq (Ak rfl rfl) ?_)
 |(exact Zt 12;refine sq (ae (k:=i) rfl rfl rfl rfl rfl rfl rfl oe (Src.r 0 rfl) ov) ?_)
 |(exact Zt 13;refine sq (ae (k:=k) rfl rfl rfl rfl rfl rfl rfl oe (Src.r 1 rfl) oG) ?_)
 |(exact Zt 14;refine sq (ae (k:=k) rfl rfl rfl rfl rfl rfl rfl oe (Src.r 3 rfl) ov) ?_)
 |(exact Zt 15;refine sq (ae (k:=k) rfl rfl rfl rfl rfl rfl rfl oe (Src.r 5 rfl) oG) ?_)
 exact zq.h):Xo n Q P:=zh
theorem Ko (zh:Xo n Q P:=by
 apply Zom;intro zq;rotate_left;simp
 first
 |(exact Zt 1;refine sq (Ev.load rfl rfl rfl (Src.r 1 rfl) (bp oe)) ?_)
 |(exact Zt 2;refine sq (Ev.load rfl rfl rfl (Src.r 2 rfl) (Dm oe)) ?_)
 |(exact Zt 3;refine sq (Ev.load rfl rfl rfl (Src.r 3 rfl) (aG oe)) ?_)
 |(exact Zt 4;refine sq (Ev.load rfl rfl rfl (Src.r 5 rfl) (bp oe)) ?_)
 |(exact Zt 5;refine sq (Ev.sub rfl rfl oe oe) ?_)
 |(exact Zt 6;refine ⟨A,c,?_,rfl,rfl⟩)
 |(exact Zt 8;rw [List.length_append])
 |(exact Zt 9;rw [List.length_take,List.length_drop])
 |(exact Zt 10;rw [List.range_succ,List.find?_append,h])
 |(exact Zt 11;rw [kL hfn.1 hf.agree hg ha _ rfl,hall])
 |(exact Zt 12;rw [h a.eval w hf.agree hs _ rfl])
 |(exact Zt 13;rw [← Bool.not_eq_true,tK hb6])
 |(exact Zt 14;rw [← Int.natCast_mul])
 |(exact Zt 15;show (upI _ _).length≤1000)
 exact zq.h):Xo n Q P:=zh
theorem Kn (zh:Xo n Q P:=by
 apply Zom;intro zq;rotate_left;simp
 first
 |(exact Zt 1;show Leaves X.P fn a.tmps _ a.defers (.panicking [{ v:=pv,recovered:=false }]) w)
 |(exact Zt 2;show Value.agg (List.toArray [.bool false,.int .i64 (n:Int),.int .i64 (((ptS n l i).2:Nat):Int),.slice A (ptS n l i).1.length c])=_)
 |(exact Zt 3;simp [UInt8.ofInt,UInt8.toNat_ofNat'])
 |(exact Zt 4;simp [invoke,callFunc,run_program,hf,hname])
 |(exact Zt 5;simp only [execOp,ho,Instr.buildSlice,Sem.run_bind,run_underlying e1,Result.andThen_ok,hS,hsz,if_neg hbig,if_neg hz1,hz,Sem.run_pure,hp,hf])
 |(exact Zt 6;simp only [execOp,resolve,hfv,Deferred.ofValue,invoke,Sem.run_bind,Sem.run_pure,Result.andThen_ok,e2])
 |(exact Zt 10;apply Y 0x581f414f)
 |(exact Zt 11;(have y1:(#[(0,x)]:Array (Nat×Operand)).map (fun (i,x)=>(i,ρ x))=#[(0,.agg (List.toArray cs))]:=by simp [hρ _ _ hx]);revert y1)
 |(exact Zt 12;(have y1:((Array.range (1*cs.length)).map (ei.zero.cells[· %ei.zero.cells.size]!)).size=cs.length:=oO);revert y1)
 |(exact Zt 13;(have y1:((List.toArray ps).map fun (i,x)=>(i,ρ x)).toList=vs:=by simpa using mb hρ hv);revert y1)
 |(exact Zt 14;(have y1:(Go.store ⟨g,k,none⟩ v).run X.P w=.ok () (w.setCell ⟨g,k,none⟩ v):=oaP);revert y1)
 |(exact Zt 15;(have y1:(List.mapM (jh a.tmps) (List.toArray rs).toList).run X.P w=.ok vs w:=sU (X:=X) hf hsat hr);revert y1)
 exact zq.h):Xo n Q P:=zh
theorem Km (zh:Xo n Q P:=by
 apply Zom;intro zq;rotate_left;simp
 first
 |(exact Zt 1;(have y1:(NI chg).Nodup:=hr.imp fun h=>by omega);revert y1)
 |(exact Zt 2;(have y1:(Raw.dirt (flD x.img x.S x.n (x.n+x.more)) x.n x.S x.w3 k)=x.dat:=by rw [hkd];rfl);revert y1)
 |(exact Zt 3;(have y1:(U8 (List.replicate (min p (n-p)) x)).length=min p (n-p):=QW);revert y1)
 |(exact Zt 4;(have y1:([.int .i64 (x.S:Int),.slice b.D (x.n+x.more) b.cD,.slice b.W (x.n+x.more) b.cW,.int .i64 100000,.slice b.E (x.n+x.more) b.cE]:List Value)=[.int .i64 (x.fl0.size:Int),.slice b.D x.fl0.data.length b.cD,.slice b.W x.fl0.wear.length b.cW,.int .i64 x.fl0.limit,.slice b.E x.fl0.dead.length b.cE]:=Oh);revert y1)
 |(exact Zt 5;(have y1:(aF a b (k+1)).length=(aF a b k).length+1:=obS);revert y1)
 |(exact Zt 6;(have y1:(an f.size 0 (ax s)).length=f.size:=bZ hfit);revert y1)
 |(exact Zt 7;(have y1:(f.data.getD ((aW (aI f y.us) (f.size:Int) p3).b.getD 0 0).toNat []).length=f.size:=orows ((aW (aI f y.us) (f.size:Int) p3).b.getD 0 0).toNat oe);revert y1)
 |(exact Zt 8;(have y1:(ndC (ndN (ndU (ndT old (bf old (ah ops)) S seq) S) st.length seq.length) (ndW S))≤3000001:=obp);revert y1)
 |(exact Zt 9;(have y1:(ndN (ndU (ndT old (bf old (ah ops)) S seq) S) st.length seq.length)≤3000000:=obn);revert y1)
 |(exact Zt 10;(have y1:(ndU (ndT old (bf old (ah ops)) S seq) S)≤(ndT old (bf old (ah ops)) S seq)+S:=Ir);revert y1)
 |(exact Zt 11;(have y1:(c6 m w).getD k 0=UInt8.ofNat (m/2^(8*(w-1-k))):=by rw [Ce oe,Ic]);revert y1)
 |(exact Zt 12;(have y1:(bf (inL data st lst S m) (ah ops)).length=(ah ops).length:=lz _ _);revert y1)
 |(exact Zt 13;(have y1:(bf old (l.take (i+1))).length=(bf old (l.take i)).length+1:=qf);revert y1)
 |(exact Zt 14;(have y1:(bf old (l.take i)).length=i:=oa3);revert y1)
 |(exact Zt 15;(have y1:(bf old (ah ops)).length=(ah ops).length:=lz _ _);revert y1)
 exact zq.h):Xo n Q P:=zh
theorem Kl (zh:Xo n Q P:=by
 apply Zom;intro zq;rotate_left;simp
 first
 |(exact Zt 1;(have y1:(bz (f.data.getD (aj f y.a y.b).sec.toNat []) (aj f y.a y.b) (k)).free≤k∧(bz (f.data.getD (aj f y.a y.b).sec.toNat []) (aj f y.a y.b) (k)).torn≤k:=kx fq.1 fq.2 k);revert y1)
 |(exact Zt 2;(have y1:(ah (ops.take i)++ke (ops.getD i Po.zero) (j+1))=(ah (ops.take i)++ke (ops.getD i Po.zero) j)++[mV (ops.getD i Po.zero) j]:=by rw [wq,List.append_assoc]);revert y1)
 |(exact Zt 3;(have y1:(zeroValue et).run X.P w=.ok ei.zero w:=Qk);revert y1)
 |(exact Zt 4;(have y1:(⟨g,k,none⟩:Addr).add 0=⟨g,k,none⟩:=rfl);revert y1)
 |(exact Zt 5;(have y1:1≤ndW S:=obo);revert y1)
 |(exact Zt 6;(have y1:2^ls.length-1<2^ls.length:=oaW);revert y1)
 |(exact Zt 7;(have y1:IntKind.i64.wrap (q:Int)=q:=oag);revert y1)
 |(exact Zt 8;(have y1:cm (aI f us) (f.size:Int) e:=.inl oe);revert y1)
 |(exact Zt 9;(have y1:cm (aI f us) (f.size:Int) e:=.inr (.inl oe));revert y1)
 |(exact Zt 10;(have y1:cm (aI f us) (f.size:Int) e:=.inr (.inr (.inl oe)));revert y1)
 |(exact Zt 11;(have y1:cm (aI f us) (f.size:Int) e:=.inr (.inr (.inr hpn)));revert y1)
 |(exact Zt 12;(have y1:c5 b rec:=.inl hN);revert y1)
 |(exact Zt 13;(have y1:c5 b rec:=.inr (.inl oe));revert y1)
 |(exact Zt 14;(have y1:c5 b rec:=.inr (.inr oe));revert y1)
 |(exact Zt 15;(have y1:Sat β w R (sel H js'):=hs.sel nj');revert y1)
 exact zq.h):Xo n Q P:=zh
theorem Kk (zh:Xo n Q P:=by
 apply Zom;intro zq;rotate_left;simp
 first
 |(exact Zt 1;(have y1:Sat β w R (sel H js):=hs.sel nj);revert y1)
 |(exact Zt 2;(have y1:Stp w w' (fun k=>∃ (i:Nat) (c:Pr),(sel H js)[i]?=some c∧c.fp k):=⟨hs'.ext.os,hs'.ext.tape,hs'.ext.output,hs'.ext.size,hs'.ext.block⟩);revert y1)
 |(exact Zt 3;(have y1:a.tmps.getD b undef=.pointer (some (ad.add k)):=by simp [hb',ag]);revert y1)
 |(exact Zt 4;(have y1:cB (f.data.getD (aq f y.a y.b).oth.toNat []) ((an f.size ((aq f y.a y.b).gen+1) (ax s)).take 8) 8=cB (f.data.getD (aq f y.a y.b).oth.toNat []) (an f.size ((aq f y.a y.b).gen+1) (ax s)) 8:=px ob);revert y1)
 |(exact Zt 5;(have y1:aI f (us.take (k+1))=aI f (us.take k)++f.data.getD (us.getD k 0).toNat []:=by rw [aA us 0 k hk2,zQ]);revert y1)
 |(exact Zt 6;(have y1:b.hs.length=x.fl0.data.length:=hbl.trans x.dat_len.symm);revert y1)
 |(exact Zt 7;(have y1:chY l inn (t*S+j)=false:=by unfold chY;rw [if_neg oe];exact decide_eq_false oe);revert y1)
 |(exact Zt 8;(have y1:chY l inn (t*S+j)=true:=by unfold chY;rw [if_neg oe];exact decide_eq_true oe);revert y1)
 |(exact Zt 9;(have y1:ij (ah ops) inn S t=true:=rZ (p:=fun a=>chY (ah ops) inn (t*S+a)) (k:=j) oe hx);revert y1)
 |(exact Zt 10;(have y1:aF a b (k+1)=aF a b k++[(k,k+1)]:=oaa);revert y1)
 |(exact Zt 11;(have y1:cntE lf sz n inn out ops seq st data fs ls lst k=_:=Ej hvl);revert y1)
 |(exact Zt 12;(have y1:G1 (S:Int) (m:Int) ops seq st data lst (kk:Int)=ctF (bf (inL data st lst S m) (ah ops)) t S:=Qo);revert y1)
 |(exact Zt 13;(have y1:cs.length≤1000:=oa9);revert y1)
 |(exact Zt 14;(have y1:cur.toList.length=cur.size:=oO);revert y1)
 |(exact Zt 15;(have y1:k<(aF a b a.length).length:=oe);revert y1)
 exact zq.h):Xo n Q P:=zh
theorem Kj (zh:Xo n Q P:=by
 apply Zom;intro zq;rotate_left;simp
 first
 |(exact Zt 1;(have y1:k<us.length:=oe);revert y1)
 |(exact Zt 2;(have y1:k=x.dirts:=by unfold Raw.dirts;split<;>omega);revert y1)
 |(exact Zt 3;(have y1:dj x 337 338 339 340 341=337:=by unfold dj;rw [if_pos h1]);revert y1)
 |(exact Zt 4;(have y1:dM false (S:Int) (n:Int) inn out ops seq st old=0:=yf hvl hin qR);revert y1)
 |(exact Zt 5;(have y1:dM false (S:Int) (n:Int) inn out ops seq st old=2:=FF hvl hin qR);revert y1)
 |(exact Zt 6;(have y1:dM lf sz n inn out ops seq st old=_:=FH hvl);revert y1)
 |(exact Zt 7;(have y1:dM lf sz n inn out ops seq st old=_:=FG hvl hne);revert y1)
 |(exact Zt 8;(have y1:okU (ah ops) inn S n seq st u=true:=Fy hallj oe);revert y1)
 |(exact Zt 9;(have y1:old.length≤65536:=oe);revert y1)
 |(exact Zt 10;(have y1:out.length=out.length:=rfl);revert y1)
 |(exact Zt 11;(have y1:ej f≤137:=ql hok);revert y1)
 |(exact Zt 12;(have y1:ptF n l=(ptS n l i).1++[(⟨1,((ptS n l i).2:Int),((n-(ptS n l i).2:Nat):Int),0⟩:Po)]:=by unfold ptF ptE;rw [hB,if_pos oe]);revert y1)
 |(exact Zt 13;(have y1:rdE lf inn out size ops=_:=H5 hc20 obx oe);revert y1)
 |(exact Zt 14;(have y1:rdE lf inn out size ops=_:=H5 hc25 obv oe);revert y1)
 |(exact Zt 15;(have y1:aY s=false:=uZ (k:=k) oe oaH);revert y1)
 exact zq.h):Xo n Q P:=zh
theorem Ki (zh:Xo n Q P:=by
 apply Zom;intro zq;rotate_left;simp
 first
 |(exact Zt 1;(have y1:stB (NI (aH (ah ops) inn S n)) st=true:=eZ fun k hk=>hall k oe);revert y1)
 |(exact Zt 2;(have y1:eD lf sz n inn out ops seq st=true:=Q5);revert y1)
 |(exact Zt 3;(have y1:eD lf sz n inn out ops seq st=true:=oai);revert y1)
 |(exact Zt 4;(have y1:vss[i]?=some (vss.getD i []):=getD_some hi);revert y1)
 |(exact Zt 5;(have y1:want.length≤1000000:=oe);revert y1)
 |(exact Zt 6;(have y1:¬ ((q:Int)<0):=oe);revert y1)
 |(exact Zt 7;(have y1:¬ (1*cs.length=0):=oe);revert y1)
 |(exact Zt 8;(have y1:¬ (1*cs.length>2^24):=oe);revert y1)
 |(exact Zt 9;(have y1:¬ (q*i.size=0):=Nat.mul_ne_zero oe oe);revert y1)
 |(exact Zt 10;(have y1:¬(rec.length<5∨64≤(rec.getD 0 0).toNat):=oe);revert y1)
 |(exact Zt 11;(have y1:¬il ls.length u (ls.getD u []) j:=oaf);revert y1)
 |(exact Zt 12;(have y1:¬dH sec a b:=qu);revert y1)
 |(exact Zt 13;(have y1:¬fc f us at_ b:=Qv);revert y1)
 |(exact Zt 14;(have y1:ρ (.const .nilIface)=.nilIface:=hρ _ _ rfl);revert y1)
 |(exact Zt 15;(have y1:∀ p∈js,∀ q∈js',p≠q:=fun p hp q hq=>(List.nodup_append.1 hn).2.2 p hp q hq);revert y1)
 exact zq.h):Xo n Q P:=zh
theorem Kh (zh:Xo n Q P:=by
 apply Zom;intro zq;rotate_left;simp
 first
 |(exact Zt 1;(have y1:∀ r,(Builtin.zeroCells ei.zero.cells r).size=r:=fun r=>by rw [size_zeroCells,hz,hzc];simp);revert y1)
 |(exact Zt 2;(have y1:∀ x∈[p0,p1,p2,p3,p4,p5,p6,p7,p8],0≤x∧x≤4294967295:=obe);revert y1)
 |(exact Zt 3;(have y1:=(Array.getElem?_eq_some_iff.1 hh).1);revert y1)
 |(exact Zt 4;(have y1:=(List.nodup_append.1 hn).1);revert y1)
 |(exact Zt 5;(have y1:=(fM hfit.val.1).2.1);revert y1)
 |(exact Zt 6;(have y1:=(hs.rfp r hr k hk).1);revert y1)
 |(exact Zt 7;(have y1:=(hsr.ofp j d hd k hk').1);revert y1)
 |(exact Zt 8;(have y1:=(dC.1 ht).1);revert y1)
 |(exact Zt 9;(have y1:=(dy.1 h1.2.2.1).2.2.1);revert y1)
 |(exact Zt 10;(have y1:=Chg.cut ok hE (fun _=>255));revert y1)
 |(exact Zt 11;(have y1:=List.idxOf_lt_length_iff.2 h);revert y1)
 |(exact Zt 12;(have y1:=List.idxOf_lt_length_iff.2 hm);revert y1)
 |(exact Zt 13;(have y1:=List.mem_range.1 hi);revert y1)
 |(exact Zt 14;(have y1:=List.mem_range.1 hj);revert y1)
 |(exact Zt 15;(have y1:=MapKept.run_checkKey (P:=X.P) (w:=w) (k:=.int kd q) e2 rfl es.isEmpty 9999);revert y1)
 exact zq.h):Xo n Q P:=zh
theorem Kg (zh:Xo n Q P:=by
 apply Zom;intro zq;rotate_left;simp
 first
 |(exact Zt 1;(have y1:=Nat.div_mul_le_self p z);revert y1)
 |(exact Zt 2;(have y1:=Nat.mul_le_mul_right jf.bytes h1);revert y1)
 |(exact Zt 3;(have y1:=gB hok hu k oe);revert y1)
 |(exact Zt 4;(have y1:=jV ((aI f us).drop (e.toNat-2)));revert y1)
 |(exact Zt 5;(have y1:=jO (ah ops) inn S n);revert y1)
 |(exact Zt 6;(have y1:=mr ops out k6 i oe);revert y1)
 |(exact Zt 7;(have y1:=uk ops out k3 k6);revert y1)
 |(exact Zt 8;(have y1:=pf (b:=b) (p:=at_.toNat) (z:=f.size) (s:=s) oe);revert y1)
 |(exact Zt 9;(have y1:=congrArg (fun b=>b.getLsbD i) h);revert y1)
 |(exact Zt 10;(have y1:=b9 (bf (inL data st lst S m) (ah ops)) t S);revert y1)
 |(exact Zt 11;(have y1:=ft hfd.fits);revert y1)
 |(exact Zt 12;(have y1:=CD ls (i:=i+1) (m:=m) oe);revert y1)
 |(exact Zt 13;(have y1:=Gd ls (i+1));revert y1)
 |(exact Zt 14;(have y1:=yW ls (i:=i) oe);revert y1)
 |(exact Zt 15;(have y1:=hcap (aj f y.a y.b).sec.toNat oe);revert y1)
 exact zq.h):Xo n Q P:=zh
theorem Kf (zh:Xo n Q P:=by
 apply Zom;intro zq;rotate_left;simp
 first
 |(exact Zt 1;(have y1:=hfit.seqs (i:=p1.toNat) oe);revert y1)
 |(exact Zt 2;(have y1:=hfit.sts (i:=p1.toNat) oe);revert y1)
 |(exact Zt 3;(have y1:=hfr.agree (.func f) (.func (.func f) #[] #[]) rfl);revert y1)
 |(exact Zt 4;(have y1:=hs3.sel (js:=[0,1,2]) ob);revert y1)
 |(exact Zt 5;(have y1:=nH (A:=(aI f us)) (e:=e.toNat) oe oe);revert y1)
 |(exact Zt 6;(have y1:=yj (old:=old) (new:=(bf old (ah ops))) (seq:=seq) hS2 i);revert y1)
 |(exact Zt 7;(have y1:=yj (old:=old) (new:=(bf old (ah ops))) (seq:=seq) hS2 seq.length);revert y1)
 |(exact Zt 8;(have y1:=tE (old:=old) (new:=(bf old (ah ops))) (S:=S) (seq:=seq) (i:=i) oe);revert y1)
 |(exact Zt 9;(have y1:=It (ndN (ndU (ndT old (bf old (ah ops)) S seq) S) st.length seq.length) (ndW S));revert y1)
 |(exact Zt 10;(have y1:=lX (ctF old t S) (ctF (bf old (ah ops)) t S) (ctF old t S).length);revert y1)
 |(exact Zt 11;(have y1:=tC (aF (ctF old t S) (ctF (bf old (ah ops)) t S) (ctF old t S).length) k);revert y1)
 |(exact Zt 12;(have y1:=yh (old:=old) (new:=(bf old (ah ops))) (seq:=seq) hS2 i);revert y1)
 |(exact Zt 13;(have y1:=yh (old:=old) (new:=(bf old (ah ops))) (seq:=seq) hS2 seq.length);revert y1)
 |(exact Zt 14;(have y1:=lW (old:=old) (new:=(bf old (ah ops))) (S:=S) (seq:=seq) (i:=i) oe);revert y1)
 |(exact Zt 15;(have y1:=tB (by rw [hE];decide:dM false (S:Int) (n:Int) inn out ops seq st old≠0));revert y1)
 exact zq.h):Xo n Q P:=zh
theorem Ke (zh:Xo n Q P:=by
 apply Zom;intro zq;rotate_left;simp
 first
 |(exact Zt 1;(have y1:=dB (l:=b) (at_:=1) oe);revert y1)
 |(exact Zt 2;(have y1:=Ip (D9 f y k h));revert y1)
 |(exact Zt 3;(have y1:=orows (aj f y.a y.b).sec.toNat oe);revert y1)
 |(exact Zt 4;(have y1:=orows (us.getD k 0).toNat oe);revert y1)
 |(exact Zt 5;(have y1:=orows sec.toNat oe);revert y1)
 |(exact Zt 6;(have y1:=orows x.sec.toNat oe);revert y1)
 |(exact Zt 7;(have y1:=Ib (x:=x) h);revert y1)
 |(exact Zt 8;(have y1:=s5 (x:=(UInt8.ofInt sec)) (a:=a) (b:=b) (aF a b a.length).length);revert y1)
 |(exact Zt 9;(have y1:=s5 (x:=(UInt8.ofInt sec)) (a:=a) (b:=b) k);revert y1)
 |(exact Zt 10;(have y1:=xf old l (i:=i) oe);revert y1)
 |(exact Zt 11;(have y1:=HT (S:=S) (show t<n by omega));revert y1)
 |(exact Zt 12;(have y1:=uU (f:=f) (row:=(f.data.getD (aj f y.a y.b).sec.toNat [])) (i:=k) hrow oe);revert y1)
 |(exact Zt 13;(have y1:=ec.1 h);revert y1)
 |(exact Zt 14;(have y1:=sG k6 (k:=i) hi);revert y1)
 |(exact Zt 15;(have y1:=AO ops i j oe oe);revert y1)
 exact zq.h):Xo n Q P:=zh
theorem Kd (zh:Xo n Q P:=by
 apply Zom;intro zq;rotate_left;simp
 first
 |(exact Zt 1;(have y1:=mW ops i oe);revert y1)
 |(exact Zt 2;(have y1:=iS (D:=ls) (k:=i) oe);revert y1)
 |(exact Zt 3;(have y1:=G9 hs hw he hE);revert y1)
 |(exact Zt 4;(have y1:=mR (l.getD 0 0));revert y1)
 |(exact Zt 5;(have y1:=eI (lf:=false) (sz:=(S:Int)) (n:=(n:Int)) (inn:=inn) (out:=out) (ops:=ops) (seq:=seq) (st:=st));revert y1)
 |(exact Zt 6;(have y1:=G3 (k:=k) oe);revert y1)
 |(exact Zt 7;(obtain ⟨-,-,-,y1,y2,-⟩:=eI.1 hvl);revert y1 y2)
 |(exact Zt 8;(obtain ⟨y1,y2,-,-,y3,y4,y5⟩:=DataW.trod_struct ht hf');revert y1 y2 y3 y4 y5)
 |(exact Zt 9;(obtain ⟨y1,y2,y3,y4,y5,y6,y7,y8,y9,y10⟩:=nine (xF f y.a y.b));revert y1 y2 y3 y4 y5 y6 y7 y8 y9 y10)
 |(exact Zt 10;(obtain ⟨y1,y2,y3,y4⟩:=hm β w hs);revert y1 y2 y3 y4)
 |(exact Zt 11;(obtain ⟨y1,y2,y3,y4⟩:=hok.ok);revert y1 y2 y3 y4)
 |(exact Zt 12;(obtain ⟨y1,y2,y3,y4⟩:=hseq.2 i oe);revert y1 y2 y3 y4)
 |(exact Zt 13;(obtain ⟨y1,y2,y3,y4⟩:=hseq.2 kk oe);revert y1 y2 y3 y4)
 |(exact Zt 14;(obtain ⟨y1,y2,y3,y4⟩:=xG (n:=n) hE hS1 hS2 hn2 hi1 hi2);revert y1 y2 y3 y4)
 |(exact Zt 15;(obtain ⟨y1,y2,y3⟩:=aD hc);revert y1 y2 y3)
 exact zq.h):Xo n Q P:=zh
theorem Kc (zh:Xo n Q P:=by
 apply Zom;intro zq;rotate_left;simp
 first
 |(exact Zt 1;(obtain ⟨y1,y2⟩:∃ u,vs[0]?=some u:=⟨_,List.getElem?_eq_getElem oe⟩);revert y1 y2)
 |(exact Zt 2;(obtain ⟨y1,y2⟩:∃ x,x=A:=⟨_,rfl⟩);revert y1 y2)
 |(exact Zt 3;(obtain ⟨y1,y2⟩:∃ x,x=c:=⟨_,rfl⟩);revert y1 y2)
 |(exact Zt 4;(obtain ⟨y1,y2⟩:=hi 0 ob);revert y1 y2)
 |(exact Zt 5;(obtain ⟨y1,y2⟩:=hi 1 ob);revert y1 y2)
 |(exact Zt 6;(obtain ⟨y1,y2⟩:=hi 2 ob);revert y1 y2)
 |(exact Zt 7;(obtain ⟨y1,y2⟩:=hi 3 ob);revert y1 y2)
 |(exact Zt 8;(obtain ⟨y1,y2⟩:=id h);revert y1 y2)
 |(exact Zt 9;(obtain ⟨y1,y2⟩:=wI hstb);revert y1 y2)
 |(exact Zt 10;(obtain ⟨y1,⟨y2,y3,y4⟩,y5,y6⟩:=dm hE);revert y6;revert y5;revert y4;revert y3;revert y2;revert y1)
 |(exact Zt 11;(rintro _ _ _ ⟨y1,y2,rfl,rfl,rfl,y3⟩);revert y1 y2 y3)
 |(exact Zt 12;(rintro _ _ _ ⟨y1,⟨y2,y3,y4,y5⟩,rfl,rfl,rfl⟩);revert y5;revert y4;revert y3;revert y2;revert y1)
 |(exact Zt 13;(rintro y1 ⟨y2,y3,y4⟩);revert y1 y2 y3 y4)
 |(exact Zt 14;(rintro ⟨y1,y2,y3,y4,y5,y6⟩ ⟨y7,y8,y9,y10⟩);revert y10;revert y9;revert y8;revert y7;revert y6;revert y5;revert y4;revert y3;revert y2;revert y1)
 |(exact Zt 15;(rintro ⟨y1,y2,y3,y4,y5,y6⟩);revert y1 y2 y3 y4 y5 y6)
 exact zq.h):Xo n Q P:=zh
theorem Kb (zh:Xo n Q P:=by
 apply Zom;intro zq;rotate_left;simp
 first
 |(exact Zt 1;(rintro ⟨y1,y2,y3,y4⟩ ⟨y5,y6,y7⟩);revert y7;revert y6;revert y5;revert y4;revert y3;revert y2;revert y1)
 |(exact Zt 2;(rintro ⟨y1,y2,y3,y4⟩);revert y1 y2 y3 y4)
 |(exact Zt 3;(rintro ⟨y1,y2,y3⟩ ⟨y4,y5,y6⟩);revert y6;revert y5;revert y4;revert y3;revert y2;revert y1)
 |(exact Zt 4;(rintro ⟨y1,y2,y3⟩ ⟨y4,y5⟩);revert y5;revert y4;revert y3;revert y2;revert y1)
 |(exact Zt 5;(rintro ⟨y1,y2⟩ ⟨y3,y4,y5⟩);revert y5;revert y4;revert y3;revert y2;revert y1)
 |(exact Zt 6;(rintro ⟨⟨⟨⟨⟨y1,y2⟩,y3⟩,y4⟩,y5⟩,y6⟩);revert y6;revert y5;revert y4;revert y3;revert y2;revert y1)
 exact zq.h):Xo n Q P:=zh
theorem Ka (zh:Xo n Q P:=by
 apply Zom;intro zq;rotate_left;simp
 first
 |(exact Zt 1;refine C.freezeKids 1 rfl [0,2,3,4] ob ob ?_)
 |(exact Zt 2;refine C.le (Γ':=[(1,ag A1 0),(2,ag A2 0),(3,.int .i64 (x.S:Int)),(4,.int .i64 (x.n:Int)),(5,.slice IA x.img.length ic),(6,ag A6 0),(8,ag A8 0),(11,ag A11 0),(12,ag A12 0)]) (R':=[Rd A11 [.int .i64 x.lay.n,.int .i64 x.lay.a,.int .i64 x.lay.b,.int .i64 x.lay.s0,.int .i64 x.lay.s1,.slice GA x.lay.gs.length gc,.slice UA x.lay.us.length uc,.slice VA x.lay.ls.length vc],Rd GA (I64 x.lay.gs),Rd UA (I64 x.lay.us),Rd VA (I64 x.lay.ls),Rd A8 [.int .i64 (x.st.length:Int),.int .i64 (x.u:Int),.int .i64 x.nd.r,.int .i64 x.nd.e,.int .i64 x.nd.o],Rd A6 [.int .i64 (x.S:Int),.int .i64 (x.n:Int),.bool false,.int .i64 (x.m:Int),.int .i64 (x.m:Int),.slice PO x.ops.length c1,.slice PQ x.seq.length c2,.slice PH x.st.length c3],Rd PO (ck x.ops),Rd PQ (I64 x.seq),Rd PH (I64 x.st),Rd IA (U8 x.img),Rd A1 [.slice LA x.l.length lc,.int .u8 (x.w0.toNat:Int),.int .u8 (x.w1.toNat:Int),.int .u8 (x.w2.toNat:Int),.int .u8 (x.w3.toNat:Int),.slice XO x.old.length xoc],Rd LA (pI x.l),Rd XO (U8 x.old)]) (H':=[Own 51 32 A2 1 1 [.int .i64 0,.slice none 0 0,.slice none 0 0,.int .i64 0,.slice none 0 0,.int .i64 0,.int .i64 0,.int .i64 0,.int .i64 0,.int .i64 0,.slice none 0 0,.slice none 0 0,.slice none 0 0,.int .i64 0,.int .i64 0,.int .i64 0,.int .i64 0,.bool false,.int .i64 0,.int .i64 0,.slice none 0 0,.slice none 0 0,.slice none 0 0,.slice none 0 0,.bool false,.slice none 0 0,.slice none 0 0,.int .i64 0,.int .i64 0,.int .i64 0,.int .i64 0,.int .i64 0],Own 24 1 b.D x.fl0.data.length b.cD (aC b.hs (B8 x.fl0.data)),aw 5 b.hs (B8 x.fl0.data),Own 3 1 b.W x.fl0.wear.length b.cW (I64 x.fl0.wear),Own 4 1 b.E x.fl0.dead.length b.cE (Bs x.fl0.dead),Own 34 5 A12 1 1 [.int .i64 (x.fl0.size:Int),.slice b.D x.fl0.data.length b.cD,.slice b.W x.fl0.wear.length b.cW,.int .i64 x.fl0.limit,.slice b.E x.fl0.dead.length b.cE]]) (by exact lk [0,1,2,3,4,5,6,7,8,9,10,11,12] [0,1,2,3,4,5] (hh:=⟨rfl,(congrArg some (ay x.dat_len.symm hrows)),(congrArg some (by rw [hdat];rfl)),(congrArg some (ay List.length_replicate.symm rfl)),(congrArg some (ay List.length_replicate.symm rfl)),(congrArg some (ay rfl hcel)),trivial⟩)) ?_)
 |(exact Zt 3;refine C.more (r:=Rd (bh (a.hs.getD (aj f y.a y.b).sec.toNat (none,0)).1 (a.hs.getD (aj f y.a y.b).sec.toNat (none,0)).2 (8+30*k) 1) (U8 (cf (f.data.getD (aj f y.a y.b).sec.toNat []) k))) ((((aQ (((Has.kid 3 rfl oC ((aj f y.a y.b).sec.toNat) oZ).cast (a7 _))) (a.hs.getD (aj f y.a y.b).sec.toNat (none,0)).2 (8+30*k) oe).take 30).cast (bu _ _))) ?_)
 |(exact Zt 4;refine C.more (r:=Rd (bh (bh RB rc 1 1) (rc-1) 2 1) (U8 ((rec.drop 1).drop 2))) (aQ (Has.r 0 rfl) (rc-1) 2 oo) ?_)
 |(exact Zt 5;refine aE (flR f a++[Rd G (I64 y.gs),Rd U (I64 y.us),Rd V (I64 y.ls),Rd OA (ck k.pl.ops),Rd QA (I64 k.pl.seq),Rd HA (I64 k.pl.st),Rd M (mcA f a y G U V gc uc vc (.int .i64 p0::.int .i64 p1::.int .i64 p2::.int .i64 p3::.int .i64 p4::.int .i64 p5::.int .i64 p6::.int .i64 p7::.int .i64 p8::mcK k OA QA HA oc qc hc (rv::.int .i64 0::.int .i64 0::.int .i64 0::.slice none 0 0::.bool false::[]))),Rd A2 [.int .i64 p0,.int .i64 p1,.int .i64 p2,.int .i64 p3,.int .i64 p4,.int .i64 p5,.int .i64 p6,.int .i64 p7,.int .i64 p8]]) ⟨Has.r 0 rfl,Has.r 1 rfl,Has.r 2 rfl,Has.r 3 rfl,Has.r 4 rfl,Has.r 5 rfl,Has.r 6 rfl,Has.r 7 rfl,Has.r 8 rfl,Has.r 9 rfl,Has.o 0 rfl,Has.o 1 rfl,trivial⟩ ?_)
 |(exact Zt 6;refine aE [_,_,_,_,_,_,_,_,_,_,_,_,_,_,_,_] (Hq [0,1,2,3,4,5,6,7,8,9,10,11,12,13,14,15] rfl) ?_)
 |(exact Zt 7;refine aE [_,_,_,_,_,_,_,_,_,_,_,_,_,_,_,_] ⟨Has.r 0 rfl,Has.r 1 rfl,Has.r 2 rfl,Has.r 3 rfl,Has.r 4 rfl,Has.r 5 rfl,Has.r 6 rfl,Has.r 7 rfl,Has.r 8 rfl,Has.r 9 rfl,Has.r 10 rfl,Has.r 11 rfl,Has.r 12 rfl,Has.r 13 rfl,Has.r 14 rfl,Has.o 0 rfl,trivial⟩ ?_)
 |(exact Zt 8;refine aE [_,_,_,_,_,_,_,_,_,_,_,_,_] (Hq [0,1,2,3,4,5,6,7,8,9,10,11,12] rfl) ?_)
 |(exact Zt 9;refine aE [_,_,_,_,_,_,_,_,_,_,_,_] (Hq [0,1,2,3,4,5,6,7,8,9,10,11] rfl) ?_)
 |(exact Zt 10;refine aE [_,_] ⟨Has.o 0 rfl,Has.o 2 rfl,trivial⟩ ?_)
 |(exact Zt 11;refine sf (X:=X) (fn:=Tryz.f232) Tryz.func232 rfl oa rfl ?_)
 |(exact Zt 12;refine L.append (j:=0) rfl rfl rfl rfl ob rfl rfl rfl rfl ((Src.kid 3 rfl oC ((us.getD k 0).toNat) oZ).cast (a7 _)) qA (bQ _) oe oH rfl ?_)
 |(exact Zt 13;refine L.append (j:=0) rfl rfl rfl rfl ob rfl rfl rfl rfl (Src.o 1 rfl) rfl (dG rfl) oe oH rfl ?_)
 |(exact Zt 14;refine L.append (j:=0) rfl rfl rfl rfl ob rfl rfl rfl rfl (Src.o 1 rfl) rfl (by exact jn [(k,k+1)]) oe obu rfl ?_)
 |(exact Zt 15;refine L.append (j:=0) rfl rfl rfl rfl ob rfl rfl rfl rfl (Src.o 1 rfl) rfl (AN _ _) oe QD rfl ?_)
 exact zq.h):Xo n Q P:=zh
theorem J9 (zh:Xo n Q P:=by
 apply Zom;intro zq;rotate_left;simp
 first
 |(exact Zt 1;refine L.append (j:=0) rfl rfl rfl rfl ob rfl rfl rfl rfl (Src.o 2 rfl) rfl (dG rfl) oe oU rfl ?_)
 |(exact Zt 2;refine L.append (j:=2) rfl rfl rfl rfl ob rfl rfl rfl rfl (Src.o 0 rfl) oP (bQ _) oe oH rfl ?_)
 |(exact Zt 3;refine L.append (j:=3) rfl rfl rfl rfl ob rfl rfl rfl rfl (Src.r 3 rfl) oY (cY _) oe oU rfl ?_)
 exact zq.h):Xo n Q P:=zh
theorem J7 (zh:Xo n Q P:=by
 apply Zom;intro zq;rotate_left;simp
 first
 |(exact Zt 10;refine b4 (js:=[]) (js':=[0]) (eJ f a hok hh y G U V gc uc vc hyn hyl hcap nxD none 0 [p0,p1,p2,p3,p4,p5,(p6+1),p7,p8] rfl) rfl rfl rfl ob ⟨(Has.r 6 rfl),(Has.r 7 rfl),(Has.r 8 rfl),(Has.r 9 rfl),Has.nil,trivial⟩ rfl ?_)
 |(exact Zt 11;refine sa (cs:=[.int .i64 (k:Int),.int .i64 ((k:Int)+1)]) rfl rfl rfl rfl (Nat.zero_lt_succ _) rfl rfl rfl ?_)
 |(exact Zt 12;refine mI (cs:=Sy.cells (mV (ops.getD i Po.zero) j)) rfl rfl rfl rfl (Nat.zero_lt_succ _) rfl rfl rfl ?_)
 |(exact Zt 13;refine L.more (r:=Rd (bh (bh S c 2 1) (c-2) 2 1) (U8 (((l.drop 2).drop 2).take (be2 (l.drop 2))))) ((Has.take (Has.r 0 rfl) (be2 (l.drop 2))).cast (bu _ _)) ?_)
 |(exact Zt 14;refine L.more (r:=Rd (bh (bh S c 2 1) (c-2) 2 1) (U8 ((l.drop 2).drop 2))) (aQ (aQ (Has.r 1 rfl) c 2 hc) (c-2) 2 oo) ?_)
 |(exact Zt 15;refine L.more (r:=Rd (bh RB rc 1 1) (U8 (rec.drop 1))) (aQ (Has.r 0 rfl) rc 1 hrc) ?_)
 exact zq.h):Xo n Q P:=zh
theorem J6 (zh:Xo n Q P:=by
 apply Zom;intro zq;rotate_left;simp
 first
 |(exact Zt 1;refine L.store (j:=0) rfl rfl rfl rfl rfl rfl rfl (by exact kY (by rw [dP];omega)) ?_)
 |(exact Zt 2;refine L.store (j:=2) rfl rfl rfl rfl rfl rfl rfl (by exact aG oe) ?_)
 |(exact Zt 3;refine L.store (j:=4) rfl rfl rfl rfl rfl rfl rfl rfl ?_)
 |(exact Zt 10;refine LM.q 10 rfl oa (Ev.pure rfl) rfl trivial ?_)
 |(exact Zt 11;refine LM.q 3 rfl oa (Ev.add rfl rfl oe oe) rfl trivial ?_)
 |(exact Zt 12;refine LM.q 3 rfl oa (bt (l:=p) rfl rfl rfl rfl rfl rfl oe) rfl trivial ?_)
 |(exact Zt 13;refine LM.q 4 rfl oa (bt (l:=k+1) rfl rfl rfl rfl rfl oe oe) rfl trivial ?_)
 exact zq.h):Xo n Q P:=zh
theorem J5 (zh:Xo n Q P:=by
 apply Zom;intro zq;rotate_left;simp
 first
 |(exact Zt 5;refine QE.more (r:=Rd (bh (bh (bh S c 2 1) (c-2) 2 1) (c-2-2) (be2 (l.drop 2)) 1) (U8 (((l.drop 2).drop 2).drop (be2 (l.drop 2))))) (aQ (Has.r 1 rfl) (c-2-2) (be2 (l.drop 2)) QS) ?_)
 |(exact Zt 6;refine zY (js:=[]) (hs:=[0,1]) (vs:=[_]) nm rfl rt ob ?_)
 |(exact Zt 7;refine r7 (js:=[]) (hs:=[0,1]) ob ⟨rfl,?_⟩)
 |(exact Zt 8;refine r6 (js:=[]) (hs:=[0,1]) (vs:=[_]) nm rfl rt ob ?_)
 |(exact Zt 9;refine r6 (js:=[]) (hs:=[1,2]) (vs:=[_]) nm rfl rt ob ?_)
 |(exact Zt 10;refine fe (js:=[]) (hs:=[0,1]) (vs:=[]) rfl trivial ob ?_)
 |(exact Zt 11;refine GI (j:=0) (js:=[]) (hs:=[2]) (vs:=[_]) rfl rfl rt ob ?_)
 |(exact Zt 12;refine zW (js:=[0]) (hs:=[]) (vs:=[_,_,_]) (lG A8 A9 A10 0) rfl ⟨⟨_,_,0,_,rfl,rfl,Src.o 2 rfl,.inl ⟨rfl,by decide,_,rfl,rfl,rfl⟩⟩,⟨_,_,0,_,rfl,rfl,Src.o 3 rfl,.inr ⟨rfl,rfl⟩⟩,⟨_,_,0,_,rfl,rfl,Src.o 4 rfl,.inr ⟨rfl,rfl⟩⟩,trivial⟩ ob ?_)
 |(exact Zt 13;refine Di (js:=[0]) (hs:=[]) (vs:=[_,_,_]) rfl ⟨⟨_,_,0,_,rfl,rfl,Src.o 0 rfl,.inl ⟨rfl,by decide,_,rfl,rfl,rfl⟩⟩,⟨_,_,0,_,rfl,rfl,Src.o 1 rfl,.inr ⟨rfl,rfl⟩⟩,⟨_,_,0,_,rfl,rfl,Src.o 2 rfl,.inr ⟨rfl,rfl⟩⟩,trivial⟩ ob ?_)
 exact zq.h):Xo n Q P:=zh
theorem J4 (zh:Xo n Q P:=by
 apply Zom;intro zq;rotate_left;simp
 first
 |(exact Zt 5;refine QE.round (k+1) ?_ oe (lk [0,1,2,3,4] []))
 |(exact Zt 6;refine QE.round (k+1) ?_ oe (lk [0,1] []))
 |(exact Zt 9;refine N0 ?_)
 |(exact Zt 10;refine hK _ _ (k (some ⟨w.heap.size,0,none⟩) _ _ (hf.put oQ _) ?_))
 |(exact Zt 11;refine al (mE IA x.img ic false (x.m:Int) (x.m:Int) x.ops PO c1 oe oe rfl x.chk (by rw [x.img_len])) ?_)
 |(exact Zt 12;refine al (I6 f a hok hh us U uc hu) ?_)
 |(exact Zt 13;refine al (CW lf inn out ops OA oc hops) ?_)
 |(exact Zt 14;refine al (zo f.size 0 SO sc (ax s) os2 hfit) ?_)
 |(exact Zt 15;refine al (rU f.size 1 s os2 hft.2.2.2.2.2) ?_)
 exact zq.h):Xo n Q P:=zh
theorem J3 (zh:Xo n Q P:=by
 apply Zom;intro zq;rotate_left;simp
 first
 |(exact Zt 1;refine al (Gi f a hok hh y hcap) ?_)
 |(exact Zt 2;refine al (Gh f a hok hh y hcap) ?_)
 |(exact Zt 3;refine al (Ee f a hok hh y.a ⟨hft.2.1,hft.2.2.2.1⟩ oe hcap) ?_)
 |(exact Zt 4;refine al (Ee f a hok hh y.b ⟨hft.2.2.1,hft.2.2.2.2.1⟩ oe hcap) ?_)
 |(exact Zt 5;refine al (yO f a hok hh y G U V gc uc vc hyn hyl ⟨by omega,hl2⟩) ?_)
 |(exact Zt 6;refine al (Cp x size hs1 hs2) ?_)
 |(exact Zt 7;refine al (eN (s.getD 1 0).toNat 2 ob) ?_)
 |(exact Zt 8;refine al (Rx (ops.getD i Po.zero)) ?_)
 |(exact Zt 9;refine al (xW f a hok hh hft.2.2.2.2.2) ?_)
 |(exact Zt 10;refine al (iT lf inn out ops OA oc hops) ?_)
 |(exact Zt 11;refine al (k8 (aF a b a.length).length oe) ?_)
 |(exact Zt 12;refine al (mO sz n lf inn out ops seq st OA QA HA oc qc hc hops hql hhl) ?_)
 |(exact Zt 13;refine al (sk sz n lf inn out ops seq st OA QA HA oc qc hc hops hql hhl) ?_)
 |(exact Zt 14;refine aL (nM x.fl0 b x.fl0_ok hb0 ⟨x.lay.n,x.lay.a,x.lay.b,x.lay.s0,x.lay.s1,GA,x.lay.gs.length,gc,UA,x.lay.us.length,uc,VA,x.lay.ls.length,vc⟩ hcap Raw.s0 rfl) ?_)
 |(exact Zt 15;refine aL (BO false inn out ops OA oc hops (S:Int)) ?_)
 exact zq.h):Xo n Q P:=zh
theorem J2 (zh:Xo n Q P:=by
 apply Zom;intro zq;rotate_left;simp
 first
 |(exact Zt 1;refine aL (fk f a hok hh (y.gs.getD p6.toNat 0) c CA c.length cc rfl oe) ?_)
 |(exact Zt 2;refine aL (iR f a hok hh (aK f y.a y.b).oth (an f.size 0 (ax s)) QO f.size f.size hw0 oe) ?_)
 |(exact Zt 3;refine mq 0 rfl (Ev.build rfl rfl rfl rfl rfl rfl rfl) ?_)
 |(exact Zt 4;refine mq 0 rfl (ab rfl rfl rfl (Src.r 0 rfl) rfl rfl ob) ?_)
 |(exact Zt 5;refine mq 0 rfl (ab rfl rfl rfl (Src.r 4 rfl) rfl rfl ob) ?_)
 |(exact Zt 6;refine mq 0 rfl (ab rfl rfl rfl (Src.r 6 rfl) rfl rfl ob) ?_)
 |(exact Zt 7;refine mq 11 rfl (Ev.build rfl rfl rfl rfl rfl rfl rfl) ?_)
 |(exact Zt 8;refine mq 2 rfl (ab (vs:=(flL f a)) rfl rfl rfl (Src.r 4 rfl) rfl rfl ob) ?_)
 |(exact Zt 9;refine mq 2 rfl (ab (vs:=(flL f a)) rfl rfl rfl (Src.r 5 rfl) rfl rfl ob) ?_)
 |(exact Zt 10;refine mq 2 rfl (j8 rfl rfl rfl rfl) ?_)
 |(exact Zt 11;refine mq 3 rfl (ab (vs:=(flL f a)) rfl rfl rfl (Src.r 10 rfl) rfl rfl ob) ?_)
 |(exact Zt 12;refine mq 3 rfl (ab (vs:=[.int .i64 (rxo (bJ f y k h).x (bJ f y k h).done).kind,.int .i64 (rxo (bJ f y k h).x (bJ f y k h).done).sec,.int .i64 (rxo (bJ f y k h).x (bJ f y k h).done).at_,.slice GO (rxo (bJ f y k h).x (bJ f y k h).done).data.length goc]) rfl rfl rfl (Src.r 15 rfl) rfl rfl ob) ?_)
 |(exact Zt 13;refine mq 3 rfl (ab (vs:=[.int .i64 p0,.int .i64 p1,.int .i64 p2,.int .i64 p3,.int .i64 p4,.int .i64 p5,.int .i64 (p6+1),.int .i64 p7,.int .i64 p8]) rfl rfl rfl (Src.r 0 rfl) rfl rfl ob) ?_)
 |(exact Zt 14;refine mq 3 rfl (ab (vs:=[.int .i64 p0,.int .i64 p1,.int .i64 p2,.int .i64 p3,.int .i64 p4,.int .i64 p5,.int .i64 p6,.int .i64 p7,.int .i64 p8]) rfl rfl rfl (Src.r 10 rfl) rfl rfl ob) ?_)
 |(exact Zt 15;refine mq 4 rfl (ae (k:=kk) rfl rfl rfl rfl rfl rfl rfl oe (Src.r 7 rfl) ov) ?_)
 exact zq.h):Xo n Q P:=zh
theorem J1 (zh:Xo n Q P:=by
 apply Zom;intro zq;rotate_left;simp
 first
 |(exact Zt 1;refine mq 4 rfl (ab (vs:=(flL f a)) rfl rfl rfl (Src.r 10 rfl) rfl rfl ob) ?_)
 |(exact Zt 2;refine mq 5 rfl (Ev.cast (u:=.int .i64 (t:Int)) (Ev.load rfl rfl rfl (Src.r 7 rfl) (aG oe)) (congrArg (Value.int .i64) hst)) ?_)
 |(exact Zt 3;refine mq 6 rfl (Ev.add rfl rfl oe oe) ?_)
 |(exact Zt 4;refine mq 6 rfl (ab rfl rfl rfl (Src.r 1 rfl) rfl rfl ob) ?_)
 |(exact Zt 5;refine mq 7 rfl (Ev.build rfl rfl rfl rfl rfl rfl rfl) ?_)
 |(exact Zt 6;refine mq 7 rfl (ae (k:=p1.toNat) rfl rfl rfl rfl rfl rfl oe oe (Src.r 11 rfl) ov) ?_)
 |(exact Zt 7;refine mq 7 rfl (ab (vs:=(di y G U V gc uc vc)) rfl rfl rfl (Src.r 10 rfl) rfl rfl ob) ?_)
 |(exact Zt 8;refine mq 8 rfl (Ev.load rfl rfl rfl (Src.r 11 rfl) (aG oe)) ?_)
 |(exact Zt 9;refine qrt [0,1,2,3] [] [_,_] rfl ⟨⟨_,_,0,_,rfl,rfl,Src.o 0 rfl,.inl ⟨rfl,by decide,_,rfl,rfl,rfl⟩⟩,rfl,trivial⟩ ?_)
 |(exact Zt 10;refine qrt [1,2,3,4,10,11,12,15,16,17,18,0] [] [_] rfl ⟨⟨_,_,0,_,rfl,rfl,Src.o 0 rfl,.inl ⟨rfl,by decide,_,rfl,rfl,rfl⟩⟩,trivial⟩ ?_)
 |(exact Zt 11;refine qrt [1,2,3,4] [] [_,_] rfl ⟨⟨_,_,0,_,rfl,rfl,Src.o 1 rfl,.inl ⟨rfl,by decide,_,rfl,rfl,rfl⟩⟩,rfl,trivial⟩ ?_)
 |(exact Zt 12;refine qrt [8] [] [_] rfl ⟨⟨_,_,0,_,rfl,rfl,Src.o 0 rfl,.inl ⟨rfl,by decide,_,rfl,rfl,rfl⟩⟩,trivial⟩ ?_)
 |(exact Zt 13;refine qrt [] [0,1,2] [] rfl trivial ?_)
 |(exact Zt 14;refine qrt [] [] [_,_,_] rfl ⟨⟨_,_,0,_,rfl,rfl,Src.o 0 rfl,.inl ⟨rfl,by decide,_,rfl,rfl,rfl⟩⟩,rfl,rfl,trivial⟩ ?_)
 |(exact Zt 15;refine sp ((Ev.cast (u:=.int .u64 (0)) (Ev.shr rfl rfl ob) (congrArg (Value.int .u64) (G5 n hn)))) ?_)
 exact zq.h):Xo n Q P:=zh
theorem J0 (zh:Xo n Q P:=by
 apply Zom;intro zq;rotate_left;simp
 first
 |(exact Zt 1;refine sp ((Ev.cast (u:=.int .u64 (n)) (Ev.pure rfl) (congrArg (Value.int .u64) (EF n hn)))) ?_)
 |(exact Zt 2;refine sp ((Ev.cast (u:=.int .u64 (n)) (Ev.pure rfl) (congrArg (Value.int .u64) (so n oe)))) ?_)
 |(exact Zt 3;refine sp (Ev.cast (u:=.agg (List.toArray (.int .i64 (x.fl.size:Int)::.slice b2.D x.fl.data.length b2.cD::.slice b2.W x.fl.wear.length b2.cW::.int .i64 x.fl.limit::.slice b2.E x.fl.dead.length b2.cE::.int .i64 x.lay.n::.int .i64 x.lay.a::.int .i64 x.lay.b::.int .i64 x.lay.s0::.int .i64 x.lay.s1::.slice GA x.lay.gs.length gc::.slice UA x.lay.us.length uc::.slice VA x.lay.ls.length vc::.int .i64 5::.int .i64 4::.int .i64 (x.S:Int)::.int .i64 (x.n:Int)::.bool false::.int .i64 (x.m:Int)::.int .i64 (x.m:Int)::.slice PO x.ops.length c1::.slice PQ x.seq.length c2::.slice PH x.st.length c3::.slice none 0 0::.bool true::.slice IA x.img.length ic::.slice NA x.new.length nc::.int .i64 (x.st.length:Int)::.int .i64 (x.u:Int)::.int .i64 x.nd.r::.int .i64 x.nd.e::.int .i64 x.nd.o::[]))) (Ev.build rfl rfl rfl rfl rfl rfl rfl) rfl) ?_)
 |(exact Zt 4;refine sp (Ev.cast (u:=.agg (List.toArray (.int .i64 5::.int .i64 4::.int .i64 (x.S:Int)::.int .i64 (x.n:Int)::.bool false::.int .i64 (x.m:Int)::.int .i64 (x.m:Int)::.slice PO x.ops.length c1::.slice PQ x.seq.length c2::.slice PH x.st.length c3::.slice none 0 0::.bool true::[]))) (Ev.build rfl rfl rfl rfl rfl rfl rfl) rfl) ?_)
 |(exact Zt 5;refine sp (Ev.cast (u:=.agg (List.toArray (.int .i64 5::.int .i64 4::.int .i64 (x.S:Int)::.int .i64 (x.n:Int)::.bool false::.int .i64 (x.m:Int)::.int .i64 (x.m:Int)::.slice PO x.ops.length c1::.slice PQ x.seq.length c2::.slice PH x.st.length c3::.slice none 0 0::[]))) (Ev.build rfl rfl rfl rfl rfl rfl rfl) rfl) ?_)
 |(exact Zt 6;refine sp (Ev.cast (u:=.int .i64 ((((aF a b a.length).getD k (0,0)).2-((aF a b a.length).getD k (0,0)).1:Nat):Int)) (Ev.sub rfl rfl oe oe) (congrArg (Value.int .i64) oe)) ?_)
 |(exact Zt 7;refine sp (Ev.cast (u:=.int .i64 (((ndC (ndN (ndU (ndT old (bf old (ah ops)) S seq) S) st.length seq.length) (ndW S)):Nat):Int)) (Ev.add rfl rfl oe oe) (congrArg (Value.int .i64) obp)) ?_)
 |(exact Zt 8;refine sp (Ev.cast (u:=.int .i64 (((ML (ndU (ndT old (bf old (ah ops)) S seq) S) st.length seq.length (ndC (ndN (ndU (ndT old (bf old (ah ops)) S seq) S) st.length seq.length) (ndW S))):Nat):Int)) (Ev.add rfl rfl oe oe) (congrArg (Value.int .i64) (by unfold ML;omega))) ?_)
 |(exact Zt 9;refine sp (Ev.cast (u:=.int .i64 (((ndN (ndU (ndT old (bf old (ah ops)) S seq) S) st.length seq.length):Nat):Int)) (Ev.add rfl rfl oe oe) (congrArg (Value.int .i64) obn)) ?_)
 |(exact Zt 10;refine sp (Ev.cast (u:=.int .i64 (((MK (ndU (ndT old (bf old (ah ops)) S seq) S) st.length seq.length (ndN (ndU (ndT old (bf old (ah ops)) S seq) S) st.length seq.length) (ndC (ndN (ndU (ndT old (bf old (ah ops)) S seq) S) st.length seq.length) (ndW S))):Nat):Int)) (Ev.add rfl rfl oe oe) (congrArg (Value.int .i64) (by unfold MK;omega))) ?_)
 |(exact Zt 11;refine sp (Ev.cast (u:=.int .i64 (((ndQ (ndN (ndU (ndT old (bf old (ah ops)) S seq) S) st.length seq.length) (ndW S)):Nat):Int)) (Ev.quo rfl rfl oe oe oe) (congrArg (Value.int .i64) oaI)) ?_)
 |(exact Zt 12;refine sp (Ev.cast (u:=.int .i64 (((ndW S):Nat):Int)) (Ev.cast (u:=.int .i64 (max 1 (((S-8)/30:Nat):Int))) (Ev.pure rfl) (congrArg (Value.int .i64) O7)) (congrArg (Value.int .i64) obo)) ?_)
 |(exact Zt 13;refine sp (Ev.cast (u:=.int .i64 (((iz (UInt8.ofInt sec) a (aF a b a.length) k).length+2:Nat):Int)) (Ev.add rfl rfl oe oe) (congrArg (Value.int .i64) oe)) ?_)
 |(exact Zt 14;refine sp (Ev.cast (u:=.int .i64 ((8*(w-1-k):Nat):Int)) (Ev.mul rfl rfl oe oe) (congrArg (Value.int .i64) oe)) ?_)
 |(exact Zt 15;refine sp (Ev.cast (u:=.int .i64 ((8+30*k:Nat):Int)) (Ev.add rfl rfl oe oe) (congrArg (Value.int .i64) oe)) ?_)
 exact zq.h):Xo n Q P:=zh
theorem JZ (zh:Xo n Q P:=by
 apply Zom;intro zq;rotate_left;simp
 first
 |(exact Zt 1;refine sp (Ev.cast (u:=.int .i64 ((k/S:Nat):Int)) (Ev.quo rfl rfl oe oe oe) (congrArg (Value.int .i64) (Int.natCast_ediv k S).symm)) ?_)
 |(exact Zt 2;refine sp (Ev.cast (u:=.int .i64 ((m:Nat):Int)) (Ev.sub rfl rfl oe oe) (congrArg (Value.int .i64) oe)) ?_)
 |(exact Zt 3;refine sp (Ev.cast (u:=.int .i64 ((ej f:Nat):Int)) (Ev.quo rfl rfl oe oe oe) (congrArg (Value.int .i64) obO)) ?_)
 |(exact Zt 4;refine sp (Ev.cast (u:=.int .u8 ((((l.getD i (0,0,0)).1.toNat%4):Nat):Int)) (Ev.rem rfl rfl oe ob) (congrArg (Value.int .u8) OK)) ?_)
 |(exact Zt 5;refine sp (Ev.cast (u:=.slice (a.hs.getD s.toNat (none,0)).1 ((f.data.getD s.toNat []).take 8).length (a.hs.getD s.toNat (none,0)).2) (bn (h:=8) rfl rfl rfl rfl rfl rfl oe) qW) ?_)
 |(exact Zt 6;refine sp (Ev.fieldAddr rfl rfl rfl rfl rfl rfl (Src.o 0 rfl) (bA (k:=0) oe) rfl) ?_)
 |(exact Zt 7;refine sp (Ev.fieldAddr rfl rfl rfl rfl rfl rfl (Src.r 0 rfl) (bA (k:=i) Qs) rfl) ?_)
 |(exact Zt 8;refine sp (Ev.fieldAddr rfl rfl rfl rfl rfl rfl (Src.r 1 rfl) (lP (k:=i) oe) rfl) ?_)
 |(exact Zt 9;refine sp (cn (k:=(aF a b k).length-1) (m:=((aF a b k).length-1)*2) rfl rfl rfl rfl rfl oe oe (Src.o 0 rfl) (bA (k:=(aF a b k).length-1) oe) rfl) ?_)
 |(exact Zt 10;refine sp (cn (k:=i) (m:=i*2) rfl rfl rfl rfl rfl rfl Qs (Src.r 0 rfl) (bA (k:=i) Qs) rfl) ?_)
 |(exact Zt 11;refine sp (ae (k:=(k/S)) rfl rfl rfl rfl rfl rfl rfl oe (Src.o 0 rfl) oaA) ?_)
 |(exact Zt 12;refine sp (ae (k:=(k/S)) rfl rfl rfl rfl rfl rfl rfl oe (Src.o 2 rfl) qE) ?_)
 |(exact Zt 13;refine sp (ae (k:=(l.getD i Sy.zero).at_.toNat) rfl rfl rfl rfl rfl rfl oe oe (Src.r 0 rfl) oG) ?_)
 |(exact Zt 14;refine sp (ae (k:=(aj f y.a y.b).sec.toNat) rfl rfl rfl rfl rfl rfl (by rw [hkp.1];omega) oe (Src.r 2 rfl) ow) ?_)
 |(exact Zt 15;refine sp (ae (k:=(us.getD k 0).toNat) rfl rfl rfl rfl rfl rfl oe oe (Src.r 2 rfl) ow) ?_)
 exact zq.h):Xo n Q P:=zh
theorem JY (zh:Xo n Q P:=by
 apply Zom;intro zq;rotate_left;simp
 first
 |(exact Zt 1;refine sp (ae (k:=i) rfl rfl rfl rfl rfl rfl rfl oe (Src.r 0 rfl) O0) ?_)
 |(exact Zt 2;refine sp (ae (k:=i) rfl rfl rfl rfl rfl rfl rfl oe (Src.r 0 rfl) ow) ?_)
 |(exact Zt 3;refine sp (ae (k:=i) rfl rfl rfl rfl rfl rfl rfl oe (Src.r 0 rfl) qI) ?_)
 |(exact Zt 4;refine sp (ae (k:=i) rfl rfl rfl rfl rfl rfl rfl oe (Src.r 4 rfl) ov) ?_)
 |(exact Zt 5;refine sp (ae (k:=k) rfl rfl rfl rfl rfl rfl rfl oe (Src.r 6 rfl) ov) ?_)
 |(exact Zt 6;refine sp (ae (k:=s.toNat) rfl rfl rfl rfl rfl rfl oe oe (Src.r 1 rfl) ow) ?_)
 |(exact Zt 7;refine sp (ae (k:=u) rfl rfl rfl rfl rfl rfl rfl oe (Src.r 0 rfl) Qi) ?_)
 |(exact Zt 8;refine sp (av (k:=0) (m:=i*3+0) rfl rfl rfl rfl rfl rfl ob (Src.r 0 rfl) (iQ (k:=i) oe) rfl) ?_)
 |(exact Zt 9;refine sp (av (k:=2) (m:=i*3+2) rfl rfl rfl rfl rfl rfl ob (Src.r 0 rfl) (iQ (k:=i) oe) rfl) ?_)
 |(exact Zt 10;refine sp (av (k:=3) (m:=4) rfl rfl rfl rfl rfl rfl ob (Src.r 10 rfl) (Nat.zero_lt_of_lt (show 1<6 by decide)) rfl) ?_)
 |(exact Zt 11;refine sp (av (k:=k) (m:=k) rfl rfl rfl rfl rfl rfl oe (Src.o 0 rfl) oX oa4) ?_)
 |(exact Zt 12;refine sp (Ev.load rfl rfl rfl ((Src.kid 1 rfl qp (u) qU).cast (dq _)) (aG oe)) ?_)
 |(exact Zt 13;refine sp (Ev.load rfl rfl rfl (Src.o 0 rfl) (aG obJ)) ?_)
 |(exact Zt 14;refine sp (Ev.load rfl rfl rfl (Src.o 2 rfl) (aG oe)) ?_)
 |(exact Zt 15;refine sp (Ev.load rfl rfl rfl (Src.r 0 rfl) ((bG (aF a b a.length) k 0 hk2 ob).trans rfl)) ?_)
 exact zq.h):Xo n Q P:=zh
theorem JX (zh:Xo n Q P:=by
 apply Zom;intro zq;rotate_left;simp
 first
 |(exact Zt 1;refine sp (Ev.load rfl rfl rfl (Src.r 0 rfl) ((iq (i:=i) (j:=0) oe ob).trans rfl)) ?_)
 |(exact Zt 2;refine sp (Ev.load rfl rfl rfl (Src.r 0 rfl) ((iq (i:=i) (j:=2) oe ob).trans rfl)) ?_)
 |(exact Zt 3;refine sp (Ev.load rfl rfl rfl (Src.r 0 rfl) (kY (by rw [rdC,dP];omega))) ?_)
 |(exact Zt 4;refine sp (Ev.load rfl rfl rfl (Src.r 0 rfl) (bp oo)) ?_)
 |(exact Zt 5;refine sp (Ev.load rfl rfl rfl (Src.r 0 rfl) (aN hh oe)) ?_)
 |(exact Zt 6;refine sp (Ev.load rfl rfl rfl (Src.r 0 rfl) (cv hmhs oe)) ?_)
 |(exact Zt 7;refine sp (Ev.load rfl rfl rfl (Src.r 0 rfl) (cv obr obR)) ?_)
 |(exact Zt 8;refine sp (Ev.load rfl rfl rfl (Src.r 1 rfl) ((tq (i:=i) (j:=2) oe ob).trans rfl)) ?_)
 |(exact Zt 9;refine sp (Ev.load rfl rfl rfl (Src.r 1 rfl) ((eK (i:=i) (j:=1) oe ob).trans rfl)) ?_)
 |(exact Zt 10;refine sp (Ev.load rfl rfl rfl (Src.r 4 rfl) (aG oe)) ?_)
 |(exact Zt 11;refine sp (Ev.load rfl rfl rfl (Src.r 5 rfl) (aG oe)) ?_)
 |(exact Zt 12;refine sp (Ev.load rfl rfl rfl (Src.r 6 rfl) (aG oe)) ?_)
 |(exact Zt 13;refine sp (Ev.load rfl rfl rfl (Src.r 6 rfl) (aN hh oe)) ?_)
 |(exact Zt 14;refine sp (Ev.load rfl rfl rfl (Src.r 8 rfl) (aG oe)) ?_)
 |(exact Zt 15;refine sp (ab (vs:=(flL x.fl c.b)) rfl rfl rfl (Src.r 10 rfl) rfl rfl ob) ?_)
 exact zq.h):Xo n Q P:=zh
theorem JW (zh:Xo n Q P:=by
 apply Zom;intro zq;rotate_left;simp
 first
 |(exact Zt 1;refine sp (ab (vs:=[.int .i64 p0,.int .i64 (p1+1),.int .i64 p2,.int .i64 p3,.int .i64 p4,.int .i64 p5,.int .i64 p6,.int .i64 p7,.int .i64 p8]) rfl rfl rfl (Src.r 0 rfl) rfl rfl ob) ?_)
 |(exact Zt 2;refine sp (ab (vs:=[.int .i64 p0,.int .i64 p1,.int .i64 p2,.int .i64 p3,.int .i64 p4,.int .i64 p5,.int .i64 (p6+1),.int .i64 p7,.int .i64 p8]) rfl rfl rfl (Src.r 0 rfl) rfl rfl ob) ?_)
 |(exact Zt 3;refine sp (ab (vs:=[.int .i64 p0,.int .i64 p1,.int .i64 p2,.int .i64 p3,.int .i64 p4,.int .i64 p5,.int .i64 p6,.int .i64 p7,.int .i64 p8]) rfl rfl rfl (Src.r 1 rfl) rfl rfl ob) ?_)
 |(exact Zt 4;refine sp (ab (vs:=[.int .i64 p0,.int .i64 p1,.int .i64 p2,.int .i64 p3,.int .i64 p4,.int .i64 p5,.int .i64 p6,.int .i64 p7,.int .i64 p8]) rfl rfl rfl (Src.r 2 rfl) rfl rfl ob) ?_)
 |(exact Zt 5;refine sp (ab (vs:=[_,_,_,_,_,_,_,_]) rfl rfl rfl (Src.r 1 rfl) rfl rfl ob) ?_)
 |(exact Zt 6;refine sp (ab (vs:=[_,_,_,_,_,_,_,_]) rfl rfl rfl (Src.r 14 rfl) rfl rfl ob) ?_)
 |(exact Zt 7;refine sp (ab (vs:=[_,_,_,_,_,_,_,_]) rfl rfl rfl (Src.r 4 rfl) rfl rfl ob) ?_)
 |(exact Zt 8;refine sp (ab (vs:=[_,_,_,_,_,_,_,_]) rfl rfl rfl (Src.r 9 rfl) rfl rfl ob) ?_)
 |(exact Zt 9;refine sp (ab (vs:=[_,_,_,_,_]) rfl rfl rfl (Src.r 13 rfl) rfl rfl ob) ?_)
 |(exact Zt 10;refine sp (ab (vs:=[_,_,_,_]) rfl rfl rfl (Src.r 13 rfl) rfl rfl ob) ?_)
 |(exact Zt 11;refine sp (ab rfl rfl rfl (Src.o 0 rfl) rfl rfl ob) ?_)
 |(exact Zt 12;refine sp (Dy (q:=(S-8)/30) rfl rfl rfl HI oe oe) ?_)
 |(exact Zt 13;refine sp (bn (h:=0) rfl rfl rfl rfl rfl rfl (Nat.le_refl _)) ?_)
 |(exact Zt 14;refine sp (bn (h:=k) rfl rfl rfl rfl rfl rfl oe) ?_)
 |(exact Zt 15;refine sp (bn (h:=p) rfl rfl rfl rfl rfl rfl oe) ?_)
 exact zq.h):Xo n Q P:=zh
theorem JU (zh:Xo n Q P:=by
 apply Zom;intro zq;rotate_left;simp
 first
 |(exact Zt 1;refine sp (bt (l:=1) rfl rfl rfl rfl rfl rfl oe) ?_)
 |(exact Zt 2;refine sp (bE (l:=((aF a b a.length).getD k (0,0)).1) (h:=((aF a b a.length).getD k (0,0)).2) rfl rfl rfl rfl rfl rfl rfl rfl oe oe) ?_)
 |(exact Zt 3;refine sp (vL rfl rfl rfl rfl) ?_)
 |(exact Zt 4;refine sq (Ev.fieldAddr rfl rfl rfl rfl rfl rfl (Src.r 0 rfl) (bA (k:=k) oe) rfl) ?_)
 |(exact Zt 5;refine sq (Ev.fieldAddr rfl rfl rfl rfl rfl rfl (Src.r 1 rfl) (dx (k:=(u*S+j)) oe) rfl) ?_)
 |(exact Zt 6;refine sq (cn (k:=(u*S+j)) (m:=(u*S+j)*3) rfl rfl rfl rfl rfl rfl oe (Src.r 1 rfl) (dx (k:=(u*S+j)) oe) rfl) ?_)
 |(exact Zt 7;refine sq (cn (k:=i) (m:=i*5) rfl rfl rfl rfl rfl rfl oe (Src.r 1 rfl) (lP (k:=i) oe) rfl) ?_)
 |(exact Zt 8;refine sq (cn (k:=k) (m:=k*2) rfl rfl rfl rfl rfl oe oe (Src.r 0 rfl) (bA (k:=k) oe) rfl) ?_)
 |(exact Zt 9;refine sq (ae (k:=i) rfl rfl rfl rfl rfl rfl rfl oe (Src.r 2 rfl) Qq) ?_)
 |(exact Zt 10;refine sq (ae (k:=i) rfl rfl rfl rfl rfl rfl rfl oe (Src.r 4 rfl) ov) ?_)
 |(exact Zt 11;refine sq (ae (k:=k) rfl rfl rfl rfl rfl rfl rfl oe (Src.r 0 rfl) ov) ?_)
 |(exact Zt 12;refine sq (ae (k:=k) rfl rfl rfl rfl rfl rfl rfl oe (Src.r 9 rfl) oG) ?_)
 |(exact Zt 13;refine sq (Ev.load rfl rfl rfl (Src.r 0 rfl) (bp oo)) ?_)
 |(exact Zt 14;refine sq (Ev.load rfl rfl rfl (Src.r 1 rfl) (aN hh oe)) ?_)
 |(exact Zt 15;refine sq (Ev.load rfl rfl rfl (Src.r 9 rfl) (bp oe)) ?_)
 exact zq.h):Xo n Q P:=zh
theorem JT (zh:Xo n Q P:=by
 apply Zom;intro zq;rotate_left;simp
 first
 |(exact Zt 1;refine sq (Ev.nilCheck rfl (Src.r 0 rfl) ov) ?_)
 |(exact Zt 2;refine ⟨by simp,.func f,#[],f,#[],rfl,hrec.fn w,?_⟩)
 |(exact Zt 3;rw [BitVec.ofInt_natCast,BitVec.toNat_ofNat])
 |(exact Zt 4;rw [List.Nodup,List.pairwise_iff_getElem])
 |(exact Zt 5;rw [List.getD_eq_getElem?_getD,List.getElem?_eq_getElem hi])
 |(exact Zt 6;rw [List.getElem?_append_left (List.getElem?_eq_some_iff.1 hq).1])
 |(exact Zt 7;rw [List.length_append,List.length_append,List.length_replicate])
 |(exact Zt 8;rw [List.length_append,List.length_replicate])
 |(exact Zt 9;rw [Et (s:=[p0,p1,p2,p3,p4,p5,p6,p7,p8]) hc15])
 |(exact Zt 10;rw [Es (s:=[p0,p1,p2,p3,p4,p5,p6,p7,p8]) hc15 hc32])
 |(exact Zt 11;rw [Er (s:=[p0,p1,p2,p3,p4,p5,p6,p7,p8]) hc15 hc32 hc41])
 |(exact Zt 12;rw [Ep (s:=[p0,p1,p2,p3,p4,p5,p6,p7,p8]) hc15 hc32 hc41 hc53])
 |(exact Zt 13;rw [uA (s:=[p0,p1,p2,p3,p4,p5,p6,p7,p8]) hc15 hc32 hc41 hc53 hc57])
 |(exact Zt 14;rw [Eo (s:=[p0,p1,p2,p3,p4,p5,p6,p7,p8]) hc15 hc32 hc41 hc53 hc57 hc83])
 |(exact Zt 15;rw [En (s:=[p0,p1,p2,p3,p4,p5,p6,p7,p8]) hc15 hc32 hc41 hc53 hc57 hc83])
 exact zq.h):Xo n Q P:=zh
theorem JS (zh:Xo n Q P:=by
 apply Zom;intro zq;rotate_left;simp
 first
 |(exact Zt 1;rw [if_neg oe,hinv,iL oe,decide_eq_true oe])
 |(exact Zt 2;rw [Cs (s:=[p0,p1,p2,p3,p4,p5,p6,p7,p8]) hlay hc22 hs9 (.inl hc30)])
 |(exact Zt 3;rw [Cs (s:=[p0,p1,p2,p3,p4,p5,p6,p7,p8]) hlay hc22 hs9 (.inr (.inl hc30))])
 |(exact Zt 4;rw [Cs (s:=[p0,p1,p2,p3,p4,p5,p6,p7,p8]) hlay hc22 hs9 (.inr (.inr hc30))])
 |(exact Zt 5;rw [IM (s:=[p0,p1,p2,p3,p4,p5,p6,p7,p8]) hlay hc22 hs9 hc35])
 |(exact Zt 6;rw [IL (s:=[p0,p1,p2,p3,p4,p5,p6,p7,p8]) hlay hc22 hs9 hc43])
 |(exact Zt 7;rw [IK (s:=[p0,p1,p2,p3,p4,p5,p6,p7,p8]) hlay hc22 hs9 (show ¬(p0=0∨p0=4∨p0=5)∧¬p0=6∧¬p0>6 by omega) hc51])
 |(exact Zt 8;rw [IJ (s:=[p0,p1,p2,p3,p4,p5,p6,p7,p8]) hlay hc22 hs9 hc51 hc56])
 |(exact Zt 9;rw [II (s:=[p0,p1,p2,p3,p4,p5,p6,p7,p8]) hlay hc22 hs9 hc51 hc65])
 |(exact Zt 10;rw [IH (s:=[p0,p1,p2,p3,p4,p5,p6,p7,p8]) hlay hc22 hs9 hc51 (show ¬(p0=0∨p0=4∨p0=5)∧¬p0=6∧¬p0>6 by omega) hc56 hc65])
 |(exact Zt 11;rw [ak hi,dE _ _ _ _ hi])
 |(exact Zt 12;rw [rD (show (aK f y.a y.b)=aq f y.a y.b from cM hyes) (show (aK f y.a y.b).found=true by rw [cM hyes];exact hyes) hright hc30])
 |(exact Zt 13;rw [rB (show (aK f y.a y.b)=aq f y.a y.b from cM hyes) (show (aK f y.a y.b).found=true by rw [cM hyes];exact hyes) hright hne hlt])
 |(exact Zt 14;rw [rA (show (aK f y.a y.b)=aq f y.a y.b from cM hyes) (show (aK f y.a y.b).found=true by rw [cM hyes];exact hyes) hright hne hlt hrd])
 |(exact Zt 15;rw [Ig (s:=[p0,p1,p2,p3,p4,p5,p6,p7,p8]) hc14])
 exact zq.h):Xo n Q P:=zh
theorem JQ (zh:Xo n Q P:=by
 apply Zom;intro zq;rotate_left;simp
 first
 |(exact Zt 1;rw [If (s:=[p0,p1,p2,p3,p4,p5,p6,p7,p8]) (by show ¬_;exact Int.not_le.2 hsg)])
 |(exact Zt 2;rw [If (s:=[p0,p1,p2,p3,p4,p5,p6,p7,p8]) hc14])
 |(exact Zt 3;rw [DX (s:=[p0,p1,p2,p3,p4,p5,p6,p7,p8]) hc25 hc33 hc40])
 |(exact Zt 4;rw [td (s:=[p0,p1,p2,p3,p4,p5,p6,p7,p8]) hc25 hc33 hc40])
 |(exact Zt 5;rw [Fe hps oe oe,lA hps oe oe,hol])
 |(exact Zt 6;rw [u1,hrs,Sem.run_bind,Array.mapM_eq_mapM_toList,Sem.run_map])
 |(exact Zt 7;rw [HS (s:=[p0,p1,p2,p3,p4,p5,p6,p7,p8]) hc16])
 |(exact Zt 8;rw [Bb (s:=[p0,p1,p2,p3,p4,p5,p6,p7,p8]) hc16 (.inl hg31) hc44])
 |(exact Zt 9;rw [Bb (s:=[p0,p1,p2,p3,p4,p5,p6,p7,p8]) hc16 (.inr hg36) hc44])
 |(exact Zt 10;rw [m6 (s:=[p0,p1,p2,p3,p4,p5,p6,p7,p8]) hc16 oaK])
 |(exact Zt 11;rw [show (dF f y [p0,p1,p2,p3,p4,p5,p6,p7,p8])=(aR f y.a y.b [0,0,0,0,0,1-p5,p6,p8,p8]) from Eq.trans (Et (s:=[p0,p1,p2,p3,p4,p5,p6,p7,p8]) hc14) (dd ..)])
 |(exact Zt 12;rw [show (dF f y [p0,p1,p2,p3,p4,p5,p6,p7,p8])=(aR f y.a y.b [p0,p1,0,(aW (aI f y.us) (f.size:Int) p3).at_,p4,p5,p6,p7,p8]) from Eq.trans (uA (s:=[p0,p1,p2,p3,p4,p5,p6,p7,p8]) hc14 hc29 h47 hc56 hc60) (ea hge hc63)])
 |(exact Zt 13;rw [show (dF f y [p0,p1,p2,p3,p4,p5,p6,p7,p8])=(sgF f y [p0,p1,p2,p3,p4,p5,p6,p7,p8] (pW (aV f ((((aW (aI f y.us) (f.size:Int) p3).b.getD 0 0).toNat:Nat):Int)) (aW (aI f y.us) (f.size:Int) p3).b)) from En (s:=[p0,p1,p2,p3,p4,p5,p6,p7,p8]) hc14 hc29 h47 hc56 hc60 h84])
 |(exact Zt 14;rw [show (bJ f y k h)=nxE _ from (D9 f y k h).bad_eq hge])
 |(exact Zt 15;rw [show (dQ f y [p0,p1,p2,p3,p4,p5,p6,p7,p8] k.pl)=(aR f y.a y.b [2,0,p2,p3,p4,p5,p6,p7,p8]) from Eq.trans (DX (s:=[p0,p1,p2,p3,p4,p5,p6,p7,p8]) h37 hc46 hc56) (dd ..)])
 exact zq.h):Xo n Q P:=zh
theorem JP (zh:Xo n Q P:=by
 apply Zom;intro zq;rotate_left;simp
 first
 |(exact Zt 1;rw [show (dQ f y [p0,p1,p2,p3,p4,p5,p6,p7,p8] k.pl)=(aR f y.a y.b [p0,(p1+1),p2,p3,p4,p5,p6,p7,p8]) from Eq.trans (td (s:=[p0,p1,p2,p3,p4,p5,p6,p7,p8]) h37 hc46 hc56) (ea hge hc87)])
 |(exact Zt 2;rw [show (sgF f y [p0,p1,p2,p3,p4,p5,p6,p7,p8] c)=(aR f y.a y.b [p0,p1,(p2+1),p3,p4,p5,p6,p7,p8]) from Eq.trans (m6 (s:=[p0,p1,p2,p3,p4,p5,p6,p7,p8]) (Int.not_le.2 hsg) Qe) (ea hge hc53)])
 |(exact Zt 3;rw [show (sgF f y [p0,p1,p2,p3,p4,p5,p6,p7,p8] c)=(aR f y.a y.b [p0,p1,p2,p3,p4,p5,(p6+1),p7,p8]) from Eq.trans (Bb (s:=[p0,p1,p2,p3,p4,p5,p6,p7,p8]) (Int.not_le.2 hsg) (.inl hg26) hc41) (dd ..)])
 |(exact Zt 4;rw [show (sgF f y [p0,p1,p2,p3,p4,p5,p6,p7,p8] c)=(aR f y.a y.b [p0,p1,p2,p3,p4,p5,(p6+1),p7,p8]) from Eq.trans (Bb (s:=[p0,p1,p2,p3,p4,p5,p6,p7,p8]) (Int.not_le.2 hsg) (.inr hg30) hc41) (dd ..)])
 |(exact Zt 5;rw [show (sgF f y [p0,p1,p2,p3,p4,p5,p6,p7,p8] c)=(nxE 220) from HS (s:=[p0,p1,p2,p3,p4,p5,p6,p7,p8]) hsg])
 |(exact Zt 6;rw [show (sgF f y [p0,p1,p2,p3,p4,p5,p6,p7,p8] c)=(aO f (y.gs.getD p6.toNat 0) c) from Eq.trans (m6 (s:=[p0,p1,p2,p3,p4,p5,p6,p7,p8]) (Int.not_le.2 hsg) (fun q=>hc41 q.2)) (bU (.inl hge))])
 |(exact Zt 7;rw [show (sgF f y [p0,p1,p2,p3,p4,p5,p6,p7,p8] c)=(aO f (y.gs.getD p6.toNat 0) c) from Eq.trans (m6 (s:=[p0,p1,p2,p3,p4,p5,p6,p7,p8]) (Int.not_le.2 hsg) (fun q=>hc41 q.2)) (bU (.inr hc53))])
 |(exact Zt 8;rw [show (eE f y [p0,p1,p2,p3,p4,p5,p6,p7,p8] k.pl)=(aR f y.a y.b [3,0,p2,p3,p4,p5,p6,p7,p8]) from Eq.trans (DK (s:=[p0,p1,p2,p3,p4,p5,p6,p7,p8]) hc18) (dd ..)])
 |(exact Zt 9;rw [show (eE f y [p0,p1,p2,p3,p4,p5,p6,p7,p8] k.pl)=(aR f y.a y.b [p0,(p1+1),p2,p3,p4,p5,p6,p7,p8]) from Eq.trans (sI (s:=[p0,p1,p2,p3,p4,p5,p6,p7,p8]) hc18) (ea hge hc54)])
 |(exact Zt 10;rw [show (dw f y [p0,p1,p2,p3,p4,p5,p6,p7,p8] k.pl)=(aR f y.a y.b [4,0,p2,p3,p4,p5,p6,p7,p8]) from Eq.trans (DF (s:=[p0,p1,p2,p3,p4,p5,p6,p7,p8]) hc22) (dd ..)])
 |(exact Zt 11;rw [show (dw f y [p0,p1,p2,p3,p4,p5,p6,p7,p8] k.pl)=(aR f y.a y.b [p0,(p1+1),0,p3,p4,p5,p6,p7,p8]) from Eq.trans (sj (s:=[p0,p1,p2,p3,p4,p5,p6,p7,p8]) hc22 hc30 hc39) (ea hge hc42)])
 |(exact Zt 12;rw [show (dw f y [p0,p1,p2,p3,p4,p5,p6,p7,p8] k.pl)=(aR f y.a y.b [p0,p1,1,(p3+((gI (k.pl.seq.getD p1.toNat 0) (aV f (k.pl.seq.getD p1.toNat 0)) (k.pl.cntV f y p1)).length:Int)),p4,p5,p6,p7,p8]) from Eq.trans (si (s:=[p0,p1,p2,p3,p4,p5,p6,p7,p8]) hc22 hc30 hc39 h71 hc74) (ea hge hc110)])
 |(exact Zt 13;rw [show (dw f y [p0,p1,p2,p3,p4,p5,p6,p7,p8] k.pl)=(sgF f y [p0,p1,p2,p3,p4,p5,p6,p7,p8] (k.pl.cntV f y p1)) from DC (s:=[p0,p1,p2,p3,p4,p5,p6,p7,p8]) hc22 hc30 hc39 h71 hc74])
 |(exact Zt 14;rw [show List.replicate f.size (255:UInt8)=(an f.size 0 []) from (CP oe).symm])
 |(exact Zt 15;rw [show bf x.img (ah x.ops)=x.new from rfl])
 exact zq.h):Xo n Q P:=zh
theorem JO (zh:Xo n Q P:=by
 apply Zom;intro zq;rotate_left;simp
 first
 |(exact Zt 1;rw [show syS (x.m:Int) (x.m:Int) x.ops=ah x.ops from by unfold syS;rw [if_pos x.chk]])
 |(exact Zt 2;rw [DK (s:=[p0,p1,p2,p3,p4,p5,p6,p7,p8]) hc16])
 |(exact Zt 3;rw [sI (s:=[p0,p1,p2,p3,p4,p5,p6,p7,p8]) hc16])
 |(exact Zt 4;rw [DF (s:=[p0,p1,p2,p3,p4,p5,p6,p7,p8]) hc21])
 |(exact Zt 5;rw [DE (s:=[p0,p1,p2,p3,p4,p5,p6,p7,p8]) hc21 hc31])
 |(exact Zt 6;rw [sj (s:=[p0,p1,p2,p3,p4,p5,p6,p7,p8]) hc21 hc31 hc41])
 |(exact Zt 7;rw [DD (s:=[p0,p1,p2,p3,p4,p5,p6,p7,p8]) hc21 hc31 hc41 hc66])
 |(exact Zt 8;rw [DC (s:=[p0,p1,p2,p3,p4,p5,p6,p7,p8]) hc21 hc31 hc41 hc66 hc71])
 |(exact Zt 9;rw [si (s:=[p0,p1,p2,p3,p4,p5,p6,p7,p8]) hc21 hc31 hc41 hc66 hc71])
 |(exact Zt 10;rw [← cK,← cK,← Ds,← uF])
 |(exact Zt 11;show (List.replicate (x.n+x.more) (0:Int)).getD i 0=0)
 |(exact Zt 12;show (List.replicate (x.n+x.more) false).getD i false=false)
 |(exact Zt 13;simp only [List.getD_eq_getElem?_getD,List.getElem?_take,List.getElem?_drop])
 |(exact Zt 14;simp only [List.getD_eq_getElem?_getD,List.getElem?_take])
 |(exact Zt 15;simp only [List.getElem?_take,List.getElem?_append,List.length_take,List.length_append,List.getElem?_drop,hcl])
 exact zq.h):Xo n Q P:=zh
theorem JN (zh:Xo n Q P:=by
 apply Zom;intro zq;rotate_left;simp
 first
 |(exact Zt 1;simp only [Result.andThen_ok,Sem.run_pure])
 |(exact Zt 2;simp only [e,List.length_append,dA])
 |(exact Zt 3;simp only [execOp,ho,Instr.buildSlice,Sem.run_bind,run_underlying e1,Result.andThen_ok,hS])
 |(exact Zt 4;simp only [execOp,ho,hρ _ _ hx,hρ _ _ hy,Sem.run_bind,hg,Result.andThen_ok,binOp_shr,Op.shift,if_neg hb,Sem.run_pure,IntKind.bits])
 |(exact Zt 5;simp only [wpQuiet,Region.wanted,if_true])
 |(exact Zt 6;apply Y 0xbee47e)
 |(exact Zt 7;apply Y 0x703fd80f)
 |(exact Zt 9;apply Y 0xf04fe1e)
 |(exact Zt 10;apply Y 0x68904f)
 |(exact Zt 11;apply Y 0x12ea04f)
 |(exact Zt 15;refine L.store (j:=1) rfl rfl rfl rfl rfl rfl rfl ou ?_)
 exact zq.h):Xo n Q P:=zh
theorem JM (zh:Xo n Q P:=by
 apply Zom;intro zq;rotate_left;simp
 first
 |(exact Zt 1;refine LA.alt [7] oa ob ⟨⟨_,rfl,?_⟩,trivial⟩)
 |(exact Zt 2;refine LM.cut [] oa hcx ?_)
 |(exact Zt 3;refine LM.nil oa trivial ?_)
 |(exact Zt 4;refine N7 ?_)
 |(exact Zt 5;refine KS ?_)
 |(exact Zt 7;refine sp (Ev.nilCheck rfl (Src.o 1 rfl) oy) ?_)
 exact zq.h):Xo n Q P:=zh
theorem Nl (zh:Xo n Q P:=by
 apply Zod;simp
 first
 |(exact Zt 0;exact KR)
 |(exact Zt 1;exact KQ)
 |(exact Zt 2;exact KP)
 |(exact Zt 3;exact KO)
 |(exact Zt 4;exact KN)
 |(exact Zt 5;exact KM)
 |(exact Zt 6;exact KL)
 |(exact Zt 7;exact KK)
 |(exact Zt 8;exact KJ)
 |(exact Zt 9;exact KI)
 |(exact Zt 10;exact KH)
 |(exact Zt 11;exact KG)
 |(exact Zt 12;exact KF)
 |(exact Zt 13;exact KE)
 |(exact Zt 14;exact KD)
 |(exact Zt 15;exact KC)):Xo n Q P:=zh
theorem Nk (zh:Xo n Q P:=by
 apply Zod;simp
 first
 |(exact Zt 0;exact KB)
 |(exact Zt 1;exact KA)
 |(exact Zt 2;exact Kz)
 |(exact Zt 3;exact Ky)
 |(exact Zt 4;exact Kx)
 |(exact Zt 5;exact Kw)
 |(exact Zt 6;exact Kv)
 |(exact Zt 7;exact Ku)
 |(exact Zt 8;exact Kt)
 |(exact Zt 9;exact Ks)
 |(exact Zt 10;exact Kr)
 |(exact Zt 11;exact Kq)
 |(exact Zt 12;exact Kp)
 |(exact Zt 13;exact Ko)
 |(exact Zt 14;exact Kn)
 |(exact Zt 15;exact Km)):Xo n Q P:=zh
theorem Nj (zh:Xo n Q P:=by
 apply Zod;simp
 first
 |(exact Zt 0;exact Kl)
 |(exact Zt 1;exact Kk)
 |(exact Zt 2;exact Kj)
 |(exact Zt 3;exact Ki)
 |(exact Zt 4;exact Kh)
 |(exact Zt 5;exact Kg)
 |(exact Zt 6;exact Kf)
 |(exact Zt 7;exact Ke)
 |(exact Zt 8;exact Kd)
 |(exact Zt 9;exact Kc)
 |(exact Zt 10;exact Kb)
 |(exact Zt 12;exact Ka)
 |(exact Zt 13;exact J9)
 |(exact Zt 14;exact J7)
 |(exact Zt 15;exact J6)):Xo n Q P:=zh
theorem Ni (zh:Xo n Q P:=by
 apply Zod;simp
 first
 |(exact Zt 0;exact J5)
 |(exact Zt 1;exact J4)
 |(exact Zt 2;exact J3)
 |(exact Zt 3;exact J2)
 |(exact Zt 4;exact J1)
 |(exact Zt 5;exact J0)
 |(exact Zt 6;exact JZ)
 |(exact Zt 7;exact JY)
 |(exact Zt 8;exact JX)
 |(exact Zt 9;exact JW)
 |(exact Zt 10;exact JU)
 |(exact Zt 11;exact JT)
 |(exact Zt 12;exact JS)
 |(exact Zt 13;exact JQ)
 |(exact Zt 14;exact JP)
 |(exact Zt 15;exact JO)):Xo n Q P:=zh
theorem Nh (zh:Xo n Q P:=by
 apply Zod;simp
 first
 |(exact Zt 0;exact JN)
 |(exact Zt 1;exact JM)):Xo n Q P:=zh
theorem RJ (zh:Xo n Q P:=by
 apply Zod;simp
 first
 |(exact Zt 0;exact Nl)
 |(exact Zt 1;exact Nk)
 |(exact Zt 2;exact Nj)
 |(exact Zt 3;exact Ni)
 |(exact Zt 4;exact Nh)):Xo n Q P:=zh
theorem zV (zh:Xo n Q P:=by
 apply Zod;simp
 first
 |(exact Zt 15;exact RJ)):Xo n Q P:=zh
theorem RP (zh:Xo n (Q∧R) P:=by
 apply Zop;intro zq zr;rotate_left;simp
 first
 |(exact Zt 7;refine ka _ rfl (imp of_decide_eq_true ?_) (imp of_decide_eq_false ?_))
 exact zq.h
 exact zr.h):Xo n (Q∧R) P:=zh
theorem RO (zh:Xo n (Q∧R) P:=by
 apply Zop;intro zq zr;rotate_left;simp
 first
 |(exact Zt 2;apply Zu 0x7938)
 |(exact Zt 3;refine ka _ rfl ?_ ?_)
 exact zq.h
 exact zr.h):Xo n (Q∧R) P:=zh
theorem RM (zh:Xo n (Q∧R) P:=by
 apply Zop;intro zq zr;rotate_left;simp
 first
 |(exact Zt 4;refine ka _ rfl (imp fA ?_) (imp fz ?_))
 |(exact Zt 13;refine ka _ rfl (imp mC ?_) (imp mD ?_))
 |(exact Zt 14;refine ⟨none,0,?_,?_,rfl⟩)
 exact zq.h
 exact zr.h):Xo n (Q∧R) P:=zh
theorem Zhb (zh:Xo n (Q∧R) P:=by
 apply Zod;simp
 first
 |(exact Zt 9;exact RP)
 |(exact Zt 10;exact RO)
 |(exact Zt 13;exact RM)):Xo n (Q∧R) P:=zh
theorem NG (zh:Xo n (Q∧R) P:=by
 apply Zop;intro zq zr;rotate_left;simp
 first
 |(exact Zt 15;refine bg (js:=[0]) (js':=[1,2,3]) (wg D A (l.drop (2*rq (k))) c (wds.getD k 0) hcc oo hw.2) rfl rfl rfl ob hcx rfl ?_ ?_)
 exact zq.h
 exact zr.h):Xo n (Q∧R) P:=zh
theorem NF (zh:Xo n (Q∧R) P:=by
 apply Zop;intro zq zr;rotate_left;simp
 first
 |(exact Zt 4;refine ba (js:=[0]) (js':=[]) (eo T 3 A [.int .i64 last,.int .i64 size] (bh S c 2 1) (l.drop 2) (c-2) oo) rfl rfl rfl ob hcx rfl ?_ ?_)
 |(exact Zt 5;refine ba (js:=[0]) (js':=[]) (eo T 3 A [.int .i64 last,.int .i64 size] S l c hc) rfl rfl rfl ob hcx rfl ?_ ?_)
 exact zq.h
 exact zr.h):Xo n (Q∧R) P:=zh
theorem ND (zh:Xo n (Q∧R) P:=by
 apply Zop;intro zq zr;rotate_left;simp
 first
 |(exact Zt 2;refine ⟨TO,tc,?_,?_,rfl⟩)
 exact zq.h
 exact zr.h):Xo n (Q∧R) P:=zh
theorem NC (zh:Xo n (Q∧R) P:=by
 apply Zop;intro zq zr;rotate_left;simp
 first
 |(exact Zt 5;refine LA.alt [1,5] oa ob ⟨⟨_,rfl,?_⟩,⟨_,rfl,?_⟩,trivial⟩)
 exact zq.h
 exact zr.h):Xo n (Q∧R) P:=zh
theorem NB (zh:Xo n (Q∧R) P:=by
 apply Zop;intro zq zr;rotate_left;simp
 first
 |(exact Zt 10;refine LA.alt [3,6] oa ob ⟨⟨_,rfl,?_⟩,⟨_,rfl,?_⟩,trivial⟩)
 exact zq.h
 exact zr.h):Xo n (Q∧R) P:=zh
theorem RI (zh:Xo n (Q∧R) P:=by
 apply Zod;simp
 first
 |(exact Zt 0;exact NG)
 |(exact Zt 2;exact NF)
 |(exact Zt 5;exact ND)
 |(exact Zt 8;exact NC)
 |(exact Zt 11;exact NB)):Xo n (Q∧R) P:=zh
theorem Ng (zh:Xo n (Q∧R) P:=by
 apply Zod;simp
 first
 |(exact Zt 14;exact RI)):Xo n (Q∧R) P:=zh
theorem JL (zh:Xo n (Q∧R) P:=by
 apply Zop;intro zq zr;rotate_left;simp
 first
 |(exact Zt 7;refine LA.alt [1,4] oa ob ⟨⟨_,rfl,?_⟩,⟨_,rfl,?_⟩,trivial⟩)
 exact zq.h
 exact zr.h):Xo n (Q∧R) P:=zh
theorem JK (zh:Xo n (Q∧R) P:=by
 apply Zop;intro zq zr;rotate_left;simp
 first
 |(exact Zt 4;refine ⟨PO,pc,?_,?_,rfl⟩)
 exact zq.h
 exact zr.h):Xo n (Q∧R) P:=zh
theorem JJ (zh:Xo n (Q∧R) P:=by
 apply Zop;intro zq zr;rotate_left;simp
 first
 |(exact Zt 7;refine LA.alt [2,6] oa ob ⟨⟨_,rfl,?_⟩,⟨_,rfl,?_⟩,trivial⟩)
 exact zq.h
 exact zr.h):Xo n (Q∧R) P:=zh
theorem JI (zh:Xo n (Q∧R) P:=by
 apply Zop;intro zq zr;rotate_left;simp
 first
 |(exact Zt 10;refine L.bool 35 rfl (imp of_decide_eq_true ?_) (imp of_decide_eq_false ?_))
 exact zq.h
 exact zr.h):Xo n (Q∧R) P:=zh
theorem JH (zh:Xo n (Q∧R) P:=by
 apply Zop;intro zq zr;rotate_left;simp
 first
 |(exact Zt 14;refine ka _ rfl (imp eq_of_beq ?_) ?_)
 exact zq.h
 exact zr.h):Xo n (Q∧R) P:=zh
theorem JG (zh:Xo n (Q∧R) P:=by
 apply Zop;intro zq zr;rotate_left;simp
 first
 |(exact Zt 8;refine L.bool 10 rfl (imp of_decide_eq_true ?_) (imp of_decide_eq_false ?_))
 |(exact Zt 9;refine L.bool 22 rfl (imp of_decide_eq_true ?_) (imp of_decide_eq_false ?_))
 |(exact Zt 10;refine L.bool 24 rfl (imp of_decide_eq_true ?_) (imp of_decide_eq_false ?_))
 |(exact Zt 12;refine ba (js:=[]) (js':=[0]) (dT 220) rfl rfl rfl ob trivial rfl ?_ ?_)
 exact zq.h
 exact zr.h):Xo n (Q∧R) P:=zh
theorem JF (zh:Xo n (Q∧R) P:=by
 apply Zop;intro zq zr;rotate_left;simp
 first
 |(exact Zt 3;refine LA.alt [0,5] oa ob ⟨⟨_,rfl,?_⟩,⟨_,rfl,?_⟩,trivial⟩)
 |(exact Zt 5;refine LA.alt [2,4] oa ob ⟨⟨_,rfl,?_⟩,⟨_,rfl,?_⟩,trivial⟩)
 |(exact Zt 6;refine LA.alt [3,5] oa ob ⟨⟨_,rfl,?_⟩,⟨_,rfl,?_⟩,trivial⟩)
 |(exact Zt 13;refine LQ.bool 54 rfl (imp fA ?_) (imp fz ?_))
 |(exact Zt 14;refine LQ.bool 65 rfl (imp fA ?_) (imp fz ?_))
 exact zq.h
 exact zr.h):Xo n (Q∧R) P:=zh
theorem JE (zh:Xo n (Q∧R) P:=by
 apply Zop;intro zq zr;rotate_left;simp
 first
 |(exact Zt 13;refine ⟨XA,xc,?_,?_,rfl⟩)
 exact zq.h
 exact zr.h):Xo n (Q∧R) P:=zh
theorem JD (zh:Xo n (Q∧R) P:=by
 apply Zop;intro zq zr;rotate_left;simp
 first
 |(exact Zt 14;refine L.bool 11 rfl (imp of_decide_eq_true ?_) (imp of_decide_eq_false ?_))
 |(exact Zt 15;refine L.bool 13 rfl (imp fA ?_) (imp fz ?_))
 exact zq.h
 exact zr.h):Xo n (Q∧R) P:=zh
theorem JB (zh:Xo n (Q∧R) P:=by
 apply Zop;intro zq zr;rotate_left;simp
 first
 |(exact Zt 1;refine L.bool 14 rfl (imp of_decide_eq_true ?_) (imp of_decide_eq_false ?_))
 |(exact Zt 2;refine L.bool 15 rfl (imp of_decide_eq_true ?_) (imp of_decide_eq_false ?_))
 |(exact Zt 3;refine L.bool 15 rfl ?_ ?_)
 |(exact Zt 4;refine L.bool 16 rfl (imp of_decide_eq_true ?_) (imp of_decide_eq_false ?_))
 |(exact Zt 5;refine L.bool 17 rfl ?_ ?_)
 |(exact Zt 6;refine L.bool 18 rfl (imp of_decide_eq_true ?_) (imp of_decide_eq_false ?_))
 |(exact Zt 7;refine L.bool 21 rfl (imp of_decide_eq_true ?_) (imp of_decide_eq_false ?_))
 |(exact Zt 8;refine L.bool 21 rfl ?_ ?_)
 |(exact Zt 9;refine L.bool 28 rfl (imp of_decide_eq_true ?_) (imp of_decide_eq_false ?_))
 |(exact Zt 10;refine L.bool 29 rfl (imp of_decide_eq_true ?_) (imp of_decide_eq_false ?_))
 |(exact Zt 11;refine L.bool 30 rfl (imp of_decide_eq_true ?_) (imp of_decide_eq_false ?_))
 |(exact Zt 12;refine L.bool 31 rfl (imp of_decide_eq_true ?_) (imp of_decide_eq_false ?_))
 |(exact Zt 13;refine L.bool 44 rfl (imp of_decide_eq_true ?_) (imp of_decide_eq_false ?_))
 |(exact Zt 14;refine L.bool 8 rfl ?_ ?_)
 exact zq.h
 exact zr.h):Xo n (Q∧R) P:=zh
theorem JA (zh:Xo n (Q∧R) P:=by
 apply Zop;intro zq zr;rotate_left;simp
 first
 |(exact Zt 1;refine bg (js:=[0]) (js':=[1,2]) (kJ f a hok hh y G U V gc uc vc hyn hyl hcap p0 p1 p2 p3 p4 p5 p6 p7 p8 hp k rv OA QA HA oc qc hc hpl M (aO f (y.gs.getD p6.toNat 0) c).x XA xc (aO f (y.gs.getD p6.toNat 0) c).done (aO f (y.gs.getD p6.toNat 0) c).e) rfl rfl rfl ob hcx rfl ?_ ?_)
 |(exact Zt 2;refine bg (js:=[0]) (js':=[1]) (dg f a hok hh y G U V gc uc vc hyn hyl hcap p0 p1 p2 p3 p4 p5 p6 p7 p8 hp k rv OA QA HA oc qc hc hpl M [p0,p1,(p2+1),p3,p4,p5,p6,p7,p8] rfl) rfl rfl rfl ob hcx rfl ?_ ?_)
 |(exact Zt 7;refine LA.alt [0,4] oa ob ⟨⟨_,rfl,?_⟩,⟨_,rfl,?_⟩,trivial⟩)
 |(exact Zt 8;refine LA.alt [1,2] oa ob ⟨⟨_,rfl,?_⟩,⟨_,rfl,?_⟩,trivial⟩)
 |(exact Zt 9;refine LA.alt [1,6] oa ob ⟨⟨_,rfl,?_⟩,⟨_,rfl,?_⟩,trivial⟩)
 |(exact Zt 10;refine LA.alt [2,5] oa ob ⟨⟨_,rfl,?_⟩,⟨_,rfl,?_⟩,trivial⟩)
 |(exact Zt 11;refine LM.alt [11,13] oa ob hcx ⟨⟨_,rfl,?_⟩,⟨_,rfl,?_⟩,trivial⟩)
 exact zq.h
 exact zr.h):Xo n (Q∧R) P:=zh
theorem Jz (zh:Xo n (Q∧R) P:=by
 apply Zop;intro zq zr;rotate_left;simp
 first
 |(exact Zt 7;refine ⟨none,none,0,0,?_,?_,rfl⟩)
 exact zq.h
 exact zr.h):Xo n (Q∧R) P:=zh
theorem Jy (zh:Xo n (Q∧R) P:=by
 apply Zop;intro zq zr;rotate_left;simp
 first
 |(exact Zt 4;refine L.bool 13 rfl (imp of_decide_eq_true ?_) (imp of_decide_eq_false ?_))
 |(exact Zt 5;refine L.bool 16 rfl (imp mC ?_) (imp mD ?_))
 |(exact Zt 6;refine L.bool 17 rfl (imp of_decide_eq_true ?_) (imp of_decide_eq_false ?_))
 |(exact Zt 7;refine L.bool 19 rfl (imp of_decide_eq_true ?_) (imp of_decide_eq_false ?_))
 |(exact Zt 8;refine L.bool 20 rfl (imp of_decide_eq_true ?_) (imp of_decide_eq_false ?_))
 |(exact Zt 9;refine L.bool 23 rfl (imp of_decide_eq_true ?_) (imp of_decide_eq_false ?_))
 |(exact Zt 10;refine L.bool 25 rfl (imp mC ?_) (imp mD ?_))
 |(exact Zt 11;refine L.bool 25 rfl (imp fA ?_) (imp fz ?_))
 |(exact Zt 12;refine L.bool 26 rfl (imp of_decide_eq_true ?_) (imp of_decide_eq_false ?_))
 |(exact Zt 13;refine L.bool 27 rfl (imp of_decide_eq_true ?_) (imp of_decide_eq_false ?_))
 |(exact Zt 14;refine L.bool 33 rfl (imp fA ?_) (imp fz ?_))
 |(exact Zt 15;refine L.bool 33 rfl (imp of_decide_eq_true ?_) (imp of_decide_eq_false ?_))
 exact zq.h
 exact zr.h):Xo n (Q∧R) P:=zh
theorem Jx (zh:Xo n (Q∧R) P:=by
 apply Zop;intro zq zr;rotate_left;simp
 first
 |(exact Zt 1;refine L.bool 37 rfl (imp of_decide_eq_true ?_) (imp of_decide_eq_false ?_))
 |(exact Zt 2;refine L.bool 40 rfl (imp of_decide_eq_true ?_) (imp of_decide_eq_false ?_))
 |(exact Zt 3;refine L.bool 41 rfl (imp mC ?_) (imp mD ?_))
 |(exact Zt 4;refine L.bool 41 rfl (imp fA ?_) (imp fz ?_))
 |(exact Zt 5;refine L.bool 44 rfl (imp fA ?_) (imp fz ?_))
 |(exact Zt 6;refine L.bool 8 rfl (imp fA ?_) (imp fz ?_))
 |(exact Zt 7;refine ba (js:=[]) (js':=[0,1]) (dT 240) rfl rfl rfl ob trivial rfl ?_ ?_)
 |(exact Zt 8;refine ba (js:=[]) (js':=[0]) (dT 240) rfl rfl rfl ob trivial rfl ?_ ?_)
 |(exact Zt 9;refine bg (js:=[0]) (js':=[1]) (dg f a hok hh y G U V gc uc vc hyn hyl hcap p0 p1 p2 p3 p4 p5 p6 p7 p8 hp k rv OA QA HA oc qc hc hpl M [p0,p1,p2,p3,p4,p5,(p6+1),p7,p8] rfl) rfl rfl rfl ob hcx rfl ?_ ?_)
 exact zq.h
 exact zr.h):Xo n (Q∧R) P:=zh
theorem Jw (zh:Xo n (Q∧R) P:=by
 apply Zop;intro zq zr;rotate_left;simp
 first
 |(exact Zt 4;refine LA.alt [1,3] oa ob ⟨⟨_,rfl,?_⟩,⟨_,rfl,?_⟩,trivial⟩)
 |(exact Zt 5;refine LM.alt [3,6] oa ob hcx ⟨⟨_,rfl,?_⟩,⟨_,rfl,?_⟩,trivial⟩)
 |(exact Zt 6;refine LM.alt [7,12] oa ob hcx ⟨⟨_,rfl,?_⟩,⟨_,rfl,?_⟩,trivial⟩)
 |(exact Zt 7;refine LM.alt [7,13] oa ob hcx ⟨⟨_,rfl,?_⟩,⟨_,rfl,?_⟩,trivial⟩)
 |(exact Zt 8;refine LM.alt [7,8] oa ob hcx ⟨⟨_,rfl,?_⟩,⟨_,rfl,?_⟩,trivial⟩)
 |(exact Zt 9;refine LM.alt [8,12] oa ob hcx ⟨⟨_,rfl,?_⟩,⟨_,rfl,?_⟩,trivial⟩)
 |(exact Zt 14;refine LQ.bool 51 rfl (imp mC ?_) (imp mD ?_))
 |(exact Zt 15;refine LQ.bool 93 rfl (imp of_decide_eq_true ?_) (imp of_decide_eq_false ?_))
 exact zq.h
 exact zr.h):Xo n (Q∧R) P:=zh
theorem Nf (zh:Xo n (Q∧R) P:=by
 apply Zod;simp
 first
 |(exact Zt 0;exact JL)
 |(exact Zt 1;exact JK)
 |(exact Zt 2;exact JJ)
 |(exact Zt 5;exact JI)
 |(exact Zt 11;exact JH)
 |(exact Zt 12;exact JG)
 |(exact Zt 13;exact JF)):Xo n (Q∧R) P:=zh
theorem Nc (zh:Xo n (Q∧R) P:=by
 apply Zod;simp
 first
 |(exact Zt 0;exact JE)
 |(exact Zt 5;exact JD)
 |(exact Zt 6;exact JB)
 |(exact Zt 7;exact JA)
 |(exact Zt 13;exact Jz)):Xo n (Q∧R) P:=zh
theorem Nb (zh:Xo n (Q∧R) P:=by
 apply Zod;simp
 first
 |(exact Zt 13;exact Jy)
 |(exact Zt 14;exact Jx)
 |(exact Zt 15;exact Jw)):Xo n (Q∧R) P:=zh
theorem RH (zh:Xo n (Q∧R) P:=by
 apply Zod;simp
 first
 |(exact Zt 0;exact Nf)
 |(exact Zt 1;exact Nc)
 |(exact Zt 2;exact Nb)):Xo n (Q∧R) P:=zh
theorem I8 (zh:Xo n (Q∧R) P:=by
 apply Zod;simp
 first
 |(exact Zt 15;exact RH)):Xo n (Q∧R) P:=zh
theorem Zgc (zh:Xo n True P:=by
 apply Zoz;rotate_left;simp
 first
 |(exact Zt 2;rfl)):Xo n True P:=zh
theorem RL (zh:Xo n True P:=by
 apply Zoz;rotate_left;simp
 first
 |(exact Zt 1;omega)):Xo n True P:=zh
theorem Zhc (zh:Xo n True P:=by
 apply Zod;simp
 first
 |(exact Zt 8;exact RL)):Xo n True P:=zh
theorem Nz (zh:Xo n True P:=by
 apply Zoz;rotate_left;simp
 first
 |(exact Zt 13;exact Zm 0x804fae1f)
 |(exact Zt 14;exact Zm 0xd04fe6e)):Xo n True P:=zh
theorem Ny (zh:Xo n True P:=by
 apply Zoz;rotate_left;simp
 first
 |(exact Zt 5;simp)):Xo n True P:=zh
theorem Nw (zh:Xo n True P:=by
 apply Zoz;rotate_left;simp
 first
 |(exact Zt 10;refine aX (()) Om (lk [1] [0]))
 |(exact Zt 12;exact h)
 |(exact Zt 14;exact Nat.zero_le _)):Xo n True P:=zh
theorem Nv (zh:Xo n True P:=by
 apply Zoz;rotate_left;simp
 first
 |(exact Zt 3;exact ⟨rfl,rfl,rfl⟩)):Xo n True P:=zh
theorem Nu (zh:Xo n True P:=by
 apply Zoz;rotate_left;simp
 first
 |(exact Zt 5;exact ⟨none,0,rfl,rfl,rfl⟩)):Xo n True P:=zh
theorem Nt (zh:Xo n True P:=by
 apply Zoz;rotate_left;simp
 first
 |(exact Zt 12;exact CV oe oe)):Xo n True P:=zh
theorem Ns (zh:Xo n True P:=by
 apply Zoz;rotate_left;simp
 first
 |(exact Zt 14;exact ⟨_,by rw [hE];rfl,rfl,rfl⟩)):Xo n True P:=zh
theorem Nr (zh:Xo n True P:=by
 apply Zoz;rotate_left;simp
 first
 |(exact Zt 1;exact ⟨A,c,rfl,rfl,rfl⟩)
 |(exact Zt 2;exact ⟨hne,NO,nc,rfl,rfl,rfl⟩)
 |(exact Zt 3;exact ⟨hne,rfl,rfl⟩)
 |(exact Zt 15;exact Io oe)):Xo n True P:=zh
theorem Nq (zh:Xo n True P:=by
 apply Zoz;rotate_left;simp
 first
 |(exact Zt 1;exact ⟨by decide,rfl,rfl⟩)
 |(exact Zt 12;decide)
 |(exact Zt 15;exact absurd h ob)):Xo n True P:=zh
theorem Np (zh:Xo n True P:=by
 apply Zoz;rotate_left;simp
 first
 |(exact Zt 1;exact ⟨hge,rfl,rfl⟩)):Xo n True P:=zh
theorem No (zh:Xo n True P:=by
 apply Zoz;rotate_left;simp
 first
 |(exact Zt 9;refine ⟨none,0,by rw [BM hB,lF hB];rfl,rfl,by rw [lF hB];rfl⟩)):Xo n True P:=zh
theorem Nn (zh:Xo n True P:=by
 apply Zoz;rotate_left;simp
 first
 |(exact Zt 2;exact Nat.le_refl _)):Xo n True P:=zh
theorem Nm (zh:Xo n True P:=by
 apply Zoz;rotate_left;simp
 first
 |(exact Zt 8;exact iM oe oe hc50 oe)
 |(exact Zt 9;exact iM oe oe hc56 oe)
 |(exact Zt 10;exact decide_eq_false oe)):Xo n True P:=zh
theorem RG (zh:Xo n True P:=by
 apply Zod;simp
 first
 |(exact Zt 0;exact Nz)
 |(exact Zt 1;exact Ny)
 |(exact Zt 2;exact Nw)
 |(exact Zt 3;exact Nv)
 |(exact Zt 4;exact Nu)
 |(exact Zt 6;exact Nt)
 |(exact Zt 7;exact Ns)
 |(exact Zt 8;exact Nr)
 |(exact Zt 9;exact Nq)
 |(exact Zt 10;exact Np)
 |(exact Zt 12;exact No)
 |(exact Zt 13;exact Nn)
 |(exact Zt 14;exact Nm)):Xo n True P:=zh
theorem Na (zh:Xo n True P:=by
 apply Zod;simp
 first
 |(exact Zt 14;exact RG)):Xo n True P:=zh
theorem Jv (zh:Xo n True P:=by
 apply Zoz;rotate_left;simp
 first
 |(exact Zt 2;exact NxOk.nxE _)
 |(exact Zt 3;exact ⟨congrArg Value.bool ((EX oe).symm),rfl,rfl⟩)):Xo n True P:=zh
theorem Ju (zh:Xo n True P:=by
 apply Zoz;rotate_left;simp
 first
 |(exact Zt 14;exact Nat.le_trans (yd ok _ _ _) ob)
 |(exact Zt 15;exact NxOk.next _ _ _ _)):Xo n True P:=zh
theorem Jt (zh:Xo n True P:=by
 apply Zoz;rotate_left;simp
 first
 |(exact Zt 1;exact h _ _ hh)
 |(exact Zt 2;exact ⟨by simp,Nat.le_refl _⟩)
 |(exact Zt 11;refine QE.round (j+1) qC oe (lk [0,1] []))):Xo n True P:=zh
theorem Js (zh:Xo n True P:=by
 apply Zoz;rotate_left;simp
 first
 |(exact Zt 12;refine ⟨none,0,by rw [BH hB,lB hB];rfl,rfl,by rw [lB hB];rfl⟩)
 |(exact Zt 15;simp [bodyPostS,results,hd,hst])):Xo n True P:=zh
theorem Jr (zh:Xo n True P:=by
 apply Zoz;rotate_left;simp
 first
 |(exact Zt 1;simp only [execOp,resolve,invoke,builtin,Sem.run_bind,Sem.run_pure,Result.andThen_ok,List.map_toArray,List.map_cons,List.map_nil,hf.eval hx,hf.eval hy,hrun])
 |(exact Zt 2;simpa using h2)
 |(exact Zt 13;exact (dd f y _).symm)
 |(exact Zt 14;exact List.getElem_mem h)
 |(exact Zt 15;exact hf.vals t u hu)):Xo n True P:=zh
theorem Jq (zh:Xo n True P:=by
 apply Zoz;rotate_left;simp
 first
 |(exact Zt 1;exact ⟨O,c,rfl,rfl,rfl⟩)
 |(exact Zt 2;exact ⟨by rw [hE];rfl,rfl,rfl⟩)
 |(exact Zt 3;exact ⟨none,none,none,0,0,0,rfl,rfl,rfl⟩)
 |(exact Zt 15;refine aX ((A3,A12,cc12,A16,cc16)) OS (by exact lk [0,1,2,3,4] [0,3,1,2] (hh:=⟨rfl,oA,oA,oA,trivial⟩)))):Xo n True P:=zh
theorem Jp (zh:Xo n True P:=by
 apply Zoz;rotate_left;simp
 first
 |(exact Zt 6;refine QE.round (i:=(k,hs)) ((k+1,hs)) Qp ot (by exact lk [0,1,2,3] [0,1] (hh:=⟨(congrArg some OT),(congrArg some OT),trivial⟩)))):Xo n True P:=zh
theorem Jo (zh:Xo n True P:=by
 apply Zoz;rotate_left;simp
 first
 |(exact Zt 10;rw [dN QZ])
 |(exact Zt 11;rw [dE _ _ _ _ hi])
 |(exact Zt 12;simp [execOp,ho,hρ _ _ hx,hρ _ _ hy,hg,hb])):Xo n True P:=zh
theorem Jn (zh:Xo n True P:=by
 apply Zoz;rotate_left;simp
 first
 |(exact Zt 2;exact aX (A9) trivial (lk [0,1,2,3,4,5,6,7,8,9,10,11,12,13] [1,2]))
 |(exact Zt 3;exact ux oe oe hc50)
 |(exact Zt 4;exact ux oe oe hc56)
 |(exact Zt 5;exact uw oe oe hc50 oe)
 |(exact Zt 6;exact uw oe oe hc56 oe)
 |(exact Zt 7;exact hK _ _ (k v R' H' hΦ _ _ (hf.put oQ v) hs'))
 |(exact Zt 8;exact hf.vals t _ hb)
 |(exact Zt 9;exact kp R' H' hΨ _ _ hf hs')
 |(exact Zt 10;exact x9 (k:=k) oe (D3 oe))
 |(exact Zt 11;exact ⟨O,oc,rfl,rfl,rfl⟩)
 |(exact Zt 12;exact ⟨az,rfl,⟨fun i hi=>absurd hi (Nat.not_lt_zero _),Nat.zero_le _⟩,rfl,rfl,rfl⟩)
 |(exact Zt 13;exact ⟨congrArg Value.bool ((BR oe (BV oe hN)).symm),rfl,rfl⟩)):Xo n True P:=zh
theorem Jm (zh:Xo n True P:=by
 apply Zoz;rotate_left;simp
 first
 |(exact Zt 5;refine QE.round (i+1) QU oe (lk [0,1,2,3,4] []))):Xo n True P:=zh
theorem Jl (zh:Xo n True P:=by
 apply Zoz;rotate_left;simp
 first
 |(exact Zt 14;rw [if_neg h,if_neg h2,if_pos h3])
 |(exact Zt 15;simp [Instr.fill,newRow,Array.range_zero'])):Xo n True P:=zh
theorem Jk (zh:Xo n True P:=by
 apply Zoz;rotate_left;simp
 first
 |(exact Zt 1;simp [execOp,ho,resolve,invoke,builtin,hρ _ _ h2,Builtin.len_,run_underlying e1,goInt])):Xo n True P:=zh
theorem Jj (zh:Xo n True P:=by
 apply Zoz;rotate_left;simp
 first
 |(exact Zt 7;exact (mH _ _ _).thn)
 |(exact Zt 8;exact aX ((A5,XA,xc)) hsg (lk [0,1,2,3,4,5,6,7,8] [0,1,2]))
 |(exact Zt 9;exact decide_eq_true oe)
 |(exact Zt 10;exact h.dis p q d d' hp hq hpq k hk hk')
 |(exact Zt 11;exact ⟨.returned (.tuple #[]),(.panicking [{ v:=pv,recovered:=true }]),_,fr,⟨tup vs,de hrs hf hsat hr,tup vs,_,_,hΦ,rfl,(hsat.selR js).sel hn⟩,r⟩)
 |(exact Zt 12;exact ⟨.returned (.tuple #[]),.returning,_,fr,⟨tup vs,de hrs hf hsat hr,tup vs,_,_,hΦ,rfl,(hsat.selR js).sel hn⟩,r⟩)
 |(exact Zt 13;exact ⟨YA,yc,rfl,rfl,rfl⟩)
 |(exact Zt 14;exact ⟨_,hA,by rw [adz];exact hc⟩)
 |(exact Zt 15;exact ⟨congrArg Value.bool ((rZ (p:=fun a=>chY l inn (t*S+a)) (k:=j) oe hx).symm),rfl,rfl⟩)):Xo n True P:=zh
theorem Ji (zh:Xo n True P:=by
 apply Zoz;rotate_left;simp
 first
 |(exact Zt 1;exact ⟨congrArg Value.bool oO,rfl,rfl⟩)
 |(exact Zt 2;exact ⟨hf.size,by simp [Act.put,hf.dfs],fun s v hv=>hf.vals s v hv⟩)
 |(exact Zt 3;exact ⟨hge,_,_,rfl,rfl,rfl⟩)
 |(exact Zt 4;exact ⟨hge,rO (aO f (y.gs.getD p6.toNat 0) c).done XA,rC (aO f (y.gs.getD p6.toNat 0) c).done xc,rfl,rfl,rfl⟩)
 |(exact Zt 5;exact ⟨i,by rw [hx];rfl,rfl,rfl,by omega,h1,fun q hq hq2=>h2 q oe hq2⟩)):Xo n True P:=zh
theorem Jh (zh:Xo n True P:=by
 apply Zoz;rotate_left;simp
 first
 |(exact Zt 6;refine aX ((A3,A12,cc12,A16,cc16)) OS (by exact lk [0,1,2,3,4] [0,2,1,3] (hh:=⟨rfl,oA,oA,oA,trivial⟩)))
 |(exact Zt 7;refine aX ((A3,A12,cc12,A16,cc16)) OS (by exact lk [0,1,2,3,4] [0,3,2,1] (hh:=⟨rfl,oA,oA,oA,trivial⟩)))
 |(exact Zt 8;refine aX ((b,A8)) obU (lk [0,1,2,3,7,6] [0,1]))
 |(exact Zt 9;refine aX ((b,A9,A24,c24)) obG (lk [0,1,2,3,4,5,6,7] [5,6,1,2,3,4,0]))
 |(exact Zt 10;refine aX ((b2,A10)) obT (lk [0,1,2,3] [0,2]))
 |(exact Zt 14;refine QE.round (i:=(i,A,c)) ((i+1,A84,cc84)) ot ot (by exact lk [0] [0,1,2] (hh:=⟨rfl,(congrArg some (ay rfl OP)),(congrArg some (ay OP QC)),trivial⟩)))
 |(exact Zt 15;refine QE.round (u+1) oax oe (lk [0,1,2,3] []))):Xo n True P:=zh
theorem Jg (zh:Xo n True P:=by
 apply Zoz;rotate_left;simp
 first
 |(exact Zt 7;simp [execOp,ho,hρ _ _ h1,hρ _ _ h,asBool])
 |(exact Zt 8;simp [execOp,ho,hρ _ _ hx,hc,hg,hb])
 |(exact Zt 9;simp [execOp,hx',hf.eval hy,Instr.storeAt,Instr.sureAddr,storeVar,hv,hS,hsz,storeCells,ha0,hst])):Xo n True P:=zh
theorem Jf (zh:Xo n True P:=by
 apply Zoz;rotate_left;simp
 first
 |(exact Zt 7;exact (decide_eq_false fun h=>hg10 obV).symm)
 |(exact Zt 8;exact (decide_eq_false fun h=>hg17 obV).symm)
 |(exact Zt 9;exact aX ((A10,XA,xc)) trivial (lk [0,1,2,3,4,5,6,7,8,9,10,11] [0,1,2]))
 |(exact Zt 10;exact aX (A3) trivial (lk [0,1,2,3,4,5,6,7,8,9] [1,2]))
 |(exact Zt 11;exact h.dis i i' x y hx' hy' hne k hk hk')
 |(exact Zt 12;exact hs.dis p q c d hpc hqd (njj p hp q hq) k hk hk')
 |(exact Zt 13;exact hx x (List.mem_of_getElem? hx1) c (List.mem_of_getElem? hc) k hx2 hk)
 |(exact Zt 14;exact hx x (List.mem_of_getElem? hx1) d (List.mem_of_getElem? hd) k hx2 hk')
 |(exact Zt 15;exact k hinv _ _ obM (fun e he=>getD_set_true (h0 e he)) (hf.put oQ v) hs)):Xo n True P:=zh
theorem Je (zh:Xo n True P:=by
 apply Zoz;rotate_left;simp
 first
 |(exact Zt 1;exact ⟨Nat.lt_of_lt_of_le (hk▸hg) hst.size,.inr ⟨_,rfl,hk⟩⟩)
 |(exact Zt 2;exact ⟨_,_,_,⟨rfl,rfl,rfl⟩,rfl,hs⟩)
 |(exact Zt 3;exact ⟨_,_,⟨hk,rfl⟩,rfl,rfl,rfl⟩)
 |(exact Zt 4;exact ⟨congrArg Value.bool (by unfold gS;rw [hall];simp),rfl,rfl⟩)
 |(exact Zt 5;exact ⟨congrArg Value.bool (eS fun q=>by have:=q.2.1;omega).symm,rfl,rfl⟩)
 |(exact Zt 6;exact ⟨congrArg Value.bool (eS fun q=>by have:=q.2.2.1;omega).symm,rfl,rfl⟩)
 |(exact Zt 7;exact ⟨congrArg Value.bool (eS fun q=>by have:=q.2.2.2.1;omega).symm,rfl,rfl⟩)
 |(exact Zt 8;exact ⟨congrArg Value.bool (eS fun q=>by have:=q.2.2.2.2.1;omega).symm,rfl,rfl⟩)
 |(exact Zt 9;exact ⟨congrArg Value.bool (eS fun q=>by have:=q.2.2.2.2.2.1;omega).symm,rfl,rfl⟩)
 |(exact Zt 10;exact ⟨congrArg Value.bool oaE,rfl,rfl⟩)
 |(exact Zt 11;exact ⟨congrArg Value.bool oaj,rfl,rfl⟩)
 |(exact Zt 12;exact ⟨h.own q d hq,fun k hk=>⟨(h.ofp q d hq k hk).1,.inr ⟨q,d,hq,hk⟩⟩⟩)
 |(exact Zt 13;exact ⟨none,0,by rw [ga hno];rfl,hno.symm,rfl,by rw [ga hno];rfl⟩)
 |(exact Zt 14;exact ⟨⟨b2,GA,UA,VA,PO,PQ,PH,IA,NA,gc,uc,vc,c1,c2,c3,ic,nc⟩,⟨hb2,hc2,hvc,huc⟩,rfl,rfl,rfl⟩)
 |(exact Zt 15;exact ⟨⟨⟨⟨⟨a,b⟩,c⟩,d⟩,e⟩,f⟩)):Xo n True P:=zh
theorem Jd (zh:Xo n True P:=by
 apply Zoz;rotate_left;simp
 first
 |(exact Zt 1;refine aX ((A15,cc15)) OS (by exact lk [0] [1] (hh:=⟨(by rw [← b8];rfl),trivial⟩)))
 |(exact Zt 2;refine aX ((A3,A12,cc12,A16,cc16)) OS (by exact lk [0,1,2,3,4] [0,1,2,3] (hh:=⟨rfl,oA,oA,oA,trivial⟩)))
 |(exact Zt 3;refine aX ((A48,cc48)) OS (lk [0,1,2,3] [1]))
 |(exact Zt 4;refine aX (A5) OS (lk [0,1,2,3,4,5] [0,1]))
 |(exact Zt 14;refine QE.round (i+1) oe oe (by exact lk [0,1] [] ⟨rfl,rfl,rfl,rfl,(congrArg some (congrArg (Value.int .i64) oe)),trivial⟩))
 |(exact Zt 15;refine QE.round (i:=(k,O,c)) ((k+1,A51,cc51)) ot ot (by exact lk [0,1] [0] ⟨rfl,rfl,obb,rfl,trivial⟩ (hh:=⟨(congrArg some (ay e2.symm oao)),trivial⟩)))):Xo n True P:=zh
theorem Jc (zh:Xo n True P:=by
 apply Zoz;rotate_left;simp
 first
 |(exact Zt 1;refine QE.round (i:=(t,A,c)) ((t+1,A55,cc55)) ot ot (by exact lk [0,1,2] [0] ⟨rfl,rfl,rfl,rfl,qF,trivial⟩ (hh:=⟨(congrArg some (ay hel.symm qd)),trivial⟩)))
 |(exact Zt 2;refine QE.round (j+1) (by exact ⟨by omega,bx hj2 hN⟩) oe (lk [0,1] []))
 |(exact Zt 3;refine QE.round (j+1) Qz oe (lk [0,1,2,3,4,5,6,7] []))
 |(exact Zt 4;refine QE.round (j+1) Qz oe (lk [0,1,2,3,4,5,6] []))
 |(exact Zt 7;refine QE.round (k+1) obh oe (lk [0] []))
 |(exact Zt 8;refine QE.round (t+1) (by exact (bx hno hx)) oe (lk [0,1,2] [0]))):Xo n True P:=zh
theorem Ja (zh:Xo n True P:=by
 apply Zoz;rotate_left;simp
 first
 |(exact Zt 8;exact Zm 0xe04f704f)
 |(exact Zt 12;exact Zm 0x614fb04f)
 |(exact Zt 13;exact Zm 0xc04f714f)
 |(exact Zt 14;exact ⟨u,_,⟨vA (k:=rq k+wds.getD k 0) ho ox,_,cz l k,rfl⟩,rfl,rfl⟩)):Xo n True P:=zh
theorem I9 (zh:Xo n True P:=by
 apply Zoz;rotate_left;simp
 first
 |(exact Zt 6;refine aX ((A',c')) oT (by exact lk [0] [0,1,2] (hh:=⟨rfl,om,rfl,trivial⟩)))):Xo n True P:=zh
theorem M9 (zh:Xo n True P:=by
 apply Zod;simp
 first
 |(exact Zt 0;exact Jv)
 |(exact Zt 1;exact Ju)
 |(exact Zt 2;exact Jt)
 |(exact Zt 3;exact Js)
 |(exact Zt 4;exact Jr)
 |(exact Zt 5;exact Jq)
 |(exact Zt 6;exact Jp)
 |(exact Zt 8;exact Jo)
 |(exact Zt 11;exact Jn)
 |(exact Zt 14;exact Jm)):Xo n True P:=zh
theorem M8 (zh:Xo n True P:=by
 apply Zod;simp
 first
 |(exact Zt 1;exact Jl)
 |(exact Zt 2;exact Jk)
 |(exact Zt 4;exact Jj)
 |(exact Zt 5;exact Ji)
 |(exact Zt 8;exact Jh)
 |(exact Zt 14;exact Jg)):Xo n True P:=zh
theorem M7 (zh:Xo n True P:=by
 apply Zod;simp
 first
 |(exact Zt 10;exact Jf)
 |(exact Zt 11;exact Je)):Xo n True P:=zh
theorem M6 (zh:Xo n True P:=by
 apply Zod;simp
 first
 |(exact Zt 0;exact Jd)
 |(exact Zt 1;exact Jc)):Xo n True P:=zh
theorem M5 (zh:Xo n True P:=by
 apply Zod;simp
 first
 |(exact Zt 0;exact Ja)
 |(exact Zt 1;exact I9)):Xo n True P:=zh
theorem RF (zh:Xo n True P:=by
 apply Zod;simp
 first
 |(exact Zt 0;exact M9)
 |(exact Zt 1;exact M8)
 |(exact Zt 2;exact M7)
 |(exact Zt 3;exact M6)
 |(exact Zt 4;exact M5)):Xo n True P:=zh
theorem I7 (zh:Xo n True P:=by
 apply Zod;simp
 first
 |(exact Zt 15;exact RF)):Xo n True P:=zh
theorem Y {P Q:Prop}(s:Nat)(h:Zs s Q P:=by repeat (first|exact Zz|(apply Zn1;exact Zga)|(apply Zn2;exact Zha)|(apply Zn3;exact GG)|(apply Zn4;exact zV)))(q:Q):P:=h.h q
theorem Zu {P Q R:Prop}(s:Nat)(h:Zs s (Q∧R) P:=by repeat (first|exact Zz|(apply Zn1;exact Zga)|(apply Zn2;exact Zha)|(apply Zn3;exact GG)|(apply Zn4;exact zV)|(apply Zn2;exact Zhb)|(apply Zn3;exact Ng)|(apply Zn4;exact I8)))(q:Q)(r:R):P:=h.h ⟨q,r⟩
theorem Zm {P:Prop}(s:Nat)(h:Zs s True P:=by repeat (first|exact Zz|(apply Zn1;exact Zga)|(apply Zn2;exact Zha)|(apply Zn3;exact GG)|(apply Zn4;exact zV)|(apply Zn1;exact Zgc)|(apply Zn2;exact Zhc)|(apply Zn3;exact Na)|(apply Zn4;exact I7))):P:=h.h trivial
end Go.Sl
