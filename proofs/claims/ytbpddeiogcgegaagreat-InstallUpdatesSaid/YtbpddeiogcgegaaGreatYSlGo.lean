/-
  Lines of proofs, by numbers: what is done is the default value of a hypothesis.
-/
import Derived.KernelRfl
set_option maxRecDepth 8000
set_option linter.all false
namespace Go.Sl
inductive Tg:Nat→Prop
  |k (n:Nat):Tg n
theorem Zt (n:Nat):Tg n:=Tg.k n
structure Xo (n:Nat)(Q P:Prop):Prop where
  h:Q→P
structure Zs (s:Nat)(Q P:Prop):Prop where
  h:Q→P
structure Bx (Q:Prop):Prop where
  h:Q
theorem Zom {n:Nat}{Q P:Prop}(h:Bx Q→P)(_b:Tg (n%16)):Xo n Q P:=⟨fun q=>h ⟨q⟩⟩
theorem Zop {n:Nat}{Q1 Q2 P:Prop}(h:Bx Q1→Bx Q2→P)(_b:Tg (n%16)):Xo n (Q1∧Q2) P:=⟨fun q=>h ⟨q.1⟩ ⟨q.2⟩⟩
theorem Zoz {n:Nat}{P:Prop}(h:P)(_b:Tg (n%16)):Xo n True P:=⟨fun _=>h⟩
theorem Zod {n:Nat}{Q P:Prop}(_b:Tg (n%16))(h:Xo (n/16) Q P):Xo n Q P:=⟨h.h⟩
theorem oa {P:Prop}(zh:P:=by kernel_rfl):P:=zh
theorem ob {P:Prop}(zh:P:=by decide):P:=zh
theorem oe {P:Prop}(zh:P:=by omega):P:=zh
theorem og {P:Prop}(zh:P:=by exact aE (rs:=[0]) (hs:=[0,1,2]) ⟨rfl,rfl,rfl,rfl,rfl,trivial⟩ ⟨rfl,trivial⟩ ⟨rfl,om,rfl,trivial⟩ ob):P:=zh
theorem oh {P:Prop}(zh:P:=by exact aE (rs:=[1]) (hs:=[0]) ⟨rfl,rfl,rfl,trivial⟩ ⟨rfl,trivial⟩ ⟨rfl,trivial⟩ ob):P:=zh
theorem om {P:Prop}(zh:P:=by rw [← BV (l:=l) (k:=k) oe,← jh];rfl):P:=zh
theorem ot {P:Prop}(zh:P:=by rw [List.length_drop];omega):P:=zh
theorem ou {P:Prop}(zh:P:=by dsimp only;omega):P:=zh
theorem ov {P:Prop}(zh:P:=by exact aJ oN):P:=zh
theorem ow {P:Prop}(zh:P:=by rw [bq];omega):P:=zh
theorem ox {P:Prop}(zh:P:=by rw [← lx hk];exact hk1):P:=zh
theorem oy {P:Prop}(zh:P:=by rw [bt oH,b6];omega):P:=zh
theorem oA {P:Prop}(zh:P:=by rw [bq,cO];decide):P:=zh
theorem oB {P:Prop}(zh:P:=by exact aE (rs:=[0,1]) (hs:=[]) ⟨rfl,rfl,rfl,trivial⟩ ⟨rfl,rfl,trivial⟩ trivial ob):P:=zh
theorem oC {P:Prop}(zh:P:=by simp only [Nat.zero_add];rfl):P:=zh
theorem oD {P:Prop}(zh:P:=by exact aE (rs:=[0,1,2,3,4]) (hs:=[0,3,1,2]) ⟨rfl,rfl,rfl,rfl,trivial⟩ ⟨rfl,rfl,rfl,rfl,rfl,trivial⟩ ⟨rfl,oC,oC,oC,trivial⟩ ob):P:=zh
theorem oE {P:Prop}(zh:P:=by exact aE (rs:=[0,1,2,3]) (hs:=[0,1]) ⟨rfl,rfl,rfl,rfl,rfl,rfl,rfl,rfl,rfl,trivial⟩ ⟨rfl,rfl,rfl,rfl,trivial⟩ ⟨(congrArg some OR),(congrArg some OR),trivial⟩ ob):P:=zh
theorem oF {P:Prop}(zh:P:=by exact aE (rs:=[0,1]) (hs:=[]) ⟨rfl,rfl,rfl,rfl,trivial⟩ ⟨rfl,rfl,trivial⟩ trivial ob):P:=zh
theorem oG {P:Prop}(zh:P:=by exact aE (rs:=[0]) (hs:=[0,1,2]) ⟨rfl,rfl,rfl,rfl,rfl,trivial⟩ ⟨rfl,trivial⟩ ⟨rfl,(congrArg some (ay rfl OP)),(congrArg some (ay OP Qr)),trivial⟩ ob):P:=zh
theorem oH {P:Prop}(zh:P:=by rw [b6];exact hh):P:=zh
theorem oI {P:Prop}(zh:P:=by exact aE (rs:=[0,1,2,3,4,5,6,7,8]) (hs:=[0,1,2]) ⟨rfl,rfl,rfl,rfl,rfl,rfl,trivial⟩ ⟨rfl,rfl,rfl,rfl,rfl,rfl,rfl,rfl,rfl,trivial⟩ ⟨rfl,rfl,rfl,trivial⟩ ob):P:=zh
theorem oJ {P:Prop}(zh:P:=by show -1000000≤(x.n:Int)∧(x.n:Int)≤1000000;have:=x.n_le;omega):P:=zh
theorem oK {P:Prop}(zh:P:=by exact aE (rs:=[0,1,2,3,4,5,6,7,8,9,10,11,12]) (hs:=[0,1,2,3,4,5]) ⟨rfl,rfl,rfl,rfl,rfl,rfl,rfl,rfl,rfl,trivial⟩ ⟨rfl,rfl,rfl,rfl,rfl,rfl,rfl,rfl,rfl,rfl,rfl,rfl,rfl,trivial⟩ ⟨rfl,(congrArg some (ay x.dat_len.symm hrows)),(congrArg some (by rw [hdat];rfl)),(congrArg some (ay List.length_replicate.symm rfl)),(congrArg some (ay List.length_replicate.symm rfl)),(congrArg some (ay rfl hcel)),trivial⟩ ob):P:=zh
theorem oL {P:Prop}(zh:P:=by exact aE (rs:=[0,1,2,3,4,5,6,7,8,9]) (hs:=[0]) ⟨rfl,rfl,rfl,rfl,rfl,rfl,trivial⟩ ⟨rfl,rfl,rfl,rfl,rfl,rfl,rfl,rfl,rfl,rfl,trivial⟩ ⟨rfl,trivial⟩ ob):P:=zh
theorem oM {P:Prop}(zh:P:=by show _*1≤_;omega):P:=zh
theorem oN {P:Prop}(zh:P:=by rw [cO];omega):P:=zh
theorem oO {P:Prop}(zh:P:=by rw [aH];omega):P:=zh
theorem oP {P:Prop}(zh:P:=by simpa [Nat.blt_eq] using hd):P:=zh
theorem oQ {P:Prop}(zh:P:=by unfold Upd.RN;omega):P:=zh
theorem oR {P:Prop}(zh:P:=by exact aE (rs:=[0,1,2,3,4]) (hs:=[0,2,1,3]) ⟨rfl,rfl,rfl,rfl,trivial⟩ ⟨rfl,rfl,rfl,rfl,rfl,trivial⟩ ⟨rfl,oC,oC,oC,trivial⟩ ob):P:=zh
theorem oS {P:Prop}(zh:P:=by exact aE (rs:=[0,1,2,3,4]) (hs:=[0,3,2,1]) ⟨rfl,rfl,rfl,rfl,trivial⟩ ⟨rfl,rfl,rfl,rfl,rfl,trivial⟩ ⟨rfl,oC,oC,oC,trivial⟩ ob):P:=zh
theorem oT {P:Prop}(zh:P:=by exact ⟨hk1,hcc'⟩):P:=zh
theorem oU {P:Prop}(zh:P:=by rfl):P:=zh
theorem oV {P:Prop}(zh:P:=by show _*8≤_;omega):P:=zh
theorem oW {P:Prop}(zh:P:=by exact aE (rs:=[0,1,2,3,4,5,6,7]) (hs:=[5,6,1,2,3,4,0]) ⟨rfl,rfl,rfl,rfl,rfl,rfl,trivial⟩ ⟨rfl,rfl,rfl,rfl,rfl,rfl,rfl,rfl,trivial⟩ ⟨rfl,rfl,rfl,rfl,rfl,rfl,rfl,trivial⟩ ob):P:=zh
theorem oX {P:Prop}(zh:P:=by exact aE (rs:=[0,1,2,3,4,5]) (hs:=[0,1]) ⟨rfl,rfl,rfl,rfl,rfl,rfl,trivial⟩ ⟨rfl,rfl,rfl,rfl,rfl,rfl,trivial⟩ ⟨rfl,rfl,trivial⟩ ob):P:=zh
theorem oY {P:Prop}(zh:P:=by exact aE (rs:=[0,1,2,3]) (hs:=[0,1,2]) ⟨rfl,rfl,rfl,rfl,rfl,trivial⟩ ⟨rfl,rfl,rfl,rfl,trivial⟩ ⟨rfl,rfl,rfl,trivial⟩ ob):P:=zh
theorem oZ {P:Prop}(zh:P:=by rw [bq];exact (Nat.mul_one _).symm):P:=zh
theorem Oa {P:Prop}(zh:P:=by exact aE (rs:=[2,3,4,5,6,7,8,9]) (hs:=[0,1]) ⟨rfl,rfl,rfl,rfl,rfl,rfl,OY,trivial⟩ ⟨rfl,rfl,rfl,rfl,rfl,rfl,rfl,rfl,trivial⟩ ⟨rfl,rfl,trivial⟩ ob):P:=zh
theorem Ob {P:Prop}(zh:P:=by simp):P:=zh
theorem Oc {P:Prop}(zh:P:=by rw [mZ];exact (Nat.mul_one _).symm):P:=zh
theorem Od {P:Prop}(zh:P:=by exact aE (rs:=[0,1]) (hs:=[0]) ⟨rfl,rfl,rfl,rfl,trivial⟩ ⟨rfl,rfl,trivial⟩ ⟨rfl,trivial⟩ ob):P:=zh
theorem Oe {P:Prop}(zh:P:=by show _=([.int .i64 (x.S:Int),.slice b.D x.dat.length b.cD,.slice b.W (List.replicate (x.n+x.more) (0:Int)).length b.cW,.int .i64 100000,.slice b.E (List.replicate (x.n+x.more) false).length b.cE]:List Value);rw [x.dat_len,List.length_replicate,List.length_replicate]):P:=zh
theorem Of {P:Prop}(zh:P:=by exact aE (rs:=[0,1,2,3,4,5,6,7]) (hs:=[]) ⟨rfl,rfl,rfl,rfl,rfl,rfl,rfl,rfl,rfl,rfl,trivial⟩ ⟨rfl,rfl,rfl,rfl,rfl,rfl,rfl,rfl,trivial⟩ trivial ob):P:=zh
theorem Og {P:Prop}(zh:P:=by exact aE (rs:=[0]) (hs:=[0,1,2,3]) ⟨rfl,rfl,rfl,rfl,rfl,rfl,trivial⟩ ⟨rfl,trivial⟩ ⟨rfl,rfl,rfl,(congrArg some (ay rfl (by rw [hbk];rfl))),trivial⟩ ob):P:=zh
theorem Oh {P:Prop}(zh:P:=by exact aE (rs:=[0,1,2,3,4]) (hs:=[]) ⟨rfl,rfl,rfl,rfl,rfl,trivial⟩ ⟨rfl,rfl,rfl,rfl,rfl,trivial⟩ trivial ob):P:=zh
theorem Oi {P:Prop}(zh:P:=by exact ⟨h9,h13⟩):P:=zh
theorem Oj {P:Prop}(zh:P:=by exact aE (rs:=[0,1,2,3]) (hs:=[]) ⟨rfl,rfl,rfl,rfl,rfl,trivial⟩ ⟨rfl,rfl,rfl,rfl,trivial⟩ trivial ob):P:=zh
theorem Ol {P:Prop}(zh:P:=by exact aE (rs:=[0,1,2]) (hs:=[0]) ⟨rfl,rfl,rfl,rfl,rfl,trivial⟩ ⟨rfl,rfl,rfl,trivial⟩ ⟨rfl,trivial⟩ ob):P:=zh
theorem Om {P:Prop}(zh:P:=by exact aE (rs:=[0,1,2,3,4]) (hs:=[0,1,2,3]) ⟨rfl,rfl,rfl,rfl,trivial⟩ ⟨rfl,rfl,rfl,rfl,rfl,trivial⟩ ⟨rfl,oC,oC,oC,trivial⟩ ob):P:=zh
theorem Oo {P:Prop}(zh:P:=by exact aE (rs:=[0,1,2,3,4]) (hs:=[]) ⟨rfl,rfl,rfl,trivial⟩ ⟨rfl,rfl,rfl,rfl,rfl,trivial⟩ trivial ob):P:=zh
theorem Oq {P:Prop}(zh:P:=by rw [List.length_take];omega):P:=zh
theorem Ot {P:Prop}(zh:P:=by exact aE (rs:=[0,1,2,3,11,12,13,14,15,16,17,18,19]) (hs:=[0,1,2]) ⟨rfl,rfl,rfl,rfl,rfl,rfl,rfl,rfl,trivial⟩ ⟨rfl,rfl,rfl,rfl,rfl,rfl,rfl,rfl,rfl,rfl,rfl,rfl,rfl,trivial⟩ ⟨rfl,rfl,rfl,trivial⟩ ob):P:=zh
theorem Ou {P:Prop}(zh:P:=by exact aE (rs:=[0,1]) (hs:=[0]) ⟨rfl,rfl,rfl,rfl,rfl,trivial⟩ ⟨rfl,rfl,trivial⟩ ⟨rfl,trivial⟩ ob):P:=zh
theorem Ov {P:Prop}(zh:P:=by exact aE (rs:=[0,1,2,3,8,9,10,11,12,13,14,15,16]) (hs:=[0,1,2]) ⟨rfl,rfl,rfl,rfl,rfl,rfl,rfl,trivial⟩ ⟨rfl,rfl,rfl,rfl,rfl,rfl,rfl,rfl,rfl,rfl,rfl,rfl,rfl,trivial⟩ ⟨rfl,rfl,rfl,trivial⟩ ob):P:=zh
theorem Ow {P:Prop}(zh:P:=by exact aE (rs:=[0,1,2,3,7,6]) (hs:=[0,1]) ⟨rfl,rfl,rfl,rfl,rfl,trivial⟩ ⟨rfl,rfl,rfl,rfl,rfl,rfl,trivial⟩ ⟨rfl,rfl,trivial⟩ ob):P:=zh
theorem Ox {P:Prop}(zh:P:=by exact Nat.zero_lt_succ _):P:=zh
theorem Oy {P:Prop}(zh:P:=by exact aE (rs:=[0,1,2,3,4,5,6,7,8,9]) (hs:=[0,1]) ⟨rfl,rfl,rfl,rfl,rfl,rfl,rfl,rfl,rfl,rfl,rfl,rfl,rfl,rfl,trivial⟩ ⟨rfl,rfl,rfl,rfl,rfl,rfl,rfl,rfl,rfl,rfl,trivial⟩ ⟨rfl,rfl,trivial⟩ ob):P:=zh
theorem Oz {P:Prop}(zh:P:=by exact aE (rs:=[0]) (hs:=[]) ⟨rfl,rfl,rfl,trivial⟩ ⟨rfl,trivial⟩ trivial ob):P:=zh
theorem OB {P:Prop}(zh:P:=by exact aE (rs:=[0,1,2]) (hs:=[0]) ⟨rfl,rfl,rfl,rfl,qL,trivial⟩ ⟨rfl,rfl,rfl,trivial⟩ ⟨(congrArg some (ay hel.symm O4)),trivial⟩ ob):P:=zh
theorem OC {P:Prop}(zh:P:=by exact aE (rs:=[0,1,2,3,4,5,6]) (hs:=[]) ⟨rfl,rfl,rfl,rfl,rfl,trivial⟩ ⟨rfl,rfl,rfl,rfl,rfl,rfl,rfl,trivial⟩ trivial ob):P:=zh
theorem OD {P:Prop}(zh:P:=by exact aE (rs:=[0,1]) (hs:=[0]) ⟨rfl,rfl,obg,rfl,trivial⟩ ⟨rfl,rfl,trivial⟩ ⟨(congrArg some (ay e2.symm oal)),trivial⟩ ob):P:=zh
theorem OE {P:Prop}(zh:P:=by exact aE (rs:=[0]) (hs:=[0]) ⟨rfl,rfl,rfl,rfl,rfl,trivial⟩ ⟨rfl,trivial⟩ ⟨rfl,trivial⟩ ob):P:=zh
theorem OF {P:Prop}(zh:P:=by exact aE (rs:=[0,1]) (hs:=[]) ⟨rfl,rfl,rfl,rfl,rfl,trivial⟩ ⟨rfl,rfl,trivial⟩ trivial ob):P:=zh
theorem OG {P:Prop}(zh:P:=by rw [b6];omega):P:=zh
theorem OH {P:Prop}(zh:P:=by exact aE (rs:=[0]) (hs:=[0,1,2,3,4]) ⟨rfl,rfl,rfl,rfl,rfl,rfl,trivial⟩ ⟨rfl,trivial⟩ ⟨rfl,rfl,rfl,rfl,rfl,trivial⟩ ob):P:=zh
theorem OI {P:Prop}(zh:P:=by exact aE (rs:=[0,1,2,3]) (hs:=[0,1,2]) ⟨rfl,rfl,rfl,rfl,trivial⟩ ⟨rfl,rfl,rfl,rfl,trivial⟩ ⟨rfl,rfl,rfl,trivial⟩ ob):P:=zh
theorem OJ {P:Prop}(zh:P:=by dsimp only;rw [he,List.length_append];rfl):P:=zh
theorem OK {P:Prop}(zh:P:=by exact aE (rs:=[0,1,2,3]) (hs:=[0,2]) ⟨rfl,rfl,rfl,rfl,rfl,trivial⟩ ⟨rfl,rfl,rfl,rfl,trivial⟩ ⟨rfl,rfl,trivial⟩ ob):P:=zh
theorem OL {P:Prop}(zh:P:=by exact aE (rs:=[0,1,2,3,4,5,6,7,8,9,10,11,12]) (hs:=[0,1]) ⟨rfl,rfl,rfl,rfl,trivial⟩ ⟨rfl,rfl,rfl,rfl,rfl,rfl,rfl,rfl,rfl,rfl,rfl,rfl,rfl,trivial⟩ ⟨rfl,rfl,trivial⟩ ob):P:=zh
theorem OM {P:Prop}(zh:P:=by exact aE (rs:=[0,1,2,3,4,5,6,7,8,9]) (hs:=[0]) ⟨rfl,rfl,rfl,rfl,rfl,rfl,rfl,rfl,trivial⟩ ⟨rfl,rfl,rfl,rfl,rfl,rfl,rfl,rfl,rfl,rfl,trivial⟩ ⟨rfl,trivial⟩ ob):P:=zh
theorem ON {P:Prop}(zh:P:=by unfold ndU;rw [show (((ndT old (a7 old (ah ops)) S seq):Nat):Int)+(S:Int)-1=(((ndT old (a7 old (ah ops)) S seq)+S-1:Nat):Int) by omega];exact (Int.natCast_ediv _ _).symm):P:=zh
theorem OO {P:Prop}(zh:P:=by simp;omega):P:=zh
theorem OP {P:Prop}(zh:P:=by dsimp only;rw [hgo];dsimp only;rw [List.length_append];rfl):P:=zh
theorem OQ {P:Prop}(zh:P:=by exact aE (rs:=[0,1,2,3,4,5,6,7,8,9]) (hs:=[1,2]) ⟨rfl,rfl,rfl,trivial⟩ ⟨rfl,rfl,rfl,rfl,rfl,rfl,rfl,rfl,rfl,rfl,trivial⟩ ⟨rfl,rfl,trivial⟩ ob):P:=zh
theorem OR {P:Prop}(zh:P:=by dsimp only;rw [he]):P:=zh
theorem OS {P:Prop}(zh:P:=by unfold cU;rw [if_neg oe,hinv,hno];rfl):P:=zh
theorem OT {P:Prop}(zh:P:=by exact aE (rs:=[0,1,2,3,4,5]) (hs:=[0,1]) ⟨rfl,rfl,rfl,rfl,rfl,rfl,rfl,rfl,trivial⟩ ⟨rfl,rfl,rfl,rfl,rfl,rfl,trivial⟩ ⟨rfl,rfl,trivial⟩ ob):P:=zh
theorem OU {P:Prop}(zh:P:=by rw [hcl,show too at_.toNat f.size b.length s-at_.toNat-(frm at_.toNat f.size s-at_.toNat)=too at_.toNat f.size b.length s-frm at_.toNat f.size s from by omega];rfl):P:=zh
theorem OV {P:Prop}(zh:P:=by rw [bt qg,bW];omega):P:=zh
theorem OW {P:Prop}(zh:P:=by exact aE (rs:=[0,1,2,3,4,5,6,7]) (hs:=[]) ⟨rfl,rfl,rfl,rfl,rfl,rfl,trivial⟩ ⟨rfl,rfl,rfl,rfl,rfl,rfl,rfl,rfl,trivial⟩ trivial ob):P:=zh
theorem OX {P:Prop}(zh:P:=by exact aE (rs:=[0,1]) (hs:=[]) ⟨rfl,rfl,rfl,rfl,(congrArg some (congrArg (Value.int .i64) oe)),trivial⟩ ⟨rfl,rfl,trivial⟩ trivial ob):P:=zh
theorem OY {P:Prop}(zh:P:=by dsimp only;rw [(eT (n:=b.length) hps).1];exact congrArg some (congrArg (Value.int .i64) oe)):P:=zh
theorem O0 {P:Prop}(zh:P:=by simp only [if_true];split<;>omega):P:=zh
theorem O3 {P:Prop}(zh:P:=by exact aE (rs:=[0]) (hs:=[]) ⟨rfl,rfl,rfl,rfl,rfl,trivial⟩ ⟨rfl,trivial⟩ trivial ob):P:=zh
theorem O4 {P:Prop}(zh:P:=by dsimp only;rw [he,GL,← cS];rfl):P:=zh
theorem O5 {P:Prop}(zh:P:=by exact aE (rs:=[0,1,2,3,4,5,6]) (hs:=[]) ⟨rfl,rfl,rfl,rfl,trivial⟩ ⟨rfl,rfl,rfl,rfl,rfl,rfl,rfl,trivial⟩ trivial ob):P:=zh
theorem O6 {P:Prop}(zh:P:=by exact congrArg some (ay qk oaK)):P:=zh
theorem O7 {P:Prop}(zh:P:=by exact trivial):P:=zh
theorem O8 {P:Prop}(zh:P:=by exact aE (rs:=[0,1,2]) (hs:=[0]) ⟨rfl,rfl,rfl,rfl,rfl,rfl,rfl,trivial⟩ ⟨rfl,rfl,rfl,trivial⟩ ⟨rfl,trivial⟩ ob):P:=zh
theorem O9 {P:Prop}(zh:P:=by rw [hlb,show e.toNat-(e.toNat-(be2 ((aR f us).drop (e.toNat-2))))=(be2 ((aR f us).drop (e.toNat-2))) from by omega];rfl):P:=zh
theorem qa {P:Prop}(zh:P:=by exact aE (rs:=[0,1]) (hs:=[0,1]) ⟨rfl,rfl,rfl,rfl,rfl,rfl,trivial⟩ ⟨rfl,rfl,trivial⟩ ⟨rfl,rfl,trivial⟩ ob):P:=zh
theorem qb {P:Prop}(zh:P:=by exact aE (rs:=[0,1]) (hs:=[0,1,2]) ⟨rfl,rfl,rfl,rfl,trivial⟩ ⟨rfl,rfl,trivial⟩ ⟨rfl,rfl,rfl,trivial⟩ ob):P:=zh
theorem qd {P:Prop}(zh:P:=by exact aE (rs:=[0,1,2,3,4]) (hs:=[]) ⟨rfl,rfl,rfl,rfl,trivial⟩ ⟨rfl,rfl,rfl,rfl,rfl,trivial⟩ trivial ob):P:=zh
theorem qe {P:Prop}(zh:P:=by exact aE (rs:=[0]) (hs:=[0,1,2]) ⟨rfl,rfl,rfl,rfl,rfl,trivial⟩ ⟨rfl,trivial⟩ ⟨rfl,rfl,rfl,trivial⟩ ob):P:=zh
theorem qf {P:Prop}(zh:P:=by rw [he,List.length_append];rfl):P:=zh
theorem qg {P:Prop}(zh:P:=by rw [bW];exact hh):P:=zh
theorem qh {P:Prop}(zh:P:=by exact aE (rs:=[0,1,2]) (hs:=[0]) ⟨rfl,rfl,rfl,rfl,trivial⟩ ⟨rfl,rfl,rfl,trivial⟩ ⟨rfl,trivial⟩ ob):P:=zh
theorem qi {P:Prop}(zh:P:=by simpa using h):P:=zh
theorem qj {P:Prop}(zh:P:=by rw [Ja hg];exact hR _ oe oQ):P:=zh
theorem qk {P:Prop}(zh:P:=by dsimp only;rw [hst,List.length_append (bs:=[_,_])];rfl):P:=zh
theorem qm {P:Prop}(zh:P:=by exact aE (rs:=[0]) (hs:=[1]) ⟨rfl,rfl,trivial⟩ ⟨rfl,trivial⟩ ⟨(by rw [← cy];rfl),trivial⟩ ob):P:=zh
theorem qo {P:Prop}(zh:P:=by exact aE (rs:=[0]) (hs:=[0]) ⟨rfl,rfl,rfl,rfl,rfl,rfl,trivial⟩ ⟨rfl,trivial⟩ ⟨rfl,trivial⟩ ob):P:=zh
theorem qp {P:Prop}(zh:P:=by exact aE (rs:=[0]) (hs:=[0,1]) ⟨rfl,rfl,rfl,rfl,trivial⟩ ⟨rfl,trivial⟩ ⟨rfl,rfl,trivial⟩ ob):P:=zh
theorem qq {P:Prop}(zh:P:=by exact ⟨by omega,bK hno hx⟩):P:=zh
theorem qt {P:Prop}(zh:P:=by rw [List.length_take,List.length_drop];omega):P:=zh
theorem qu {P:Prop}(zh:P:=by rw [bt QZ,bW,cF];omega):P:=zh
theorem qw {P:Prop}(zh:P:=by dsimp only;rw [e1];simp only [List.length_append];rfl):P:=zh
theorem qx {P:Prop}(zh:P:=by exact aE (rs:=[0,1]) (hs:=[0]) ⟨rfl,rfl,rfl,trivial⟩ ⟨rfl,rfl,trivial⟩ ⟨rfl,trivial⟩ ob):P:=zh
theorem qz {P:Prop}(zh:P:=by rw [bt qZ,bW,lT];omega):P:=zh
theorem qA {P:Prop}(zh:P:=by simp [pev,hx,hy,Jd]):P:=zh
theorem qB {P:Prop}(zh:P:=by exact aE (rs:=[0]) (hs:=[0]) ⟨rfl,rfl,rfl,rfl,trivial⟩ ⟨rfl,trivial⟩ ⟨rfl,trivial⟩ ob):P:=zh
theorem qC {P:Prop}(zh:P:=by rw [Int.toNat_natCast];exact wF (fun h=>HW h hx oe)):P:=zh
theorem qD {P:Prop}(zh:P:=by have:=(u.at_ (show k-1<U.K by have:1≤k∧k≤U.K:=ho;omega)).2;rw [Int.toNat_natCast];omega):P:=zh
theorem qE {P:Prop}(zh:P:=by unfold cU;rw [if_pos oe]):P:=zh
theorem qF {P:Prop}(zh:P:=by rw [Int.natCast_emod];rfl):P:=zh
theorem qG {P:Prop}(zh:P:=by exact aE (rs:=[0]) (hs:=[0]) ⟨rfl,rfl,rfl,trivial⟩ ⟨rfl,trivial⟩ ⟨rfl,trivial⟩ ob):P:=zh
theorem qH {P:Prop}(zh:P:=by unfold dm av;rw [hg72,Bool.true_and,← hc77,List.length_take,hwl,Nat.min_eq_left oe]):P:=zh
theorem qI {P:Prop}(zh:P:=by rw [Int.toNat_natCast];omega):P:=zh
theorem qJ {P:Prop}(zh:P:=by unfold chY;rw [if_neg oe];exact decide_eq_true oe):P:=zh
theorem qK {P:Prop}(zh:P:=by exact aE (rs:=[0]) (hs:=[]) ⟨rfl,rfl,rfl,rfl,trivial⟩ ⟨rfl,trivial⟩ trivial ob):P:=zh
theorem qL {P:Prop}(zh:P:=by dsimp only;rw [hel];rfl):P:=zh
theorem qM {P:Prop}(zh:P:=by rw [bW];omega):P:=zh
theorem qN {P:Prop}(zh:P:=by rw [mZ];omega):P:=zh
theorem qO {P:Prop}(zh:P:=by exact aE (rs:=[0,1]) (hs:=[]) ⟨rfl,rfl,trivial⟩ ⟨rfl,rfl,trivial⟩ trivial ob):P:=zh
theorem qP {P:Prop}(zh:P:=by rw [aH];exact (Nat.mul_one _).symm):P:=zh
theorem qQ {P:Prop}(zh:P:=by rw [B.fitE u rfl];exact fun h=>h rfl):P:=zh
theorem qR {P:Prop}(zh:P:=by rw [aH,aH,List.length_append,List.length_replicate,List.length_replicate,hyl];omega):P:=zh
theorem qS {P:Prop}(zh:P:=by rw [List.length_take,List.length_drop,List.length_drop];omega):P:=zh
theorem qT {P:Prop}(zh:P:=by unfold eqGuard;rfl):P:=zh
theorem qU {P:Prop}(zh:P:=by exact ⟨by dsimp only;omega,by dsimp only;omega,by dsimp only;rw [List.length_drop];omega⟩):P:=zh
theorem qV {P:Prop}(zh:P:=by exact congrArg some (congrArg (Value.int .i64) oaT)):P:=zh
theorem qW {P:Prop}(zh:P:=by rw [show (be2 (rec.drop 1))-(k+1)+1=(be2 (rec.drop 1))-k from by omega];exact hh):P:=zh
theorem qX {P:Prop}(zh:P:=by unfold maxLen;omega):P:=zh
theorem qY {P:Prop}(zh:P:=by rw [aH,List.length_drop];omega):P:=zh
theorem qZ {P:Prop}(zh:P:=by rw [bW,lT];exact hss):P:=zh
theorem q7 {P:Prop}(zh:P:=by unfold fc;rw [if_pos oe]):P:=zh
theorem q8 {P:Prop}(zh:P:=by rintro ⟨q|q,_⟩;exact hg26 q;exact hg30 q):P:=zh
theorem q9 {P:Prop}(zh:P:=by rw [hf.eval hx,ag,Option.map_some,adz]):P:=zh
theorem Qa {P:Prop}(zh:P:=by show _*24≤_;omega):P:=zh
theorem Qb {P:Prop}(zh:P:=by rw [bt QH,bW];omega):P:=zh
theorem Qc {P:Prop}(zh:P:=by simp only [Bool.false_eq_true,if_false];split<;>omega):P:=zh
theorem Qd {P:Prop}(zh:P:=by simp [zeroValue,typeInfo,hj,h3]):P:=zh
theorem Qe {P:Prop}(zh:P:=by dsimp only;rw [he];rfl):P:=zh
theorem Qg {P:Prop}(zh:P:=by unfold bC;rw [K.s]):P:=zh
theorem Qh {P:Prop}(zh:P:=by exact ⟨by dsimp only;omega,hhs⟩):P:=zh
theorem Qi {P:Prop}(zh:P:=by rw [bq,bb];omega):P:=zh
theorem Qj {P:Prop}(zh:P:=by apply Array.ext';simpa using e1):P:=zh
theorem Qk {P:Prop}(zh:P:=by rw [h];exact Bool.false_ne_true):P:=zh
theorem Ql {P:Prop}(zh:P:=by unfold cV;omega):P:=zh
theorem Qm {P:Prop}(zh:P:=by unfold cQ;omega):P:=zh
theorem Qo {P:Prop}(zh:P:=by unfold syS;rw [if_pos hE]):P:=zh
theorem Qp {P:Prop}(zh:P:=by exact ⟨by dsimp only;omega,by dsimp only;rw [List.length_append,hhs];rfl⟩):P:=zh
theorem Qq {P:Prop}(zh:P:=by exact ⟨by omega,DQ hallj htj hx⟩):P:=zh
theorem Qr {P:Prop}(zh:P:=by dsimp only;rw [hgo];dsimp only;rw [nO];rfl):P:=zh
theorem Qs {P:Prop}(zh:P:=by rw [Dh hs];exact u.nbad oQ oaB):P:=zh
theorem Qt {P:Prop}(zh:P:=by rw [h2];decide):P:=zh
theorem Qu {P:Prop}(zh:P:=by show (if _<_ then _ else _)=_;split<;>omega):P:=zh
theorem Qv {P:Prop}(zh:P:=by rw [List.length_drop,bq];omega):P:=zh
theorem Qw {P:Prop}(zh:P:=by dsimp only;rw [kO oe,Nat.mul_add,← List.drop_drop];rfl):P:=zh
theorem Qy {P:Prop}(zh:P:=by simp [List.getD_eq_getElem?_getD,h]):P:=zh
theorem Qz {P:Prop}(zh:P:=by rw [bB,aT oe,aH,gX oe];omega):P:=zh
theorem QB {P:Prop}(zh:P:=by have:=(u.at_ (show k<U.K from ho)).2;rw [Int.toNat_natCast];omega):P:=zh
theorem QC {P:Prop}(zh:P:=by rw [m1];omega):P:=zh
theorem QD {P:Prop}(zh:P:=by rw [hl];exact (Nat.mul_one _).symm):P:=zh
theorem QF {P:Prop}(zh:P:=by exact congrArg some (congrArg (Value.int .i64) ou)):P:=zh
theorem QG {P:Prop}(zh:P:=by dsimp only;rw [he,← cS];rfl):P:=zh
theorem QH {P:Prop}(zh:P:=by rw [bW];exact hmhs):P:=zh
theorem QI {P:Prop}(zh:P:=by rw [List.length_drop,List.length_drop];omega):P:=zh
theorem QJ {P:Prop}(zh:P:=by unfold chY;rw [if_neg oe];exact decide_eq_false oe):P:=zh
theorem QK {P:Prop}(zh:P:=by dsimp only;rw [he,← cy];rfl):P:=zh
theorem QL {P:Prop}(zh:P:=by exact ⟨by omega,bK hall hx⟩):P:=zh
theorem QN {P:Prop}(zh:P:=by rw [aH,List.length_replicate]):P:=zh
theorem QP {P:Prop}(zh:P:=by dsimp only;rw [show l5 _ 0=[] from rfl,List.append_nil];rfl):P:=zh
theorem QQ {P:Prop}(zh:P:=by dsimp only;rw [e1,List.length_append];rfl):P:=zh
theorem QR {P:Prop}(zh:P:=by rw [List.length_replicate];omega):P:=zh
theorem QS {P:Prop}(zh:P:=by show _*56≤_;omega):P:=zh
theorem QT {P:Prop}(zh:P:=by rw [hdesc,hk,if_neg (by simp [ye])];exact aJ oe):P:=zh
theorem QU {P:Prop}(zh:P:=by rw [aH,cJ];rfl):P:=zh
theorem QV {P:Prop}(zh:P:=by simpa using hc19):P:=zh
theorem QW {P:Prop}(zh:P:=by rw [← K.s];exact K.ok.rows _ (by rw [K.n];have:=J.sr;omega)):P:=zh
theorem QX {P:Prop}(zh:P:=by show 1*_≤_;omega):P:=zh
theorem QY {P:Prop}(zh:P:=by unfold ptF ptE;rw [hB,if_neg oe]):P:=zh
theorem QZ {P:Prop}(zh:P:=by rw [bW,cF];exact hhs):P:=zh
theorem Q1 {P:Prop}(zh:P:=by dsimp only;rw [show l5 _ 0=[] from rfl,List.append_nil]):P:=zh
theorem Q2 {P:Prop}(zh:P:=by rw [aA,if_neg (fun e=>hc23 (e9.2 e)),pT hst]):P:=zh
theorem Q3 {P:Prop}(zh:P:=by rw [bb,List.length_range]):P:=zh
theorem Q4 {P:Prop}(zh:P:=by show some (Value.int IntKind.i64 ((w:Int)-1))=_;simp):P:=zh
theorem Q5 {P:Prop}(zh:P:=by rw [aH,gX oe];omega):P:=zh
theorem Q6 {P:Prop}(zh:P:=by dsimp only;rw [e1,List.length_append]):P:=zh
theorem Q7 {P:Prop}(zh:P:=by rw [iu oe];exact decide_eq_false oe):P:=zh
theorem Q8 {P:Prop}(zh:P:=by rw [← Int.natCast_mul];omega):P:=zh
theorem Q9 {P:Prop}(zh:P:=by rw [List.length_drop,List.length_drop,hr,cu,hol]):P:=zh
theorem oaa {P:Prop}(zh:P:=by unfold jF;omega):P:=zh
theorem oab {P:Prop}(zh:P:=by rw [bt obB,b6];omega):P:=zh
theorem oac {P:Prop}(zh:P:=by rw [IntKind.wrap_i64];omega):P:=zh
theorem oad {P:Prop}(zh:P:=by rw [m2];omega):P:=zh
theorem oae {P:Prop}(zh:P:=by rw [Bool.eq_iff_iff,dt,decide_eq_true_eq];omega):P:=zh
theorem oaf {P:Prop}(zh:P:=by simpa using hc21):P:=zh
theorem oag {P:Prop}(zh:P:=by rw [bq,hyl];rfl):P:=zh
theorem oah {P:Prop}(zh:P:=by rw [List.length_take,hwl,Nat.min_eq_left oe]):P:=zh
theorem oai {P:Prop}(zh:P:=by rw [hE];decide):P:=zh
theorem oaj {P:Prop}(zh:P:=by simp [pev,hs,hd,hj,hx]):P:=zh
theorem oak {P:Prop}(zh:P:=by rw [List.length_drop];rfl):P:=zh
theorem oal {P:Prop}(zh:P:=by dsimp only;rw [e1];exact jj _ (k,k+1)):P:=zh
theorem oam {P:Prop}(zh:P:=by simp [kH,List.range_succ,List.filter_append,h]):P:=zh
theorem oan {P:Prop}(zh:P:=by simp [aI,List.range_succ,List.filter_append,h]):P:=zh
theorem oao {P:Prop}(zh:P:=by rw [cC];exact Nat.le_refl _):P:=zh
theorem oap {P:Prop}(zh:P:=by dsimp only;rw [kI,List.length_append];rfl):P:=zh
theorem oaq {P:Prop}(zh:P:=by dsimp only;rw [lK,List.length_append];rfl):P:=zh
theorem oar {P:Prop}(zh:P:=by rw [Nat.mul_one,jg,cj]):P:=zh
theorem oas {P:Prop}(zh:P:=by rw [bq,hyl];decide):P:=zh
theorem oat {P:Prop}(zh:P:=by exact ⟨by omega,bK hu2 hx⟩):P:=zh
theorem oau {P:Prop}(zh:P:=by rw [bW,bY];exact hmhs):P:=zh
theorem oav {P:Prop}(zh:P:=by rw [h];decide):P:=zh
theorem oaw {P:Prop}(zh:P:=by rw [mZ,eg];exact Nat.zero_lt_of_lt hlt):P:=zh
theorem oax {P:Prop}(zh:P:=by rw [hj];exact u.nbad hV oaB):P:=zh
theorem oay {P:Prop}(zh:P:=by decide+kernel):P:=zh
theorem oaz {P:Prop}(zh:P:=by rw [Int.toNat_natCast,Int.toNat_natCast];omega):P:=zh
theorem oaA {P:Prop}(zh:P:=by rw [List.length_take,List.length_drop,hl];rfl):P:=zh
theorem oaB {P:Prop}(zh:P:=by have:=u.g1;omega):P:=zh
theorem oaC {P:Prop}(zh:P:=by dsimp only;rw [e1];simp only [yM];rfl):P:=zh
theorem oaD {P:Prop}(zh:P:=by rw [e,d];rintro (q|q);exact q rfl;cases q):P:=zh
theorem oaE {P:Prop}(zh:P:=by unfold Bk;rw [Bool.eq_iff_iff];simp;omega):P:=zh
theorem oaF {P:Prop}(zh:P:=by unfold chY;rw [if_pos oe];exact hg34):P:=zh
theorem oaG {P:Prop}(zh:P:=by unfold chY;rw [if_pos oe];exact hc51):P:=zh
theorem oaH {P:Prop}(zh:P:=by unfold EP;exact decide_eq_false oe):P:=zh
theorem oaI {P:Prop}(zh:P:=by unfold ndQ;exact (Int.natCast_ediv _ _).symm):P:=zh
theorem oaJ {P:Prop}(zh:P:=by unfold dK;simp [*]):P:=zh
theorem oaK {P:Prop}(zh:P:=by dsimp only;rw [hst,← cy _ [_,_]];rfl):P:=zh
theorem oaL {P:Prop}(zh:P:=by rw [Bu];decide):P:=zh
theorem oaM {P:Prop}(zh:P:=by dsimp only;rw [e1,← cy]):P:=zh
theorem oaN {P:Prop}(zh:P:=by rw [run_store _ _ _ _ _ h1];simp [hc,hfr]):P:=zh
theorem oaO {P:Prop}(zh:P:=by rw [Nat.mul_comm];exact Nat.div_add_mod ..):P:=zh
theorem oaP {P:Prop}(zh:P:=by simpa using List.nodup_range):P:=zh
theorem oaQ {P:Prop}(zh:P:=by rw [← hxs];exact zv hE):P:=zh
theorem oaR {P:Prop}(zh:P:=by unfold ptF ptE;rw [hB,if_pos oe]):P:=zh
theorem oaS {P:Prop}(zh:P:=by exact ⟨by dsimp only;omega,hM,hgb,hgc⟩):P:=zh
theorem oaT {P:Prop}(zh:P:=by rw [aH,List.length_replicate];omega):P:=zh
theorem oaU {P:Prop}(zh:P:=by rw [Int.toNat_natCast];exact u.tbad ha.2):P:=zh
theorem oaV {P:Prop}(zh:P:=by cases A<;>simp [Addr.add]):P:=zh
theorem oaW {P:Prop}(zh:P:=by unfold ax;split<;>rfl):P:=zh
theorem oaX {P:Prop}(zh:P:=by unfold syS;rw [if_pos hE0]):P:=zh
theorem oaY {P:Prop}(zh:P:=by have:=Nat.two_pow_pos ls.length;omega):P:=zh
theorem oaZ {P:Prop}(zh:P:=by simpa using hc38):P:=zh
theorem oa0 {P:Prop}(zh:P:=by simpa using hc22):P:=zh
theorem oa1 {P:Prop}(zh:P:=by rw [cJ];omega):P:=zh
theorem oa2 {P:Prop}(zh:P:=by rw [cC];omega):P:=zh
theorem oa3 {P:Prop}(zh:P:=by rw [Int.natCast_mul]):P:=zh
theorem oa4 {P:Prop}(zh:P:=by rw [B.nn];omega):P:=zh
theorem oa5 {P:Prop}(zh:P:=by rw [bW,lT];omega):P:=zh
theorem oa6 {P:Prop}(zh:P:=by show (2:Int)≠1;decide):P:=zh
theorem oa7 {P:Prop}(zh:P:=by rw [Nat.mul_one,jg,cj];rfl):P:=zh
theorem oa8 {P:Prop}(zh:P:=by rw [cF];omega):P:=zh
theorem oa9 {P:Prop}(zh:P:=by rw [dX,List.length_take];omega):P:=zh
theorem oba {P:Prop}(zh:P:=by rw [Nat.zero_add];exact Nat.mul_one _):P:=zh
theorem obb {P:Prop}(zh:P:=by rw [b6,List.length_set];exact hb):P:=zh
theorem obc {P:Prop}(zh:P:=by simpa using hc9):P:=zh
theorem obd {P:Prop}(zh:P:=by rw [j9 h0 h1]):P:=zh
theorem obe {P:Prop}(zh:P:=by simpa using hsmall):P:=zh
theorem obf {P:Prop}(zh:P:=by exact ⟨by omega,bK hallu hux⟩):P:=zh
theorem obg {P:Prop}(zh:P:=by dsimp only;rw [e2];rfl):P:=zh
theorem obh {P:Prop}(zh:P:=by rw [← k8];simpa using hc16):P:=zh
theorem obi {P:Prop}(zh:P:=by rw [← k8];simpa using hg25):P:=zh
theorem obk {P:Prop}(zh:P:=by exact aJ oe):P:=zh
theorem obl {P:Prop}(zh:P:=by rw [← uh hok];simpa using hc19):P:=zh
theorem obm {P:Prop}(zh:P:=by exact ⟨by omega,bK hno hc17⟩):P:=zh
theorem obn {P:Prop}(zh:P:=by simpa using hh):P:=zh
theorem obo {P:Prop}(zh:P:=by simpa using hv):P:=zh
theorem obp {P:Prop}(zh:P:=by rw [hx]):P:=zh
theorem obq {P:Prop}(zh:P:=by rw [cF];exact hhs):P:=zh
theorem obr {P:Prop}(zh:P:=by rw [aH,hrow];simp):P:=zh
theorem obs {P:Prop}(zh:P:=by rw [di];exact hi2):P:=zh
theorem obt {P:Prop}(zh:P:=by unfold ndN;omega):P:=zh
theorem obu {P:Prop}(zh:P:=by unfold ndW;omega):P:=zh
theorem obv {P:Prop}(zh:P:=by unfold ndC;omega):P:=zh
theorem obw {P:Prop}(zh:P:=by rw [CF];omega):P:=zh
theorem obx {P:Prop}(zh:P:=by apply Array.ext';simp):P:=zh
theorem oby {P:Prop}(zh:P:=by rw [lT];exact hss):P:=zh
theorem obz {P:Prop}(zh:P:=by show 24*_≤_;omega):P:=zh
theorem obA {P:Prop}(zh:P:=by rw [bW];exact hhs):P:=zh
theorem obB {P:Prop}(zh:P:=by rw [b6];exact hdh):P:=zh
theorem obC {P:Prop}(zh:P:=by rw [e1];simp):P:=zh
theorem obD {P:Prop}(zh:P:=by simpa using hc29):P:=zh
theorem obE {P:Prop}(zh:P:=by simpa using hc23):P:=zh
theorem obF {P:Prop}(zh:P:=by rw [b6];exact hi):P:=zh
theorem obG {P:Prop}(zh:P:=by simp [hx]):P:=zh
theorem obH {P:Prop}(zh:P:=by rw [bb];exact hl):P:=zh
theorem obI {P:Prop}(zh:P:=by simp [bq];omega):P:=zh
theorem obJ {P:Prop}(zh:P:=by simpa using hlt):P:=zh
theorem obK {P:Prop}(zh:P:=by simpa using hB.1.1.2):P:=zh
theorem obL {P:Prop}(zh:P:=by rw [b6];exact h):P:=zh
theorem obM {P:Prop}(zh:P:=by rw [h3];decide):P:=zh
theorem obN {P:Prop}(zh:P:=by simpa using hc4):P:=zh
theorem obO {P:Prop}(zh:P:=by exact ⟨hb,hkc,hkD⟩):P:=zh
theorem obP {P:Prop}(zh:P:=by rw [J.st];exact hsp):P:=zh
theorem obQ {P:Prop}(zh:P:=by rw [iT];omega):P:=zh
theorem obR {P:Prop}(zh:P:=by simpa using hn):P:=zh
theorem obS {P:Prop}(zh:P:=by simpa using hl):P:=zh
theorem obT {P:Prop}(zh:P:=by simpa using hz):P:=zh
theorem obU {P:Prop}(zh:P:=by simpa using hi):P:=zh
theorem obV {P:Prop}(zh:P:=by simpa using hd):P:=zh
theorem obW {P:Prop}(zh:P:=by rw [bb];omega):P:=zh
theorem obX {P:Prop}(zh:P:=by rw [lT];omega):P:=zh
theorem obY {P:Prop}(zh:P:=by exact ⟨hb2,hbc2⟩):P:=zh
theorem obZ {P:Prop}(zh:P:=by exact ⟨hb,hbc⟩):P:=zh
theorem Zz {Q:Prop}:Zs 0 Q Q:=⟨id⟩
theorem Zn1 {s:Nat}{Q Q' P:Prop}(h:Xo s Q' P)(k:Zs (s/16) Q Q'):Zs s Q P:=⟨fun q=>h.h (k.h q)⟩
theorem Zn2 {s:Nat}{Q Q' P:Prop}(h:Xo s Q' P)(k:Zs (s/256) Q Q'):Zs s Q P:=⟨fun q=>h.h (k.h q)⟩
theorem Zn3 {s:Nat}{Q Q' P:Prop}(h:Xo s Q' P)(k:Zs (s/4096) Q Q'):Zs s Q P:=⟨fun q=>h.h (k.h q)⟩
theorem Zn4 {s:Nat}{Q Q' P:Prop}(h:Xo s Q' P)(k:Zs (s/65536) Q Q'):Zs s Q P:=⟨fun q=>h.h (k.h q)⟩
variable {n:Nat}{Q R P:Prop}
theorem Zga (zh:Xo n Q P:=by
 apply Zom;intro zq;rotate_left;simp
 first
 |(exact Zt 1;apply Y 0xf83)
 |(exact Zt 2;apply Y 0x684)
 |(exact Zt 3;refine sp (Ev.pure rfl) ?_)
 |(exact Zt 4;refine C.seq ?_)
 |(exact Zt 5;apply Y 0x33)
 |(exact Zt 6;refine L.nil (QE.m oa ?_))
 |(exact Zt 7;refine L.yes rfl ?_)
 exact zq.h):Xo n Q P:=zh
theorem SQ (zh:Xo n Q P:=by
 apply Zom;intro zq;rotate_left;simp
 first
 |(exact Zt 1;refine LQ.yes rfl ?_)
 |(exact Zt 2;apply Y 0x41)
 |(exact Zt 3;refine L.nil (QE.a oa ?_))
 |(exact Zt 4;apply Y 0x32)
 |(exact Zt 5;apply Y 0x52)
 |(exact Zt 6;refine C.region ?_)
 |(exact Zt 8;refine L.alloc rfl rfl rfl ?_)
 |(exact Zt 9;(rintro _ _ ⟨y1,rfl,rfl⟩);revert y1)
 |(exact Zt 10;apply Y 0xbcbc)
 |(exact Zt 11;apply Y 0x76a)
 |(exact Zt 12;apply Y 0x35)
 |(exact Zt 13;apply Y 0xa3edc)
 |(exact Zt 14;apply Y 0x1bd9)
 |(exact Zt 15;apply Y 0x1b50e)
 exact zq.h):Xo n Q P:=zh
theorem SP (zh:Xo n Q P:=by
 apply Zom;intro zq;rotate_left;simp
 first
 |(exact Zt 1;apply Y 0x53e1)
 |(exact Zt 2;(rintro _ _ _ ⟨rfl,rfl,rfl⟩))
 |(exact Zt 3;refine qrt [] [] [_] rfl rt ?_)
 |(exact Zt 4;apply Y 0x53eaa)
 |(exact Zt 5;refine dd (j:=0) rfl rfl rfl rfl rfl (Nat.zero_lt_succ _) rfl rfl ?_)
 |(exact Zt 6;apply Y 0x1b64e)
 |(exact Zt 7;apply Y 0x383)
 |(exact Zt 8;(rintro _ _ _ ⟨y1,y2,rfl,rfl,rfl⟩);revert y1 y2)
 |(exact Zt 9;refine sp (faO 0) ?_)
 |(exact Zt 10;refine sq (Ev.pure rfl) ?_)
 |(exact Zt 11;apply Y 0xa9a9)
 |(exact Zt 12;apply Y 0xab2f6)
 |(exact Zt 13;refine C.skip ?_)
 |(exact Zt 15;apply Y 0x5a2)
 exact zq.h):Xo n Q P:=zh
theorem SN (zh:Xo n Q P:=by
 apply Zom;intro zq;rotate_left;simp
 first
 |(exact Zt 1;(rintro _ _ _ ⟨rfl,y1,rfl,rfl⟩);revert y1)
 |(exact Zt 2;apply Y 0xdd2)
 |(exact Zt 3;apply Y 0xcde73e)
 |(exact Zt 4;apply Y 0x22e5a)
 |(exact Zt 5;apply Y 0x23e1)
 |(exact Zt 6;apply Y 0x37)
 |(exact Zt 7;refine L.lit rfl rfl rfl rfl rfl oU oU oU rfl rfl ?_)
 |(exact Zt 8;apply Y 0x368)
 |(exact Zt 9;apply Y 0x1be02f)
 |(exact Zt 10;apply Y 0x4e8)
 |(exact Zt 11;apply Y 0xebecc)
 |(exact Zt 12;refine sp (Ev.build rfl rfl rfl rfl rfl rfl rfl) ?_)
 |(exact Zt 13;apply Y 0x282)
 |(exact Zt 14;apply Y 0xc9e661f)
 |(exact Zt 15;apply Y 0xa2ea8)
 exact zq.h):Xo n Q P:=zh
theorem SM (zh:Xo n Q P:=by
 apply Zom;intro zq;rotate_left;simp
 first
 |(exact Zt 1;refine QE.seq ?_)
 |(exact Zt 2;apply Y 0xa2ebc)
 |(exact Zt 3;apply Y 0x568)
 |(exact Zt 4;apply Y 0x3910e)
 |(exact Zt 5;apply Y 0x38fae)
 |(exact Zt 6;apply Y 0x12ed0e)
 |(exact Zt 7;apply Y 0x4f8)
 |(exact Zt 8;apply Y 0x38e38e)
 |(exact Zt 9;refine sp (Ev.add rfl rfl oe oe) ?_)
 |(exact Zt 10;apply Y 0x22e10e)
 |(exact Zt 11;apply Y 0x5a3)
 |(exact Zt 12;apply Y 0x42e7)
 |(exact Zt 13;refine lnr [_,_] [0,1] ?_)
 |(exact Zt 14;refine dd (j:=1) rfl rfl rfl rfl rfl (Nat.zero_lt_succ _) rfl rfl ?_)
 |(exact Zt 15;apply Y 0x6815e)
 exact zq.h):Xo n Q P:=zh
theorem SL (zh:Xo n Q P:=by
 apply Zom;intro zq;rotate_left;simp
 first
 |(exact Zt 2;apply Y 0x6a6a)
 |(exact Zt 3;refine lnr [_] [0] ?_)
 |(exact Zt 4;refine sp (nkO 0) ?_)
 |(exact Zt 5;apply Y 0x3925e)
 |(exact Zt 6;apply Y 0x358)
 |(exact Zt 7;apply Y 0x5a48)
 |(exact Zt 8;apply Y 0xca2)
 |(exact Zt 9;apply Y 0x70e3)
 |(exact Zt 10;refine L.store (j:=1) rfl rfl rfl rfl rfl rfl rfl rfl ?_)
 |(exact Zt 11;apply Y 0xa2ea2e)
 |(exact Zt 12;refine sp (faO 1) ?_)
 |(exact Zt 13;refine sp (faR 0) ?_)
 |(exact Zt 14;refine ⟨congrArg (Value.int .i64) (Eq.symm ?_),rfl,rfl⟩)
 |(exact Zt 15;refine ⟨congrArg Value.bool ?_,rfl,rfl⟩)
 exact zq.h):Xo n Q P:=zh
theorem SK (zh:Xo n Q P:=by
 apply Zom;intro zq;rotate_left;simp
 first
 |(exact Zt 1;apply Y 0xa918)
 |(exact Zt 2;apply Y 0x148)
 |(exact Zt 3;refine CZ oa ?_)
 |(exact Zt 4;(rintro _ _ _ ⟨y1,y2,y3,y4,rfl,rfl,rfl⟩);revert y1 y2 y3 y4)
 |(exact Zt 6;apply Y 0xdde73e)
 |(exact Zt 7;(rintro _ _ ⟨y1,y2,rfl,rfl⟩);revert y1 y2)
 |(exact Zt 8;refine cfz 0 [1] ?_)
 |(exact Zt 9;apply Y 0xa85)
 |(exact Zt 11;apply Y 0x23ef8)
 |(exact Zt 13;refine Ml rfl rfl ?_)
 |(exact Zt 15;refine uT (js:=[]) (hs:=[]) ob ⟨rfl,?_⟩)
 exact zq.h):Xo n Q P:=zh
theorem Zha (zh:Xo n Q P:=by
 apply Zod;simp
 first
 |(exact Zt 8;exact SQ)
 |(exact Zt 9;exact SP)
 |(exact Zt 10;exact SN)
 |(exact Zt 11;exact SM)
 |(exact Zt 12;exact SL)
 |(exact Zt 13;exact SK)):Xo n Q P:=zh
theorem Rr (zh:Xo n Q P:=by
 apply Zom;intro zq;rotate_left;simp
 first
 |(exact Zt 1;apply Y 0x22e58e)
 |(exact Zt 2;refine qrt [] [0] [_] rfl rt ?_)
 |(exact Zt 3;refine sq (ldR 0) ?_)
 |(exact Zt 5;refine L.nil ?_)
 |(exact Zt 6;refine sq (faR 0) ?_)
 |(exact Zt 7;apply Y 0xbb2f6)
 |(exact Zt 8;refine QE.more (r:=Rd none []) (Has.nil) ?_)
 |(exact Zt 9;apply Y 0x50e3)
 |(exact Zt 10;refine cnr [_] [0] ?_)
 |(exact Zt 11;refine lnr [_,_,_] [0,1,2] ?_)
 |(exact Zt 12;refine sp (Ev.sub rfl rfl oe oe) ?_)
 |(exact Zt 13;refine sp (faR 1) ?_)
 |(exact Zt 14;apply Y 0x9b2f38)
 |(exact Zt 15;(rintro y1 ⟨y2,y3⟩);revert y1 y2 y3)
 exact zq.h):Xo n Q P:=zh
theorem Rq (zh:Xo n Q P:=by
 apply Zom;intro zq;rotate_left;simp
 first
 |(exact Zt 1;refine LA.nil oa ?_)
 |(exact Zt 2;(rintro _ _ _ ⟨y1,rfl,rfl,rfl⟩);revert y1)
 |(exact Zt 5;refine L.more (r:=Rd (bF S c 2 1) (U8 (l.drop 2))) (bw (Has.r 0 rfl) c 2 hc) ?_)
 |(exact Zt 6;refine LA.alt [5] oa ob ⟨⟨_,rfl,?_⟩,trivial⟩)
 |(exact Zt 7;refine LA.alt [8] oa ob ⟨⟨_,rfl,?_⟩,trivial⟩)
 |(exact Zt 8;refine LA.alt [9] oa ob ⟨⟨_,rfl,?_⟩,trivial⟩)
 |(exact Zt 10;(rintro _ _ _ ⟨y1,y2,y3,rfl,rfl,rfl⟩);revert y1 y2 y3)
 |(exact Zt 11;(rintro ⟨y1,y2,y3⟩ y4);revert y1 y2 y3 y4)
 |(exact Zt 14;refine Rw ?_)
 |(exact Zt 15;refine sp (faO 3) ?_)
 exact zq.h):Xo n Q P:=zh
theorem Rp (zh:Xo n Q P:=by
 apply Zom;intro zq;rotate_left;simp
 first
 |(exact Zt 1;refine sp (ldR 1) ?_)
 |(exact Zt 2;refine Rv ?_)
 |(exact Zt 3;refine cnr [_,_] [0,1] ?_)
 |(exact Zt 4;apply Y 0xa3eb8e)
 |(exact Zt 5;refine sq (ldR 1) ?_)
 |(exact Zt 6;unfold Oper.wp)
 |(exact Zt 7;refine dd (j:=2) rfl rfl rfl rfl rfl (Nat.zero_lt_succ _) rfl rfl ?_)
 |(exact Zt 8;refine LM.f 14 rfl oa trivial ?_)
 |(exact Zt 9;refine sq (faR 1) ?_)
 |(exact Zt 10;refine L.no rfl rfl rfl ?_)
 |(exact Zt 11;rw [Bool.eq_iff_iff])
 |(exact Zt 12;(have y1:=ok);revert y1)
 |(exact Zt 13;refine mq 0 rfl (Ev.pure rfl) ?_)
 |(exact Zt 14;refine sp (ab rfl rfl rfl (Src.r 0 rfl) rfl rfl ob) ?_)
 |(exact Zt 15;refine sq (faO 0) ?_)
 exact zq.h):Xo n Q P:=zh
theorem Ro (zh:Xo n Q P:=by
 apply Zom;intro zq;rotate_left;simp
 first
 |(exact Zt 2;refine C.ret ?_)
 |(exact Zt 3;refine fJ (js:=[0]) (hs:=[0]) (vs:=[]) rfl trivial ob ?_)
 |(exact Zt 5;refine C.block ?_)
 |(exact Zt 6;refine mfo 12 ?_)
 |(exact Zt 7;apply Y 0x1b68e)
 |(exact Zt 9;refine LA.alt [3] oa ob ⟨⟨_,rfl,?_⟩,trivial⟩)
 |(exact Zt 10;refine sp (ldR 0) ?_)
 |(exact Zt 11;refine QE.nil_own 5 1 ?_)
 |(exact Zt 12;refine cfz 0 [1,2] ?_)
 |(exact Zt 13;refine mfo 7 ?_)
 |(exact Zt 14;refine ⟨?_,rfl,rfl⟩)
 |(exact Zt 15;refine LQ.no rfl rfl rfl ?_)
 exact zq.h):Xo n Q P:=zh
theorem Rm (zh:Xo n Q P:=by
 apply Zom;intro zq;rotate_left;simp
 first
 |(exact Zt 1;refine cfz 1 [0] ?_)
 |(exact Zt 2;refine qrt [0] [] [_,_,_] rfl ⟨⟨_,_,0,_,rfl,rfl,Src.o 0 rfl,.inl ⟨rfl,by decide,_,rfl,rfl,rfl⟩⟩,rfl,rfl,trivial⟩ ?_)
 |(exact Zt 3;refine qrt [] [0] [_,_] rfl rt ?_)
 |(exact Zt 4;refine qrt [] [] [_,_] rfl rt ?_)
 |(exact Zt 5;refine ⟨congrArg Value.bool (Eq.symm ?_),rfl,rfl⟩)
 |(exact Zt 6;apply Y 0xbde66e)
 |(exact Zt 7;refine LA.alt [1] oa ob ⟨⟨_,rfl,?_⟩,trivial⟩)
 |(exact Zt 8;refine mfo 11 ?_)
 |(exact Zt 9;refine sp (ldO 0) ?_)
 |(exact Zt 10;refine FE ?_)
 |(exact Zt 11;refine mfo 8 ?_)
 |(exact Zt 12;refine mq 5 rfl (Ev.pure rfl) ?_)
 |(exact Zt 13;refine sp (Ev.mul rfl rfl oe oe) ?_)
 |(exact Zt 14;rw [List.take_length])
 |(exact Zt 15;refine dd (j:=3) rfl rfl rfl rfl rfl (Nat.zero_lt_succ _) rfl rfl ?_)
 exact zq.h):Xo n Q P:=zh
theorem Rl (zh:Xo n Q P:=by
 apply Zom;intro zq;rotate_left;simp
 first
 |(exact Zt 1;refine cfz 0 [] ?_)
 |(exact Zt 2;apply Y 0x22ef9)
 |(exact Zt 3;(have y1:=(X.ok _ _ ht).und);revert y1)
 |(exact Zt 5;refine LA.alt [2] oa ob ⟨⟨_,rfl,?_⟩,trivial⟩)
 |(exact Zt 6;refine LA.alt [6] oa ob ⟨⟨_,rfl,?_⟩,trivial⟩)
 |(exact Zt 7;refine mq 9 rfl (Ev.pure rfl) ?_)
 |(exact Zt 8;refine sp (ab rfl rfl rfl (Src.o 1 rfl) rfl rfl ob) ?_)
 |(exact Zt 9;apply Y 0xe1ee1e)
 |(exact Zt 12;refine mfo 13 ?_)
 |(exact Zt 13;refine mq 8 rfl (Ev.pure rfl) ?_)
 |(exact Zt 14;refine qrt [0] [] [_] rfl ⟨⟨_,_,0,_,rfl,rfl,Src.o 0 rfl,.inl ⟨rfl,by decide,_,rfl,rfl,rfl⟩⟩,trivial⟩ ?_)
 |(exact Zt 15;refine sp (ab (vs:=[_,_,_,_]) rfl rfl rfl (Src.r 0 rfl) rfl rfl ob) ?_)
 exact zq.h):Xo n Q P:=zh
theorem Rj (zh:Xo n Q P:=by
 apply Zom;intro zq;rotate_left;simp
 first
 |(exact Zt 1;refine sp (ab rfl rfl rfl (Src.r 1 rfl) rfl rfl ob) ?_)
 |(exact Zt 2;refine sp (faO 2) ?_)
 |(exact Zt 3;refine sp (faR 2) ?_)
 |(exact Zt 6;refine C.exit ?_)
 |(exact Zt 8;refine sq (ldO 0) ?_)
 |(exact Zt 9;refine sq (nkO 0) ?_)
 |(exact Zt 10;unfold bM Bk)
 |(exact Zt 11;(have y1:=eI (P:=X.P) w (X.ok _ _ he));revert y1)
 |(exact Zt 15;refine LA.alt [4] oa ob ⟨⟨_,rfl,?_⟩,trivial⟩)
 exact zq.h):Xo n Q P:=zh
theorem Ri (zh:Xo n Q P:=by
 apply Zom;intro zq;rotate_left;simp
 first
 |(exact Zt 1;refine LM.f 11 rfl oa trivial ?_)
 |(exact Zt 2;refine LM.f 12 rfl oa trivial ?_)
 |(exact Zt 3;refine LY.step (Ev.pure rfl) rfl ?_)
 |(exact Zt 4;refine an (RP _ _ _) ?_)
 |(exact Zt 5;(have y1:=x.S_le);revert y1)
 |(exact Zt 6;(have y1:=x.n_le);revert y1)
 |(exact Zt 9;refine L.store (j:=2) rfl rfl rfl rfl rfl rfl rfl rfl ?_)
 |(exact Zt 10;refine LM.f 7 rfl oa trivial ?_)
 |(exact Zt 11;refine cnr [_,_,_] [0,1,2] ?_)
 |(exact Zt 12;refine mfo 9 ?_)
 |(exact Zt 13;refine mq 10 rfl (Ev.pure rfl) ?_)
 |(exact Zt 14;refine mq 11 rfl (Ev.pure rfl) ?_)
 |(exact Zt 15;refine qrt [] [] [_,_] rfl ⟨⟨_,_,0,_,rfl,rfl,Src.o 0 rfl,.inl ⟨rfl,by decide,_,rfl,rfl,rfl⟩⟩,rfl,trivial⟩ ?_)
 exact zq.h):Xo n Q P:=zh
theorem Rh (zh:Xo n Q P:=by
 apply Zom;intro zq;rotate_left;simp
 first
 |(exact Zt 1;rw [r9 hL])
 |(exact Zt 2;rw [yG hB])
 |(exact Zt 3;apply Y 0xf3ef3e)
 |(exact Zt 4;refine LM.f 10 rfl oa trivial ?_)
 |(exact Zt 5;refine Ry ?_)
 |(exact Zt 6;refine IY ?_)
 |(exact Zt 7;refine mfo 4 ?_)
 |(exact Zt 8;refine mq 4 rfl (Ev.pure rfl) ?_)
 |(exact Zt 9;refine mq 6 rfl (Ev.pure rfl) ?_)
 |(exact Zt 10;refine sq (Ev.load rfl rfl rfl (Src.r 4 rfl) (aJ oe)) ?_)
 |(exact Zt 11;apply Y 0x7dc)
 |(exact Zt 12;refine C.cap 0 rfl ?_)
 |(exact Zt 14;refine LM.f 15 rfl oa trivial ?_)
 |(exact Zt 15;refine LM.f 6 rfl oa trivial ?_)
 exact zq.h):Xo n Q P:=zh
theorem Rg (zh:Xo n Q P:=by
 apply Zom;intro zq;rotate_left;simp
 first
 |(exact Zt 1;refine LM.f 8 rfl oa trivial ?_)
 |(exact Zt 2;refine QE.more (r:=KidsR [] (J8 [])) (Has.kids0) ?_)
 |(exact Zt 3;refine QE.more (r:=Rd none (I64 [])) (Has.nil) ?_)
 |(exact Zt 4;refine QE.more (r:=Rd none (aB [] (J8 []))) (Has.nil) ?_)
 |(exact Zt 5;refine cfz 0 [1,2,3] ?_)
 |(exact Zt 6;refine mfo 10 ?_)
 |(exact Zt 7;refine qrt [1,0] [] [_,_] rfl rt ?_)
 |(exact Zt 8;refine sp (ab (vs:=[_,_,_,_,_,_,_,_]) rfl rfl rfl (Src.r 0 rfl) rfl rfl ob) ?_)
 |(exact Zt 9;refine sp (faR 3) ?_)
 |(exact Zt 10;refine sp (ldR 2) ?_)
 |(exact Zt 11;apply Y 0xdb2f521f)
 |(exact Zt 12;apply Y 0xfde1e)
 |(exact Zt 13;(have y1:0≤p0∧p0≤4294967295:=hp p0 Ob);revert y1)
 |(exact Zt 14;(have y1:0≤p1∧p1≤4294967295:=hp p1 Ob);revert y1)
 |(exact Zt 15;(have y1:0≤p2∧p2≤4294967295:=hp p2 Ob);revert y1)
 exact zq.h):Xo n Q P:=zh
theorem Re (zh:Xo n Q P:=by
 apply Zom;intro zq;rotate_left;simp
 first
 |(exact Zt 1;(have y1:0≤p3∧p3≤4294967295:=hp p3 Ob);revert y1)
 |(exact Zt 2;(have y1:0≤p4∧p4≤4294967295:=hp p4 Ob);revert y1)
 |(exact Zt 3;(have y1:0≤p5∧p5≤4294967295:=hp p5 Ob);revert y1)
 |(exact Zt 4;(have y1:0≤p6∧p6≤4294967295:=hp p6 Ob);revert y1)
 |(exact Zt 5;(have y1:0≤p7∧p7≤4294967295:=hp p7 Ob);revert y1)
 |(exact Zt 6;(have y1:0≤p8∧p8≤4294967295:=hp p8 Ob);revert y1)
 |(exact Zt 7;(rintro ⟨y1,y2⟩);revert y1 y2)
 |(exact Zt 9;refine cfz 1 [0,2] ?_)
 |(exact Zt 10;refine lnr [_,_,_,_] [0,1,2,3] ?_)
 |(exact Zt 11;refine mq 1 rfl (Ev.pure rfl) ?_)
 |(exact Zt 12;refine qfz 2 [0,1] ?_)
 |(exact Zt 13;refine sp (faR 10) ?_)
 |(exact Zt 14;refine sp (ldO 2) ?_)
 |(exact Zt 15;refine sp (ldO 3) ?_)
 exact zq.h):Xo n Q P:=zh
theorem Rb (zh:Xo n Q P:=by
 apply Zom;intro zq;rotate_left;simp
 first
 |(exact Zt 1;(have y1:((ah ops).length:Int)=out:=j2 ops out k3 k6);revert y1)
 |(exact Zt 2;(have y1:=sv (ops:=ops) hf hg);revert y1)
 |(exact Zt 6;refine LM.f 13 rfl oa trivial ?_)
 |(exact Zt 7;refine LM.f 9 rfl oa trivial ?_)
 |(exact Zt 8;refine Rz ?_)
 |(exact Zt 9;refine cfz 2 [0,1] ?_)
 |(exact Zt 10;refine sp (ae (k:=x.sec.toNat) rfl rfl rfl rfl rfl rfl oe oe (Src.r 5 rfl) qN) ?_)
 |(exact Zt 11;refine sp (Ev.load rfl rfl rfl (Src.r 0 rfl) (bE oe)) ?_)
 |(exact Zt 12;refine sp (Ev.load rfl rfl rfl (Src.r 5 rfl) (m0 oe)) ?_)
 |(exact Zt 13;refine sp (faR 4) ?_)
 |(exact Zt 14;refine sp (ldO 1) ?_)
 |(exact Zt 15;refine sp (ldR 4) ?_)
 exact zq.h):Xo n Q P:=zh
theorem Ra (zh:Xo n Q P:=by
 apply Zom;intro zq;rotate_left;simp
 first
 |(exact Zt 1;refine sq (ae (k:=x.sec.toNat) rfl rfl rfl rfl rfl rfl oe oe (Src.r 4 rfl) ow) ?_)
 |(exact Zt 2;refine sq (Ev.load rfl rfl rfl (Src.r 0 rfl) (aJ oe)) ?_)
 |(exact Zt 3;simp only [Upd.nx])
 |(exact Zt 4;apply Y 0x90e9b)
 |(exact Zt 5;(have y1:cU inn out ops=60:=by unfold cU;rw [if_neg oe,hinv,hno];rfl);revert y1)
 |(exact Zt 6;(have y1:=fX (ah ops) inn S n);revert y1)
 |(exact Zt 7;(have y1:=AC B.ok hE mk);revert y1)
 |(exact Zt 8;(have y1:=u.n1);revert y1)
 |(exact Zt 9;(have y1:=u.st);revert y1)
 |(exact Zt 10;(have y1:=x.sg_le);revert y1)
 |(exact Zt 11;(obtain ⟨y1,y2,y3,y4,y5,y6⟩:=fD hE);revert y1 y2 y3 y4 y5 y6)
 |(exact Zt 12;(rintro ⟨y1,y2⟩ ⟨y3,y4⟩);revert y4;revert y3;revert y2;revert y1)
 |(exact Zt 14;refine L.store (j:=0) rfl rfl rfl rfl rfl rfl rfl rfl ?_)
 |(exact Zt 15;refine L.store (j:=3) rfl rfl rfl rfl rfl rfl rfl rfl ?_)
 exact zq.h):Xo n Q P:=zh
theorem P9 (zh:Xo n Q P:=by
 apply Zom;intro zq;rotate_left;simp
 first
 |(exact Zt 2;refine mq 1 rfl (faR 1) ?_)
 |(exact Zt 3;refine mq 17 rfl (Ev.pure rfl) ?_)
 |(exact Zt 4;refine mq 2 rfl (Ev.pure rfl) ?_)
 |(exact Zt 5;refine sp ((Ev.cast (u:=.int .u64 (0)) (Ev.pure rfl) (congrArg (Value.int .u64) ob))) ?_)
 |(exact Zt 6;refine sp (Ev.load rfl rfl rfl (Src.r 1 rfl) (bm hh oe)) ?_)
 |(exact Zt 7;refine sp (lV rfl rfl rfl rfl) ?_)
 |(exact Zt 8;refine sq (Ev.add rfl rfl oe oe) ?_)
 |(exact Zt 9;refine sq (faR 3) ?_)
 |(exact Zt 10;refine sq (ldR 3) ?_)
 |(exact Zt 11;apply Y 0xb9e521f)
 |(exact Zt 12;apply Y 0x4ce8a)
 |(exact Zt 13;apply Y 0x4ce68)
 |(exact Zt 14;(have y1:cQ f us at_ b:=Qm);revert y1)
 |(exact Zt 15;(have y1:cU inn out ops=60:=by unfold cU;rw [if_pos oe]);revert y1)
 exact zq.h):Xo n Q P:=zh
theorem P8 (zh:Xo n Q P:=by
 apply Zom;intro zq;rotate_left;simp
 first
 |(exact Zt 1;(have y1:syS inn out ops=ah ops:=Qo);revert y1)
 |(exact Zt 2;(have y1:=(X.ok _ _ h1).und);revert y1)
 |(exact Zt 3;(have y1:=hf'.dfs);revert y1)
 |(exact Zt 4;(have y1:=eI (P:=X.P) w (X.ok _ _ ht));revert y1)
 |(exact Zt 5;(have y1:=dt.1 hszb0);revert y1)
 |(exact Zt 6;(have y1:=x.st_len);revert y1)
 |(exact Zt 7;(obtain ⟨y1,y2,y3,y4,y5,y6⟩:1≤S∧S≤4096∧1≤n∧n≤64∧inn≤(S:Int)*(n:Int)∧out≤(S:Int)*(n:Int):=⟨by omega,by omega,by omega,by omega,hszb.2.2.2.2.1,hszb.2.2.2.2.2⟩);revert y1 y2 y3 y4 y5 y6)
 |(exact Zt 8;(obtain ⟨y1,y2,y3⟩:=aD (List.mem_of_getElem? hd));revert y1 y2 y3)
 |(exact Zt 9;(rintro _ _ _ ⟨y1,y2,y3,rfl,rfl,rfl,y4⟩);revert y1 y2 y3 y4)
 |(exact Zt 10;(rintro ⟨y1,y2,y3,y4⟩ ⟨y5,y6⟩);revert y6;revert y5;revert y4;revert y3;revert y2;revert y1)
 |(exact Zt 14;refine jt 3 1 ?_)
 |(exact Zt 15;refine aG [_,_,_,_,_,_,_,_,_,_] (Hq [0,1,2,3,4,5,6,7,8,9] rfl) ?_)
 exact zq.h):Xo n Q P:=zh
theorem P7 (zh:Xo n Q P:=by
 apply Zom;intro zq;rotate_left;simp
 first
 |(exact Zt 1;refine L.append (j:=2) rfl rfl rfl rfl ob rfl rfl rfl rfl (Src.r 4 rfl) Oc (xm _) oe oM rfl ?_)
 |(exact Zt 2;refine L.panic rfl ?_)
 |(exact Zt 4;refine LM.f 16 rfl oa trivial ?_)
 |(exact Zt 5;refine LY.no rfl rfl rfl ?_)
 |(exact Zt 6;refine LY.yes rfl ?_)
 |(exact Zt 7;refine QE.more (r:=KidsR [] []) Has.kids0 ?_)
 |(exact Zt 8;refine QE.more (r:=Rd none (I64 (NI []))) (Has.nil) ?_)
 |(exact Zt 9;refine QE.more (r:=Rd none []) Has.nil ?_)
 |(exact Zt 11;refine mq 12 rfl (Ev.pure rfl) ?_)
 |(exact Zt 12;refine mq 2 rfl (ldR 1) ?_)
 |(exact Zt 13;refine mq 3 rfl (Ev.pure rfl) ?_)
 |(exact Zt 14;refine sp (uX rfl rfl) ?_)
 |(exact Zt 15;refine sp (Ev.load rfl rfl rfl (Src.r 0 rfl) (aJ oe)) ?_)
 exact zq.h):Xo n Q P:=zh
theorem SE (zh:Xo n Q P:=by
 apply Zod;simp
 first
 |(exact Zt 0;exact Rr)
 |(exact Zt 1;exact Rq)
 |(exact Zt 2;exact Rp)
 |(exact Zt 3;exact Ro)
 |(exact Zt 4;exact Rm)
 |(exact Zt 5;exact Rl)
 |(exact Zt 6;exact Rj)
 |(exact Zt 7;exact Ri)
 |(exact Zt 8;exact Rh)
 |(exact Zt 9;exact Rg)
 |(exact Zt 10;exact Re)
 |(exact Zt 11;exact Rb)
 |(exact Zt 12;exact Ra)
 |(exact Zt 13;exact P9)
 |(exact Zt 14;exact P8)
 |(exact Zt 15;exact P7)):Xo n Q P:=zh
theorem IS (zh:Xo n Q P:=by
 apply Zod;simp
 first
 |(exact Zt 14;exact SE)):Xo n Q P:=zh
theorem Mh (zh:Xo n Q P:=by
 apply Zom;intro zq;rotate_left;simp
 first
 |(exact Zt 1;refine sp (Ev.load rfl rfl rfl (Src.r 0 rfl) (cG hh oe)) ?_)
 |(exact Zt 2;refine sp (Ev.load rfl rfl rfl (Src.r 2 rfl) (bm hh oe)) ?_)
 |(exact Zt 3;refine sp (ab (vs:=(flL g b)) rfl rfl rfl (Src.o 0 rfl) rfl rfl ob) ?_)
 |(exact Zt 4;refine sp (ab (vs:=[_,_,_,_,_]) rfl rfl rfl (Src.o 1 rfl) rfl rfl ob) ?_)
 |(exact Zt 5;refine sp (bx (l:=k) rfl rfl rfl rfl rfl rfl oe) ?_)
 |(exact Zt 6;refine sp (pF rfl rfl rfl rfl oe oe) ?_)
 |(exact Zt 7;refine sp (faR 13) ?_)
 |(exact Zt 8;refine sp (ldR 3) ?_)
 |(exact Zt 9;refine sq (Ev.load rfl rfl rfl (Src.r 0 rfl) (bE oe)) ?_)
 |(exact Zt 10;rw [List.all_eq_true])
 |(exact Zt 11;simp [wpOpsS,go_sem,recoverD,hu,Exit.thenS])
 |(exact Zt 14;(have y1:cV sec a b:=Ql);revert y1)
 |(exact Zt 15;(have y1:f.Ok:=⟨os1,os2,on1,on2,owl,odl,orows,ol1,ol2,owear⟩);revert y1)
 exact zq.h):Xo n Q P:=zh
theorem Mg (zh:Xo n Q P:=by
 apply Zom;intro zq;rotate_left;simp
 first
 |(exact Zt 1;(have y1:h=true:=hh);revert y1)
 |(exact Zt 2;(have y1:fc x=.agg (List.toArray x.cells):=by unfold fc;rw [if_pos oe]);revert y1)
 |(exact Zt 3;(have y1:n*S≤64*4096:=Nat.mul_le_mul hn2 hS2);revert y1)
 |(exact Zt 4;(have y1:bC (aS f x mk)=bC f:=Qg);revert y1)
 |(exact Zt 5;(have y1:¬(¬(0≤sec∧sec≤(f.data.length:Int)-1)∨want.length≠f.size):=oe);revert y1)
 |(exact Zt 6;(have y1:=J.sz);revert y1)
 |(exact Zt 7;(have y1:=eB J.ok hE mk);revert y1)
 |(exact Zt 8;(have y1:=u.at_ hk);revert y1)
 |(exact Zt 9;(have y1:=x.more_le);revert y1)
 |(exact Zt 10;(have y1:=x.u_le);revert y1)
 |(exact Zt 11;(rintro _ _ _ ⟨y1,rfl,rfl,rfl,y2⟩);revert y1 y2)
 |(exact Zt 12;(rintro ⟨y1,y2,y3⟩);revert y1 y2 y3)
 exact zq.h):Xo n Q P:=zh
theorem Mf (zh:Xo n Q P:=by
 apply Zom;intro zq;rotate_left;simp
 first
 |(exact Zt 3;refine (hfn.use hj hj' hn hR hs).mono ?_)
 |(exact Zt 4;refine aG [_] (Hq [0] rfl) ?_)
 |(exact Zt 5;refine L.append (j:=0) rfl rfl rfl rfl ob rfl rfl rfl rfl (Src.o 1 rfl) rfl (eZ rfl) oe oV rfl ?_)
 |(exact Zt 6;refine L.append (j:=1) rfl rfl rfl rfl ob rfl rfl rfl rfl (Src.r 3 rfl) oZ (dk _) oe oV rfl ?_)
 |(exact Zt 7;refine L.append (j:=3) rfl rfl rfl rfl ob rfl rfl rfl rfl (Src.r 4 rfl) Oc (xm _) oe oM rfl ?_)
 |(exact Zt 9;refine L.box rfl rfl rfl ?_)
 |(exact Zt 10;refine L.freeze 0 rfl [] ob ob ?_)
 |(exact Zt 11;refine QE.freezeKids 1 rfl [0] ob ob ?_)
 |(exact Zt 13;refine QE.more (r:=Rd none (cv [])) (Has.nil) ?_)
 |(exact Zt 15;refine cnr [_,_,_,_] [0,1,2,3] ?_)
 exact zq.h):Xo n Q P:=zh
theorem Me (zh:Xo n Q P:=by
 apply Zom;intro zq;rotate_left;simp
 first
 |(exact Zt 1;refine lnr [_,_,_,_,_] [0,1,2,3,4] ?_)
 |(exact Zt 2;refine mq 0 rfl (faR 0) ?_)
 |(exact Zt 3;refine mq 1 rfl (faR 0) ?_)
 |(exact Zt 4;refine mq 1 rfl (nkR 10) ?_)
 |(exact Zt 5;refine mq 2 rfl (faR 0) ?_)
 |(exact Zt 6;refine mq 2 rfl (faR 10) ?_)
 |(exact Zt 7;refine mq 6 rfl (faR 10) ?_)
 |(exact Zt 8;refine qrt [0] [] [_,_,_] rfl rt ?_)
 |(exact Zt 9;refine qrt [1,0,1,1] [] [_,_] rfl ⟨⟨_,_,0,_,rfl,rfl,Src.o 0 rfl,.inl ⟨rfl,by decide,_,rfl,rfl,rfl⟩⟩,rfl,trivial⟩ ?_)
 |(exact Zt 10;refine qrt [2,1,0] [] [_,_] rfl ⟨⟨_,_,0,_,rfl,rfl,Src.o 0 rfl,.inl ⟨rfl,by decide,_,rfl,rfl,rfl⟩⟩,rfl,trivial⟩ ?_)
 |(exact Zt 11;refine qrt [] [1] [_,_] rfl rt ?_)
 |(exact Zt 12;refine sp (mX rfl rfl rfl rfl) ?_)
 |(exact Zt 13;refine sp (I7 rfl rfl rfl) ?_)
 |(exact Zt 14;refine sp (FT rfl rfl rfl rfl) ?_)
 |(exact Zt 15;refine sp (cT (k:=i) (m:=i*3) rfl rfl rfl rfl rfl rfl oe (Src.r 1 rfl) (dW (k:=i) oe) rfl) ?_)
 exact zq.h):Xo n Q P:=zh
theorem Md (zh:Xo n Q P:=by
 apply Zom;intro zq;rotate_left;simp
 first
 |(exact Zt 1;refine sp (cT (k:=i) (m:=i*5) rfl rfl rfl rfl rfl rfl oe (Src.r 1 rfl) (nM (k:=i) oe) rfl) ?_)
 |(exact Zt 2;refine ⟨by rw [hE];rfl,rfl,?_⟩)
 |(exact Zt 4;rw [List.find?_eq_none])
 |(exact Zt 5;rw [List.getD_eq_getElem?_getD,List.getElem?_eq_getElem h])
 |(exact Zt 6;rw [BR hfn.1 hf.agree ha _ rfl])
 |(exact Zt 7;simp [UInt8.ofInt,UInt8.toNat_ofNat'])
 |(exact Zt 9;apply Y 0xea2f8be)
 |(exact Zt 10;(have y1:(rwM (rdC inn out S (ah ops)) S (rdN inn out S) (ah ops) (k+1))=(rwM (rdC inn out S (ah ops)) S (rdN inn out S) (ah ops) k):=DK hsk);revert y1)
 |(exact Zt 11;(have y1:(t+1)*S=t*S+S:=Nat.succ_mul t S);revert y1)
 |(exact Zt 12;(have y1:(t:Int)*(S:Int)=((t*S:Nat):Int):=(Int.natCast_mul t S).symm);revert y1)
 |(exact Zt 13;(have y1:jF ls.length u (ls.getD u []) j:=oaa);revert y1)
 |(exact Zt 14;(have y1:Stp w w' (fun _=>False):=⟨hs'.ext.os,hs'.ext.tape,hs'.ext.output,hs'.ext.size,fun k hk hn=>hs'.ext.block k hk hn⟩);revert y1)
 |(exact Zt 15;(have y1:args.length≤fn.ntmps:=obR);revert y1)
 exact zq.h):Xo n Q P:=zh
theorem Mc (zh:Xo n Q P:=by
 apply Zom;intro zq;rotate_left;simp
 first
 |(exact Zt 1;(have y1:mkP lf inn out sz n ops ol=Pp.zero:=AV oai);revert y1)
 |(exact Zt 2;(have y1:q%f.size<f.size:=Nat.mod_lt _ oe);revert y1)
 |(exact Zt 3;(have y1:∀ k,bh s (k+1)=bh s k++cz (s.getD k 0).toNat (wds.getD k 0):=dY s);revert y1)
 |(exact Zt 4;(have y1:=(List.getElem?_eq_some_iff.1 h2).1);revert y1)
 |(exact Zt 5;(have y1:=(mem_ready.1 hr).1);revert y1)
 |(exact Zt 6;(have y1:=J.ol);revert y1)
 |(exact Zt 7;(have y1:=List.mem_range.1 hj);revert y1)
 |(exact Zt 8;(have y1:=fE a b a.length);revert y1)
 |(exact Zt 9;(have y1:=congrArg List.length hf1);revert y1)
 |(exact Zt 10;(have y1:=bU old t S);revert y1)
 |(exact Zt 11;(have y1:=hu.l);revert y1)
 |(exact Zt 12;(have y1:=vW (by rw [hE];decide:dV lf sz n inn out ops seq st old≠0));revert y1)
 |(exact Zt 13;(have y1:=vL (rec:=rec) (size:=size) oe);revert y1)
 |(exact Zt 14;(have y1:=nJ hbig hdone);revert y1)
 |(exact Zt 15;(have y1:=rin _ hV);revert y1)
 exact zq.h):Xo n Q P:=zh
theorem Mb (zh:Xo n Q P:=by
 apply Zom;intro zq;rotate_left;simp
 first
 |(exact Zt 1;(obtain ⟨y1,y2,-⟩:=nG (n:=n) (l:=l) i);revert y1 y2)
 |(exact Zt 2;(obtain ⟨y1,y2,y3,y4,y5,y6,y7,y8,y9⟩:=id h);revert y1 y2 y3 y4 y5 y6 y7 y8 y9)
 |(exact Zt 3;(obtain ⟨y1,y2⟩:∃ u,xs[0]?=some u:=⟨_,List.getElem?_eq_getElem h0⟩);revert y1 y2)
 |(exact Zt 4;(rintro y1 y2 ⟨y3,y4,y5,y6⟩);revert y1 y2 y3 y4 y5 y6)
 |(exact Zt 5;(rintro y1 ⟨y2,y3,y4,y5⟩);revert y1 y2 y3 y4 y5)
 exact zq.h):Xo n Q P:=zh
theorem Ma (zh:Xo n Q P:=by
 apply Zom;intro zq;rotate_left;simp
 first
 |(exact Zt 1;refine aG [] trivial ?_)
 |(exact Zt 2;refine aG [_,_,_,_,_,_,_,_,_] (Hq [0,1,2,3,4,5,6,7,8] rfl) ?_)
 |(exact Zt 3;refine L.append (j:=1) rfl rfl rfl rfl ob rfl rfl rfl rfl (Src.r 4 rfl) Oc (xm _) oe oM rfl ?_)
 |(exact Zt 4;refine L.append (j:=2) rfl rfl rfl rfl ob rfl rfl rfl rfl (Src.r 3 rfl) oZ (dk _) oe oV rfl ?_)
 |(exact Zt 7;refine L.freeze 0 rfl [1] ob ob ?_)
 |(exact Zt 8;refine IZ rfl rfl rfl rfl ?_)
 |(exact Zt 9;refine FJ (j:=0) rfl rfl rfl rfl rfl rfl rfl rfl ?_)
 |(exact Zt 10;refine dd (j:=6) rfl rfl rfl rfl rfl (Nat.zero_lt_succ _) rfl rfl ?_)
 |(exact Zt 12;refine LA.alt [0] oa ob ⟨⟨_,rfl,?_⟩,trivial⟩)
 |(exact Zt 15;refine LM.f 20 rfl oa trivial ?_)
 exact zq.h):Xo n Q P:=zh
theorem L9 (zh:Xo n Q P:=by
 apply Zom;intro zq;rotate_left;simp
 first
 |(exact Zt 1;refine LM.f 36 rfl oa trivial ?_)
 |(exact Zt 2;refine LM.f 4 rfl oa trivial ?_)
 |(exact Zt 3;refine LM.f 5 rfl oa trivial ?_)
 |(exact Zt 4;refine LM.q 0 rfl oa (Ev.pure rfl) rfl trivial ?_)
 |(exact Zt 5;refine LM.q 1 rfl oa (Ev.pure rfl) rfl trivial ?_)
 |(exact Zt 6;refine LM.q 2 rfl oa (Ev.pure rfl) rfl trivial ?_)
 |(exact Zt 9;refine QE.norm (H':=[_,_]) [0,1] rt ob ?_)
 |(exact Zt 10;refine CE (js:=[]) (hs:=[]) (vs:=[_]) rD rfl rt ob ?_)
 |(exact Zt 11;refine IW (js:=[0]) (hs:=[]) (j0:=[1,2,3]) (j1:=[]) (vs:=[_,_,_]) (nC A8 A9 A10 _) rfl rfl ob rfl ⟨⟨_,_,0,_,rfl,rfl,Src.o 0 rfl,.inl ⟨rfl,by decide,_,rfl,rfl,rfl⟩⟩,⟨_,_,0,_,rfl,rfl,Src.o 1 rfl,.inr ⟨rfl,rfl⟩⟩,⟨_,_,0,_,rfl,rfl,Src.o 2 rfl,.inr ⟨rfl,rfl⟩⟩,trivial⟩ ob ?_)
 |(exact Zt 12;refine uS (js:=[]) (hs:=[]) (vs:=[_]) rD rfl rt ob ?_)
 |(exact Zt 14;refine cnr [_,_,_,_,_] [0,1,2,3,4] ?_)
 |(exact Zt 15;refine an (Co f.size oe) ?_)
 exact zq.h):Xo n Q P:=zh
theorem L8 (zh:Xo n Q P:=by
 apply Zom;intro zq;rotate_left;simp
 first
 |(exact Zt 1;refine an (Kn _ _ _) ?_)
 |(exact Zt 2;refine mq 14 rfl (Ev.pure rfl) ?_)
 |(exact Zt 3;refine mq 16 rfl (Ev.pure rfl) ?_)
 |(exact Zt 4;refine qrt [0,1,2,3] [] [_,_] rfl ⟨⟨_,_,0,_,rfl,rfl,Src.o 0 rfl,.inl ⟨rfl,by decide,_,rfl,rfl,rfl⟩⟩,rfl,trivial⟩ ?_)
 |(exact Zt 5;refine qrt [1,0] [] [_] rfl ⟨⟨_,_,0,_,rfl,rfl,Src.o 0 rfl,.inl ⟨rfl,by decide,_,rfl,rfl,rfl⟩⟩,trivial⟩ ?_)
 |(exact Zt 6;refine qrt [4,0,1,3] [] [_,_] rfl ⟨⟨_,_,0,_,rfl,rfl,Src.o 0 rfl,.inl ⟨rfl,by decide,_,rfl,rfl,rfl⟩⟩,rfl,trivial⟩ ?_)
 |(exact Zt 7;refine qrt [] [] [_] rfl ⟨⟨_,_,0,_,rfl,rfl,Src.o 0 rfl,.inl ⟨rfl,by decide,_,rfl,rfl,rfl⟩⟩,trivial⟩ ?_)
 |(exact Zt 8;refine sp (gM rfl rfl rfl rfl rfl rfl rfl) ?_)
 |(exact Zt 9;refine sp (Ev.cast (u:=.int .i64 (((n-(ptS n l i).2):Nat):Int)) (Ev.sub rfl rfl oe oe) (congrArg (Value.int .i64) oe)) ?_)
 |(exact Zt 10;refine sp (Ev.cast (u:=.int .i64 (((t*S:Nat)):Int)) (Ev.mul rfl rfl QC QC) (congrArg (Value.int .i64) m1)) ?_)
 |(exact Zt 11;refine sp (Ev.cast (u:=.int .i64 (max inn out)) (Ev.pure rfl) (congrArg (Value.int .i64) O0)) ?_)
 |(exact Zt 12;refine sp (Ev.fieldAddr rfl rfl rfl rfl rfl rfl (Src.r 1 rfl) (dW (k:=i) oe) rfl) ?_)
 |(exact Zt 13;refine sp (cT (k:=i) (m:=i*3) rfl rfl rfl rfl rfl rfl oe (Src.r 0 rfl) (kb (k:=i) oe) rfl) ?_)
 |(exact Zt 14;refine sp (ae (k:=u) rfl rfl rfl rfl rfl rfl rfl oe (Src.r 0 rfl) OV) ?_)
 |(exact Zt 15;refine sp (ae (k:=x.sec.toNat) rfl rfl rfl rfl rfl rfl oe oe (Src.o 2 rfl) ow) ?_)
 exact zq.h):Xo n Q P:=zh
theorem L7 (zh:Xo n Q P:=by
 apply Zom;intro zq;rotate_left;simp
 first
 |(exact Zt 1;refine sp (Ev.load rfl rfl rfl (Src.r 1 rfl) (bE oe)) ?_)
 |(exact Zt 2;refine sp (ab (vs:=(flL f a)) rfl rfl rfl (Src.r 2 rfl) rfl rfl ob) ?_)
 |(exact Zt 3;refine sp (ab (vs:=(hY y G U V gc uc vc)) rfl rfl rfl (Src.r 1 rfl) rfl rfl ob) ?_)
 |(exact Zt 4;refine sp (ab rfl rfl rfl (Src.o 2 rfl) rfl rfl ob) ?_)
 |(exact Zt 5;refine sp (ab rfl rfl rfl (Src.r 2 rfl) rfl rfl ob) ?_)
 |(exact Zt 6;refine sp (ab rfl rfl rfl (Src.r 3 rfl) rfl rfl ob) ?_)
 |(exact Zt 8;rw [Array.getElem?_append_left obJ])
 |(exact Zt 9;rw [List.getD_eq_getElem?_getD,List.getElem?_eq_getElem h1])
 |(exact Zt 10;rw [List.length_take,List.length_drop])
 |(exact Zt 11;rw [List.range_succ,List.all_append])
 |(exact Zt 12;rw [AI (show (aL f y.a y.b)=aY f y.a y.b from c7 hyes) (show (aL f y.a y.b).found=true by rw [c7 hyes];exact hyes) hright hne hlt hrd])
 |(exact Zt 13;rw [show (sgF f y [p0,p1,p2,p3,p4,p5,p6,p7,p8] c)=(aO f y.a y.b [p0,p1,(p2+1),p3,p4,p5,p6,p7,p8]) from Eq.trans (xB (s:=[p0,p1,p2,p3,p4,p5,p6,p7,p8]) (Int.not_le.2 hsg) (fun q=>hc41 q.2)) (gr hge hc53)])
 |(exact Zt 14;rw [kg oe hc36 hxe hc70])
 |(exact Zt 15;show Leaves X.P fn a.tmps _ a.defers .returning w)
 exact zq.h):Xo n Q P:=zh
theorem L6 (zh:Xo n Q P:=by
 apply Zom;intro zq;rotate_left;simp
 first
 |(exact Zt 1;simp only [List.getD_eq_getElem?_getD,List.getElem?_take,List.getElem?_drop])
 |(exact Zt 2;simp only [Region.wanted,hy])
 |(exact Zt 3;simp only [Upd.X,Upd.gm,Upd.ge])
 |(exact Zt 4;simp only [Upd.gb,Upd.geb,Upd.l0,Upd.le0])
 |(exact Zt 9;(have y1:((t+1:Nat):Int)*(S:Int)=(((t+1)*S:Nat):Int):=(Int.natCast_mul (t+1) S).symm);revert y1)
 |(exact Zt 10;(have y1:(List.toArray as).map ρ=List.toArray args:=Qj);revert y1)
 |(exact Zt 11;(have y1:(aI (ah ops) inn S (t+1)).length=(aI (ah ops) inn S t).length+1:=qf);revert y1)
 |(exact Zt 12;(have y1:(ptS n l i).2=n:=oe);revert y1)
 |(exact Zt 13;(have y1:(zeroValue e).run X.P w=.ok ei.zero w:=Qd);revert y1)
 |(exact Zt 14;(have y1:cntE false (S:Int) (n:Int) (m:Int) out ops seq st data (S:Int) (n:Int) lst (kk:Int)=_:=wQ hvl oe qC);revert y1)
 |(exact Zt 15;(have y1:j∉js:=by simpa using hjj);revert y1)
 exact zq.h):Xo n Q P:=zh
theorem L5 (zh:Xo n Q P:=by
 apply Zom;intro zq;rotate_left;simp
 first
 |(exact Zt 1;(have y1:k*f.size≤64*4096:=Nat.mul_le_mul oe oe);revert y1)
 |(exact Zt 2;(have y1:ptF n l=(ptS n l i).1:=by unfold ptF ptE;rw [hB,if_neg oe]);revert y1)
 |(exact Zt 3;(have y1:av (aS f x mk) oth=ji f x mk:=oaQ);revert y1)
 |(exact Zt 4;(have y1:seq.length≤64:=oe);revert y1)
 |(exact Zt 5;(have y1:syS inn out ops=ah ops:=oaX);revert y1)
 |(exact Zt 6;(have y1:t*S≤64*4096:=Nat.mul_le_mul oe hS2);revert y1)
 |(exact Zt 7;(have y1:us.length*f.size≤64*4096:=Nat.mul_le_mul oe oe);revert y1)
 |(exact Zt 8;(have y1:¬ (k:Int)<0:=oe);revert y1)
 |(exact Zt 9;(have y1:=fX (ah ops) inn S t);revert y1)
 |(exact Zt 10;(have y1:=j2 ops out k3 k6);revert y1)
 |(exact Zt 11;(have y1:=n8 (by rw [hE];decide:cntE false (S:Int) (n:Int) (m:Int) out ops seq st data (S:Int) (n:Int) lst (kk:Int)≠0));revert y1)
 |(exact Zt 12;(have y1:=n8 (by rw [hE];decide:cntE false (S:Int) (n:Int) (m:Int) out ops seq st data fs ls lst (kk:Int)≠0));revert y1)
 |(exact Zt 13;(have y1:=n8 (by rw [hE];decide:cntE lf sz n inn out ops seq st data fs ls lst k≠0));revert y1)
 |(exact Zt 14;(have y1:=eB J.ok hE0 mk);revert y1)
 |(exact Zt 15;(have y1:=eB ok hE mk);revert y1)
 exact zq.h):Xo n Q P:=zh
theorem L4 (zh:Xo n Q P:=by
 apply Zom;intro zq;rotate_left;simp
 first
 |(exact Zt 1;(have y1:=fU hρ ha);revert y1)
 |(exact Zt 2;(have y1:=Pi hl1 hl5 (show p6.toNat<y.gs.length by omega));revert y1)
 |(exact Zt 3;(have y1:=hsat.own j _ hj);revert y1)
 |(exact Zt 4;(have y1:=orows (y.gs.getD p6.toNat 0).toNat oe);revert y1)
 |(exact Zt 5;(have y1:=orows x.sec.toNat oe);revert y1)
 |(exact Zt 6;(have y1:=F6 (inn:=inn) (out:=out) (S:=S) (i:=k) oe oe);revert y1)
 |(exact Zt 7;(have y1:=bY (ah ops) inn S (rdN inn out S) (rdN inn out S));revert y1)
 |(exact Zt 8;(have y1:=Hz (n:=n) hS1 r4 r3);revert y1)
 |(exact Zt 9;(have y1:=Hn (U:=U) (k+1));revert y1)
 |(exact Zt 10;(have y1:=zA (P:=X.P) w (X.ok _ _ ht));revert y1)
 |(exact Zt 11;(have y1:=ve k6 (k:=i) hi);revert y1)
 |(exact Zt 12;(obtain ⟨y1,y2,y3,-,-,-⟩:=fm.1 hvl);revert y1 y2 y3)
 |(exact Zt 13;(obtain ⟨y1,y2,y3,y4,y5,y6⟩:=fD hE0);revert y1 y2 y3 y4 y5 y6)
 |(exact Zt 14;(obtain ⟨y1,y2,y3⟩:=id hk);revert y1 y2 y3)
 |(exact Zt 15;(obtain ⟨y1,y2,y3⟩:=aD hd);revert y1 y2 y3)
 exact zq.h):Xo n Q P:=zh
theorem L3 (zh:Xo n Q P:=by
 apply Zom;intro zq;rotate_left;simp
 first
 |(exact Zt 1;(rintro _ _ _ ⟨y1,y2,y3,y4,y5,y6,rfl,rfl,rfl⟩);revert y1 y2 y3 y4 y5 y6)
 |(exact Zt 2;(rintro _ _ _ ⟨y1,⟨y2,y3,y4,y5⟩,rfl,rfl,rfl⟩);revert y5;revert y4;revert y3;revert y2;revert y1)
 |(exact Zt 3;(rintro _ _ _ ⟨y1,⟨y2,y3⟩,rfl,rfl,rfl⟩);revert y3;revert y2;revert y1)
 |(exact Zt 4;(rintro ⟨y1,y2⟩ ⟨y3,y4,y5,y6⟩);revert y6;revert y5;revert y4;revert y3;revert y2;revert y1)
 |(exact Zt 14;refine (hfn.useR hj hj' hn hR hs).mono ?_)
 exact zq.h):Xo n Q P:=zh
theorem L2 (zh:Xo n Q P:=by
 apply Zom;intro zq;rotate_left;simp
 first
 |(exact Zt 1;refine C.le (Γ':=[(0,.slice LA l.length lc),(1,.int .i64 (n:Int)),(4,ag A4 0),(5,ag A5 0),(6,.int .i64 (i:Int)),(8,ag A8 0)]) (R':=[Rd LA (m5 l)]) (H':=[Own 40 4 A4 1 1 [.bool false,.int .i64 0,.int .i64 0,.slice none 0 0],Own 40 4 A5 1 1 [.bool false,.int .i64 (n:Int),.int .i64 ((ptS n l i).2:Nat),.slice A (ptS n l i).1.length c],Own 157 5 A (ptS n l i).1.length c (cv (ptS n l i).1),Own 157 5 A8 1 1 (Po.cells (ptO n (ptS n l i).2 (l.getD i (0,0,0))))]) (by exact lk [0] [0,1,2,3] (hh:=⟨rfl,rfl,rfl,(congrArg some (ay rfl (by rw [hbk];rfl))),trivial⟩)) ?_)
 |(exact Zt 2;refine C.more (r:=KidsR [] []) Has.kids0 ?_)
 |(exact Zt 3;refine aG (flR f a++[Rd G (I64 y.gs),Rd U (I64 y.us),Rd V (I64 y.ls),Rd OA (cv k.pl.ops),Rd QA (I64 k.pl.seq),Rd HA (I64 k.pl.st),Rd M (mcA f a y G U V gc uc vc (.int .i64 p0::.int .i64 p1::.int .i64 p2::.int .i64 p3::.int .i64 p4::.int .i64 p5::.int .i64 p6::.int .i64 p7::.int .i64 p8::mcK k OA QA HA oc qc hc (rv::.int .i64 0::.int .i64 0::.int .i64 0::.slice none 0 0::.bool false::[])))]) ⟨Has.r 0 rfl,Has.r 1 rfl,Has.r 2 rfl,Has.r 3 rfl,Has.r 4 rfl,Has.r 5 rfl,Has.r 6 rfl,Has.r 7 rfl,Has.r 8 rfl,Has.r 9 rfl,Has.o 0 rfl,trivial⟩ ?_)
 |(exact Zt 4;refine aG [_,_,_,_,_,_,_] (Hq [0,1,2,3,4,5,6] rfl) ?_)
 |(exact Zt 5;refine aG [_,_,_,_,_,_,_] ⟨Has.r 0 rfl,Has.r 1 rfl,Has.r 2 rfl,Has.r 3 rfl,Has.r 4 rfl,Has.r 5 rfl,Has.o 1 rfl,trivial⟩ ?_)
 |(exact Zt 6;refine aG [_,_,_,_,_,_] (Hq [0,1,2,3,4,5] rfl) ?_)
 |(exact Zt 7;refine L.append (j:=1) rfl rfl rfl rfl ob rfl rfl rfl rfl (Src.o 0 rfl) QU (b4 _) oe oM rfl ?_)
 |(exact Zt 8;refine L.append (j:=1) rfl rfl rfl rfl ob rfl rfl rfl rfl (Src.o 0 rfl) oU (b4 _) oe oM rfl ?_)
 |(exact Zt 9;refine L.append (j:=2) rfl rfl rfl rfl ob rfl rfl rfl rfl (Src.o 3 rfl) rfl (Gb _) oe QS rfl ?_)
 |(exact Zt 10;refine L.append (j:=2) rfl rfl rfl rfl ob rfl rfl rfl rfl (Src.o 4 rfl) rfl (Gb _) oe QS rfl ?_)
 exact zq.h):Xo n Q P:=zh
theorem L1 (zh:Xo n Q P:=by
 apply Zom;intro zq;rotate_left;simp
 first
 |(exact Zt 11;refine L.freeze 0 rfl [1,2,3] ob ob ?_)
 |(exact Zt 12;refine L.freeze 0 rfl [1,2] ob ob ?_)
 |(exact Zt 13;refine pC (cs:=Po.cells (ptO n (ptS n l i).2 (l.getD i (0,0,0)))) rfl rfl rfl rfl (Nat.zero_lt_succ _) rfl rfl rfl ?_)
 |(exact Zt 14;refine pC (cs:=Po.cells (⟨1,((ptS n l i).2:Int),((n-(ptS n l i).2:Nat):Int),0⟩:Po)) rfl rfl rfl rfl (Nat.zero_lt_succ _) rfl rfl rfl ?_)
 |(exact Zt 15;refine mU rfl rfl rfl rfl rfl rfl rfl rfl rfl QX oe rfl ?_)
 exact zq.h):Xo n Q P:=zh
theorem L0 (zh:Xo n Q P:=by
 apply Zom;intro zq;rotate_left;simp
 first
 |(exact Zt 1;refine dd (j:=4) rfl rfl rfl rfl rfl (Nat.zero_lt_succ _) rfl rfl ?_)
 |(exact Zt 7;refine LM.q 4 rfl oa (Ev.pure rfl) rfl trivial ?_)
 |(exact Zt 8;refine LM.q 5 rfl oa (Ev.pure rfl) rfl trivial ?_)
 |(exact Zt 9;refine Rx ?_)
 |(exact Zt 15;refine QE.norm (H':=[_,_,_]) [0,1,2] rt ob ?_)
 exact zq.h):Xo n Q P:=zh
theorem LZ (zh:Xo n Q P:=by
 apply Zom;intro zq;rotate_left;simp
 first
 |(exact Zt 1;refine fJ (js:=[0]) (hs:=[0]) (vs:=[_]) rfl rt ob ?_)
 |(exact Zt 2;refine fJ (js:=[]) (hs:=[0]) (vs:=[_]) rfl rt ob ?_)
 |(exact Zt 5;refine Ru ?_)
 |(exact Zt 6;refine hK _ _ (hh _ _ (hf.put_none _) ?_))
 |(exact Zt 7;refine an (Cs f a hok hh x XA xc hxl hc17) ?_)
 |(exact Zt 8;refine an (zN lf inn out ops OA oc hops) ?_)
 |(exact Zt 9;refine an (yN lf inn out ops OA oc hops) ?_)
 |(exact Zt 10;refine a8 (vB (aq y.a (al f.size 1 (ak s)) 3 f).1 b hk.1 hb hbc y.b (al f.size 0 []) QO f.size f.size (cf (slot:=[]) OO) hk.2.1.symm ⟨by omega,by rw [hk.2.2];omega⟩) ?_)
 |(exact Zt 11;refine a8 (vB f a hok hh hcap y.a (al f.size 1 (ak s)) WO f.size f.size (cf hfit) rfl ⟨hft.2.1,hft.2.2.2.1⟩) ?_)
 |(exact Zt 12;refine a8 (kf f a hok hh (y.gs.getD p6.toNat 0) c CA c.length cc rfl oe) ?_)
 |(exact Zt 13;refine mq 0 rfl (ab rfl rfl rfl (Src.r 0 rfl) rfl rfl ob) ?_)
 |(exact Zt 14;refine mq 0 rfl (ab rfl rfl rfl (Src.r 5 rfl) rfl rfl ob) ?_)
 |(exact Zt 15;refine mq 12 rfl (Ev.build rfl rfl rfl rfl rfl rfl rfl) ?_)
 exact zq.h):Xo n Q P:=zh
theorem LX (zh:Xo n Q P:=by
 apply Zom;intro zq;rotate_left;simp
 first
 |(exact Zt 1;refine qrt [0] [] [_,_,_] rfl ⟨⟨_,_,0,_,rfl,rfl,Src.o 1 rfl,.inl ⟨rfl,by decide,_,rfl,rfl,rfl⟩⟩,rfl,rfl,trivial⟩ ?_)
 |(exact Zt 2;refine qrt [0] [] [_] rfl ⟨⟨_,_,0,_,rfl,rfl,Src.o 1 rfl,.inl ⟨rfl,by decide,_,rfl,rfl,rfl⟩⟩,trivial⟩ ?_)
 |(exact Zt 3;refine sp ((Ev.cast (u:=.int .u64 (0)) (Ev.shr rfl rfl ob) (congrArg (Value.int .u64) ob))) ?_)
 |(exact Zt 4;refine sp ((Ev.cast (u:=.int .u64 (1)) (Ev.pure rfl) (congrArg (Value.int .u64) ob))) ?_)
 |(exact Zt 5;refine sp (Ev.cast (u:=.int .i64 ((((ptS n l i).2+(ptO n (ptS n l i).2 (l.getD i (0,0,0))).ln.toNat):Nat):Int)) (Ev.add rfl rfl oe oe) (congrArg (Value.int .i64) oe)) ?_)
 |(exact Zt 6;refine sp (Ev.cast (u:=.int .i64 ((((t+1)*S:Nat)):Int)) (Ev.mul rfl rfl oad oad) (congrArg (Value.int .i64) m2)) ?_)
 |(exact Zt 7;refine sp (Ev.cast (u:=.int .i64 (((t+1):Nat):Int)) (Ev.add rfl rfl oe oe) (congrArg (Value.int .i64) oe)) ?_)
 |(exact Zt 8;refine sp (ae (k:=i) rfl rfl rfl rfl rfl rfl rfl oe (Src.r 0 rfl) ow) ?_)
 |(exact Zt 9;refine sp (ae (k:=k) rfl rfl rfl rfl rfl rfl rfl oe (Src.r 0 rfl) ow) ?_)
 |(exact Zt 10;refine sp (ae (k:=sec.toNat) rfl rfl rfl rfl rfl rfl oe oe (Src.r 1 rfl) oy) ?_)
 |(exact Zt 11;refine sp (aV (k:=0) (m:=1) rfl rfl rfl rfl rfl rfl ob (Src.r 0 rfl) Ox rfl) ?_)
 |(exact Zt 12;refine sp (aV (k:=1) (m:=2) rfl rfl rfl rfl rfl rfl ob (Src.r 0 rfl) Ox rfl) ?_)
 |(exact Zt 13;refine sp (ab (vs:=(hY x.lay c.G c.U c.V c.gc c.uc c.vc)) rfl rfl rfl (Src.r 10 rfl) rfl rfl ob) ?_)
 |(exact Zt 14;refine sp (ab (vs:=Po.cells (ops.getD i Po.zero)) rfl rfl rfl (Src.r 1 rfl) (nN ops i oe) rfl ob) ?_)
 |(exact Zt 15;refine sp (ab (vs:=Po.cells (ptO n (ptS n l i).2 (l.getD i (0,0,0)))) rfl rfl rfl (Src.o 3 rfl) rfl rfl ob) ?_)
 exact zq.h):Xo n Q P:=zh
theorem LW (zh:Xo n Q P:=by
 apply Zom;intro zq;rotate_left;simp
 first
 |(exact Zt 1;refine sp (ab (vs:=[.int .i64 p0,.int .i64 p1,.int .i64 (p2+1),.int .i64 p3,.int .i64 p4,.int .i64 p5,.int .i64 p6,.int .i64 p7,.int .i64 p8]) rfl rfl rfl (Src.r 0 rfl) rfl rfl ob) ?_)
 |(exact Zt 2;refine sp (ab (vs:=[.int .i64 p0,.int .i64 p1,.int .i64 p2,.int .i64 p3,.int .i64 p4,.int .i64 p5,.int .i64 p6,.int .i64 p7,.int .i64 p8]) rfl rfl rfl (Src.o 0 rfl) rfl rfl ob) ?_)
 |(exact Zt 3;refine sp (ab (vs:=[_,_,_,_,_,_,_,_,_]) rfl rfl rfl (Src.r 0 rfl) rfl rfl ob) ?_)
 |(exact Zt 4;refine sp (ab (vs:=[_,_,_,_,_,_,_,_]) rfl rfl rfl (Src.o 1 rfl) rfl rfl ob) ?_)
 |(exact Zt 5;refine sp (ab (vs:=[_,_,_,_,_]) rfl rfl rfl (Src.r 0 rfl) rfl rfl ob) ?_)
 |(exact Zt 6;refine sp (ab (vs:=[_,_,_,_]) rfl rfl rfl (Src.o 2 rfl) rfl rfl ob) ?_)
 |(exact Zt 7;refine sp (ab rfl rfl rfl (Src.o 0 rfl) rfl rfl ob) ?_)
 |(exact Zt 8;refine sq (mX rfl rfl rfl rfl) ?_)
 |(exact Zt 9;refine sq (ae (k:=i) rfl rfl rfl rfl rfl rfl rfl oe (Src.r 0 rfl) ow) ?_)
 |(exact Zt 10;refine sq (ae (k:=k) rfl rfl rfl rfl rfl rfl rfl oe (Src.r 0 rfl) oO) ?_)
 |(exact Zt 11;refine sq (ae (k:=k) rfl rfl rfl rfl rfl rfl rfl oe (Src.r 1 rfl) oO) ?_)
 |(exact Zt 12;refine sq (ae (k:=k) rfl rfl rfl rfl rfl rfl rfl oe (Src.r 3 rfl) ow) ?_)
 |(exact Zt 13;refine sq (ae (k:=k) rfl rfl rfl rfl rfl rfl rfl oe (Src.r 5 rfl) oO) ?_)
 |(exact Zt 14;refine sq (Ev.load rfl rfl rfl (Src.r 1 rfl) (bE oe)) ?_)
 |(exact Zt 15;refine sq (Ev.load rfl rfl rfl (Src.r 2 rfl) (FH oe)) ?_)
 exact zq.h):Xo n Q P:=zh
theorem LV (zh:Xo n Q P:=by
 apply Zom;intro zq;rotate_left;simp
 first
 |(exact Zt 1;refine sq (Ev.load rfl rfl rfl (Src.r 3 rfl) (aJ oe)) ?_)
 |(exact Zt 2;refine sq (Ev.load rfl rfl rfl (Src.r 5 rfl) (bE oe)) ?_)
 |(exact Zt 5;rw [List.nodup_iff_pairwise_ne,List.pairwise_map])
 |(exact Zt 6;rw [List.range_succ,List.find?_append,h])
 |(exact Zt 7;rw [mG hfn.1 hf.agree hg ha _ rfl,hall])
 |(exact Zt 8;rw [if_neg ob,if_neg ob,if_neg ob,if_neg qQ,if_neg ob,if_neg ob])
 |(exact Zt 9;rw [← Bool.not_eq_true,wg hb6])
 |(exact Zt 10;show Leaves X.P fn a.tmps _ a.defers (.panicking [{ v:=pv,recovered:=false }]) w)
 |(exact Zt 11;show Value.agg (List.toArray [.bool false,.int .i64 (n:Int),.int .i64 (((ptS n l i).2:Nat):Int),.slice A (ptS n l i).1.length c])=_)
 |(exact Zt 12;simp [invoke,callFunc,run_program,hf,hname])
 |(exact Zt 13;simp only [Upd.gb,Upd.l0,Upd.r0,Upd.geb,Upd.le0])
 |(exact Zt 14;simp only [e,List.length_append,cJ])
 |(exact Zt 15;simp only [execOp,ho,Instr.buildSlice,Sem.run_bind,run_underlying e1,Result.andThen_ok,hS,hsz,if_neg hbig,if_neg hz1,hz,Sem.run_pure,hp,hf])
 exact zq.h):Xo n Q P:=zh
theorem LU (zh:Xo n Q P:=by
 apply Zom;intro zq;rotate_left;simp
 first
 |(exact Zt 1;simp only [execOp,resolve,hfv,Deferred.ofValue,invoke,Sem.run_bind,Sem.run_pure,Result.andThen_ok,e2])
 |(exact Zt 6;apply Y 0x911fcb2f)
 |(exact Zt 7;(have y1:(#[(0,x)]:Array (Nat×Operand)).map (fun (i,x)=>(i,ρ x))=#[(0,.agg (List.toArray cs))]:=by simp [hρ _ _ hx]);revert y1)
 |(exact Zt 8;(have y1:((Array.range (1*cs.length)).map (ei.zero.cells[· %ei.zero.cells.size]!)).size=cs.length:=Ob);revert y1)
 |(exact Zt 9;(have y1:((List.range len).map F).length=len:=Ob);revert y1)
 |(exact Zt 10;(have y1:((List.toArray ps).map fun (i,x)=>(i,ρ x)).toList=vs:=by simpa using n5 hρ hv);revert y1)
 |(exact Zt 11;(have y1:(Go.store ⟨g,k,none⟩ v).run X.P w=.ok () (w.setCell ⟨g,k,none⟩ v):=oaN);revert y1)
 |(exact Zt 12;(have y1:(List.mapM (kE a.tmps) (List.toArray rs).toList).run X.P w=.ok vs w:=vt (X:=X) hf hsat hr);revert y1)
 |(exact Zt 13;(have y1:(NI chg).Nodup:=hr.imp fun h=>by omega);revert y1)
 |(exact Zt 14;(have y1:(Raw.dirt (flD x.img x.S x.n (x.n+x.more)) x.n x.S x.w3 k)=x.dat:=by rw [hkd];rfl);revert y1)
 |(exact Zt 15;(have y1:(U8 (List.replicate (min p (n-p)) x)).length=min p (n-p):=QN);revert y1)
 exact zq.h):Xo n Q P:=zh
theorem LS (zh:Xo n Q P:=by
 apply Zom;intro zq;rotate_left;simp
 first
 |(exact Zt 1;(have y1:([.int .i64 (x.S:Int),.slice b.D (x.n+x.more) b.cD,.slice b.W (x.n+x.more) b.cW,.int .i64 100000,.slice b.E (x.n+x.more) b.cE]:List Value)=[.int .i64 (x.fl0.size:Int),.slice b.D x.fl0.data.length b.cD,.slice b.W x.fl0.wear.length b.cW,.int .i64 x.fl0.limit,.slice b.E x.fl0.dead.length b.cE]:=Oe);revert y1)
 |(exact Zt 2;(have y1:(aA a b (k+1)).length=(aA a b k).length+1:=obC);revert y1)
 |(exact Zt 3;(have y1:(al f.size 0 (ak p)).length=f.size:=cf oe);revert y1)
 |(exact Zt 4;(have y1:(ndC (ndN (ndU (ndT old (a7 old (ah ops)) S seq) S) st.length seq.length) (ndW S))≤3000001:=obv);revert y1)
 |(exact Zt 5;(have y1:(ndN (ndU (ndT old (a7 old (ah ops)) S seq) S) st.length seq.length)≤3000000:=obt);revert y1)
 |(exact Zt 6;(have y1:(ndU (ndT old (a7 old (ah ops)) S seq) S)≤(ndT old (a7 old (ah ops)) S seq)+S:=J5);revert y1)
 |(exact Zt 7;(have y1:(cz m w).getD k 0=UInt8.ofNat (m/2^(8*(w-1-k))):=by rw [En oe,JW]);revert y1)
 |(exact Zt 8;(have y1:(a7 old (l.take (i+1))).length=(a7 old (l.take i)).length+1:=qf);revert y1)
 |(exact Zt 9;(have y1:(a7 old (ah ops)).length=(ah ops).length:=dX _ _);revert y1)
 |(exact Zt 10;(have y1:(ah (ops.take i)++l5 (ops.getD i Po.zero) (j+1))=(ah (ops.take i)++l5 (ops.getD i Po.zero) j)++[pS (ops.getD i Po.zero) j]:=by rw [yO,List.append_assoc]);revert y1)
 |(exact Zt 11;(have y1:(zeroValue et).run X.P w=.ok ei.zero w:=Qd);revert y1)
 |(exact Zt 12;(have y1:(⟨g,k,none⟩:Addr).add 0=⟨g,k,none⟩:=rfl);revert y1)
 |(exact Zt 13;(have y1:8+(ak s).length≤f.size:=vh hft.2.2.2.2.2);revert y1)
 |(exact Zt 14;(have y1:Stp w w' (fun k=>∃ (i:Nat) (c:Pr),(sel H js)[i]?=some c∧c.fp k):=⟨hs'.ext.os,hs'.ext.tape,hs'.ext.output,hs'.ext.size,hs'.ext.block⟩);revert y1)
 |(exact Zt 15;(have y1:Tryz.prog.underlying 4=some .bool:=((X.ok 4 ti4 rfl).und));revert y1)
 exact zq.h):Xo n Q P:=zh
theorem LR (zh:Xo n Q P:=by
 apply Zom;intro zq;rotate_left;simp
 first
 |(exact Zt 1;(have y1:a.tmps.getD b undef=.pointer (some (ad.add k)):=by simp [hb',ag]);revert y1)
 |(exact Zt 2;(have y1:aR f (us.take (k+1))=aR f (us.take k)++f.data.getD (us.getD k 0).toNat []:=by rw [aC us 0 k hk2,Cu]);revert y1)
 |(exact Zt 3;(have y1:b.hs.length=x.fl0.data.length:=hbl.trans x.dat_len.symm);revert y1)
 |(exact Zt 4;(have y1:chY l inn (t*S+j)=false:=by unfold chY;rw [if_neg oe];exact decide_eq_false oe);revert y1)
 |(exact Zt 5;(have y1:chY l inn (t*S+j)=true:=by unfold chY;rw [if_neg oe];exact decide_eq_true oe);revert y1)
 |(exact Zt 6;(have y1:gE (ah ops) inn S t=true:=lI (p:=fun a=>chY (ah ops) inn (t*S+a)) (k:=j) oe hx);revert y1)
 |(exact Zt 7;(have y1:aA a b (k+1)=aA a b k++[(k,k+1)]:=Q2);revert y1)
 |(exact Zt 8;(have y1:k=x.dirts:=by unfold Raw.dirts;split<;>omega);revert y1)
 |(exact Zt 9;(have y1:dK x 337 338 339 340 341=337:=by unfold dK;rw [if_pos h1]);revert y1)
 |(exact Zt 10;(have y1:len≤m:=by rw [hmm];split<;>omega);revert y1)
 |(exact Zt 11;(have y1:dV false (S:Int) (n:Int) inn out ops seq st old=0:=ub hvl hin qI);revert y1)
 |(exact Zt 12;(have y1:dV false (S:Int) (n:Int) inn out ops seq st old=2:=HR hvl hin qI);revert y1)
 |(exact Zt 13;(have y1:dV lf sz n inn out ops seq st old=_:=HT hvl);revert y1)
 |(exact Zt 14;(have y1:dV lf sz n inn out ops seq st old=_:=HS hvl hne);revert y1)
 |(exact Zt 15;(have y1:okU (ah ops) inn S n seq st u=true:=HK hallj oe);revert y1)
 exact zq.h):Xo n Q P:=zh
theorem LO (zh:Xo n Q P:=by
 apply Zom;intro zq;rotate_left;simp
 first
 |(exact Zt 1;(have y1:ptF n l=(ptS n l i).1++[(⟨1,((ptS n l i).2:Int),((n-(ptS n l i).2:Nat):Int),0⟩:Po)]:=by unfold ptF ptE;rw [hB,if_pos oe]);revert y1)
 |(exact Zt 2;(have y1:q/f.size*f.size+q%f.size=q:=oaO);revert y1)
 |(exact Zt 3;(have y1:q/f.size<us.length:=(Nat.div_lt_iff_lt_mul oe).2 hq);revert y1)
 |(exact Zt 4;(have y1:rdE lf inn out size ops=_:=JL hc20 obE oe);revert y1)
 |(exact Zt 5;(have y1:rdE lf inn out size ops=_:=JL hc25 obD oe);revert y1)
 |(exact Zt 6;(have y1:aN s=false:=xG (k:=k) oe oaH);revert y1)
 |(exact Zt 7;(have y1:scJ (aS f x mk) sec oth g=scJ f sec oth g:=by unfold scJ;rw [hse,hpc]);revert y1)
 |(exact Zt 8;(have y1:scJ f sec oth g=bN (av f sec) (lgx sec oth g) k:=fO (Nat.le_of_lt hfr) hb0);revert y1)
 |(exact Zt 9;(have y1:av (aS f x mk) sec=av f sec:=p9 hE (by rw [hxs];exact fun e=>J.ne e.symm));revert y1)
 |(exact Zt 10;(have y1:stB (NI (aI (ah ops) inn S n)) st=true:=fG fun k hk=>hall k oe);revert y1)
 |(exact Zt 11;(have y1:fM lf sz n inn out ops seq st=true:=QV);revert y1)
 |(exact Zt 12;(have y1:fM lf sz n inn out ops seq st=true:=oa0);revert y1)
 |(exact Zt 13;(have y1:vss[i]?=some (vss.getD i []):=getD_some hi);revert y1)
 |(exact Zt 14;(have y1:x.kind≠1:=by rw [hx];show ¬(2:Int)=1;decide);revert y1)
 |(exact Zt 15;(have y1:¬ (q*i.size=0):=Nat.mul_ne_zero oe oe);revert y1)
 exact zq.h):Xo n Q P:=zh
theorem LN (zh:Xo n Q P:=by
 apply Zom;intro zq;rotate_left;simp
 first
 |(exact Zt 1;(have y1:¬(rec.length<5∨64≤(rec.getD 0 0).toNat):=oe);revert y1)
 |(exact Zt 2;(have y1:¬jF ls.length u (ls.getD u []) j:=oaa);revert y1)
 |(exact Zt 3;(have y1:ρ (.const .nilIface)=.nilIface:=hρ _ _ rfl);revert y1)
 |(exact Zt 4;(have y1:∀ i,(U.O i).length=f.size:=fun i=>by rw [CF,B.sz]);revert y1)
 |(exact Zt 5;(have y1:∀ i,(U.W i).length=f.size:=fun i=>by rw [IT,B.sz]);revert y1)
 |(exact Zt 6;(have y1:∀ i,(scJ f sec oth g).free≤i→i<bC f→bZ (aX (av f sec) i)=true:=fun i hi hi2=>mE hi hi2);revert y1)
 |(exact Zt 7;(have y1:∀ p∈js,∀ q∈js',p≠q:=fun p hp q hq=>(List.nodup_append.1 hn).2.2 p hp q hq);revert y1)
 |(exact Zt 8;(have y1:∀ r,(Builtin.zeroCells ei.zero.cells r).size=r:=fun r=>by rw [size_zeroCells,hz,hzc];simp);revert y1)
 |(exact Zt 9;(have y1:∀ t,t<U.y.n.toNat→0≤(t:Int)∧(t:Int)<(f.data.length:Int):=fun t ht=>by rw [B.nn];omega);revert y1)
 |(exact Zt 10;(have y1:=MapKept.run_checkKey (P:=X.P) (w:=w) (k:=.int kd q) e2 rfl es.isEmpty 9999);revert y1)
 |(exact Zt 11;(have y1:=il (b:=b) (p:=at_.toNat) (z:=f.size) (s:=s) oe);revert y1)
 |(exact Zt 12;(have y1:=congrArg (fun x:UInt8=>x.toBitVec[i]) h2);revert y1)
 |(exact Zt 13;(have y1:=hfr.agree (.func f) (.func (.func f) #[] #[]) rfl);revert y1)
 |(exact Zt 14;(have y1:=AO (old:=old) (new:=(a7 old (ah ops))) (seq:=seq) hS2 i);revert y1)
 |(exact Zt 15;(have y1:=AO (old:=old) (new:=(a7 old (ah ops))) (seq:=seq) hS2 seq.length);revert y1)
 exact zq.h):Xo n Q P:=zh
theorem LL (zh:Xo n Q P:=by
 apply Zom;intro zq;rotate_left;simp
 first
 |(exact Zt 1;(have y1:=vZ (old:=old) (new:=(a7 old (ah ops))) (S:=S) (seq:=seq) (i:=i) oe);revert y1)
 |(exact Zt 2;(have y1:=Gj (ndN (ndU (ndT old (a7 old (ah ops)) S seq) S) st.length seq.length) (ndW S));revert y1)
 |(exact Zt 3;(have y1:=nS (ctF old t S) (ctF (a7 old (ah ops)) t S) (ctF old t S).length);revert y1)
 |(exact Zt 4;(have y1:=vX (aA (ctF old t S) (ctF (a7 old (ah ops)) t S) (ctF old t S).length) k);revert y1)
 |(exact Zt 5;(have y1:=AM (old:=old) (new:=(a7 old (ah ops))) (seq:=seq) hS2 i);revert y1)
 |(exact Zt 6;(have y1:=AM (old:=old) (new:=(a7 old (ah ops))) (seq:=seq) hS2 seq.length);revert y1)
 |(exact Zt 7;(have y1:=jS (old:=old) (new:=(a7 old (ah ops))) (S:=S) (seq:=seq) (i:=i) oe);revert y1)
 |(exact Zt 8;(have y1:=vW (by rw [hE];decide:dV false (S:Int) (n:Int) inn out ops seq st old≠0));revert y1)
 |(exact Zt 9;(have y1:=fm (lf:=false) (sz:=(S:Int)) (n:=(n:Int)) (inn:=inn) (out:=out) (ops:=ops) (seq:=seq) (st:=st));revert y1)
 |(exact Zt 10;(have y1:=x.U_ok (b:=x.n+x.more) (.inr (Nat.le_refl _)));revert y1)
 |(exact Zt 11;(obtain ⟨y1,y2,y3,y4,y5,y6,y7,y8⟩:=id h);revert y1 y2 y3 y4 y5 y6 y7 y8)
 |(exact Zt 12;(obtain ⟨y1,y2,y3,y4,y5,y6,y7⟩:=id h);revert y1 y2 y3 y4 y5 y6 y7)
 |(exact Zt 13;(obtain ⟨y1,y2,y3,y4,y5,y6⟩:=fD h.val.1);revert y1 y2 y3 y4 y5 y6)
 |(exact Zt 14;(obtain ⟨y1,y2,y3,y4,y5,y6⟩:=id hk);revert y1 y2 y3 y4 y5 y6)
 |(exact Zt 15;(obtain ⟨y1,y2,y3,y4⟩:=hseq.2 i oe);revert y1 y2 y3 y4)
 exact zq.h):Xo n Q P:=zh
theorem LK (zh:Xo n Q P:=by
 apply Zom;intro zq;rotate_left;simp
 first
 |(exact Zt 1;(obtain ⟨y1,y2,y3,y4⟩:=Ac (n:=n) hE hS1 hS2 hn2 hi1 hi2);revert y1 y2 y3 y4)
 |(exact Zt 2;(obtain ⟨y1,y2,y3⟩:=List.getElem_of_mem hin);revert y1 y2 y3)
 |(exact Zt 3;(obtain ⟨y1,y2,y3⟩:=G4 (f':=aS f x mk) (mk:=mk) (k:=(scJ f sec oth g).free) hE obp obp (by rw [hx];exact hsl) (by rw [hxs];exact J.sl) hfr rfl);revert y1 y2 y3)
 |(exact Zt 4;(obtain ⟨y1,y2⟩:∃ k,bC f=k+1:=⟨bC f-1,by omega⟩);revert y1 y2)
 |(exact Zt 5;(obtain ⟨y1,y2⟩:∃ u,vs[0]?=some u:=⟨_,List.getElem?_eq_getElem oe⟩);revert y1 y2)
 |(exact Zt 6;(obtain ⟨y1,y2⟩:∃ x,x=A:=⟨_,rfl⟩);revert y1 y2)
 |(exact Zt 7;(obtain ⟨y1,y2⟩:∃ x,x=c:=⟨_,rfl⟩);revert y1 y2)
 |(exact Zt 8;(obtain ⟨y1,y2⟩:=Classical.axiomOfChoice each);revert y1 y2)
 |(exact Zt 9;(obtain ⟨y1,⟨y2,y3,y4⟩,y5,y6⟩:=dO hE);revert y6;revert y5;revert y4;revert y3;revert y2;revert y1)
 |(exact Zt 10;(obtain ⟨y1,⟨y2,y3,y4⟩,y5,y6⟩:=dO hc17);revert y6;revert y5;revert y4;revert y3;revert y2;revert y1)
 |(exact Zt 11;(rintro _ _ _ ⟨y1,y2,y3,y4,rfl,rfl,rfl,y5⟩);revert y1 y2 y3 y4 y5)
 |(exact Zt 12;(rintro ⟨y1,y2,y3,y4⟩ ⟨y5,y6,y7⟩);revert y7;revert y6;revert y5;revert y4;revert y3;revert y2;revert y1)
 |(exact Zt 13;(rintro ⟨y1,y2,y3⟩ ⟨y4,y5,y6,y7⟩);revert y7;revert y6;revert y5;revert y4;revert y3;revert y2;revert y1)
 |(exact Zt 14;(rintro ⟨y1,y2,y3⟩ ⟨y4,y5,y6⟩);revert y6;revert y5;revert y4;revert y3;revert y2;revert y1)
 |(exact Zt 15;(rintro ⟨y1,y2⟩ ⟨y3,y4,y5⟩);revert y5;revert y4;revert y3;revert y2;revert y1)
 exact zq.h):Xo n Q P:=zh
theorem LJ (zh:Xo n Q P:=by
 apply Zom;intro zq;rotate_left;simp
 first
 |(exact Zt 1;(rintro ⟨⟨⟨⟨⟨y1,y2⟩,y3⟩,y4⟩,y5⟩,y6⟩);revert y6;revert y5;revert y4;revert y3;revert y2;revert y1)
 exact zq.h):Xo n Q P:=zh
theorem LI (zh:Xo n Q P:=by
 apply Zom;intro zq;rotate_left;simp
 first
 |(exact Zt 6;refine C.le (Γ':=[(1,ag A1 0),(2,ag A2 0),(3,.int .i64 (x.S:Int)),(4,.int .i64 (x.n:Int)),(5,.slice IA x.img.length ic),(6,ag A6 0),(8,ag A8 0),(11,ag A11 0),(12,ag A12 0)]) (R':=[Rd A11 [.int .i64 x.lay.n,.int .i64 x.lay.a,.int .i64 x.lay.b,.int .i64 x.lay.s0,.int .i64 x.lay.s1,.slice GA x.lay.gs.length gc,.slice UA x.lay.us.length uc,.slice VA x.lay.ls.length vc],Rd GA (I64 x.lay.gs),Rd UA (I64 x.lay.us),Rd VA (I64 x.lay.ls),Rd A8 [.int .i64 (x.st.length:Int),.int .i64 (x.u:Int),.int .i64 x.nd.r,.int .i64 x.nd.e,.int .i64 x.nd.o],Rd A6 [.int .i64 (x.S:Int),.int .i64 (x.n:Int),.bool false,.int .i64 (x.m:Int),.int .i64 (x.m:Int),.slice PO x.ops.length c1,.slice PQ x.seq.length c2,.slice PH x.st.length c3],Rd PO (cv x.ops),Rd PQ (I64 x.seq),Rd PH (I64 x.st),Rd IA (U8 x.img),Rd A1 [.slice LA x.l.length lc,.int .u8 (x.w0.toNat:Int),.int .u8 (x.w1.toNat:Int),.int .u8 (x.w2.toNat:Int),.int .u8 (x.w3.toNat:Int),.slice XO x.old.length xoc],Rd LA (m5 x.l),Rd XO (U8 x.old)]) (H':=[Own 51 32 A2 1 1 [.int .i64 0,.slice none 0 0,.slice none 0 0,.int .i64 0,.slice none 0 0,.int .i64 0,.int .i64 0,.int .i64 0,.int .i64 0,.int .i64 0,.slice none 0 0,.slice none 0 0,.slice none 0 0,.int .i64 0,.int .i64 0,.int .i64 0,.int .i64 0,.bool false,.int .i64 0,.int .i64 0,.slice none 0 0,.slice none 0 0,.slice none 0 0,.slice none 0 0,.bool false,.slice none 0 0,.slice none 0 0,.int .i64 0,.int .i64 0,.int .i64 0,.int .i64 0,.int .i64 0],Own 24 1 b.D x.fl0.data.length b.cD (aB b.hs (B8 x.fl0.data)),aw 5 b.hs (B8 x.fl0.data),Own 3 1 b.W x.fl0.wear.length b.cW (I64 x.fl0.wear),Own 4 1 b.E x.fl0.dead.length b.cE (Bs x.fl0.dead),Own 34 5 A12 1 1 [.int .i64 (x.fl0.size:Int),.slice b.D x.fl0.data.length b.cD,.slice b.W x.fl0.wear.length b.cW,.int .i64 x.fl0.limit,.slice b.E x.fl0.dead.length b.cE]]) (by exact lk [0,1,2,3,4,5,6,7,8,9,10,11,12] [0,1,2,3,4,5] (hh:=⟨rfl,(congrArg some (ay x.dat_len.symm hrows)),(congrArg some (by rw [hdat];rfl)),(congrArg some (ay List.length_replicate.symm rfl)),(congrArg some (ay List.length_replicate.symm rfl)),(congrArg some (ay rfl hcel)),trivial⟩)) ?_)
 |(exact Zt 7;refine C.more (r:=Rd (bF (bF RB rc 1 1) (rc-1) 2 1) (U8 ((rec.drop 1).drop 2))) (bw (Has.r 0 rfl) (rc-1) 2 ot) ?_)
 |(exact Zt 8;refine aG (flR f a++[Rd G (I64 y.gs),Rd U (I64 y.us),Rd V (I64 y.ls),Rd OA (cv k.pl.ops),Rd QA (I64 k.pl.seq),Rd HA (I64 k.pl.st),Rd M (mcA f a y G U V gc uc vc (.int .i64 p0::.int .i64 p1::.int .i64 p2::.int .i64 p3::.int .i64 p4::.int .i64 p5::.int .i64 p6::.int .i64 p7::.int .i64 p8::mcK k OA QA HA oc qc hc (rv::.int .i64 0::.int .i64 0::.int .i64 0::.slice none 0 0::.bool false::[]))),Rd A2 [.int .i64 p0,.int .i64 p1,.int .i64 p2,.int .i64 p3,.int .i64 p4,.int .i64 p5,.int .i64 p6,.int .i64 p7,.int .i64 p8]]) ⟨Has.r 0 rfl,Has.r 1 rfl,Has.r 2 rfl,Has.r 3 rfl,Has.r 4 rfl,Has.r 5 rfl,Has.r 6 rfl,Has.r 7 rfl,Has.r 8 rfl,Has.r 9 rfl,Has.o 0 rfl,Has.o 1 rfl,trivial⟩ ?_)
 |(exact Zt 9;refine aG [_,_,_,_,_,_,_,_,_,_,_,_,_,_,_,_] ⟨Has.r 0 rfl,Has.r 1 rfl,Has.r 2 rfl,Has.r 3 rfl,Has.r 4 rfl,Has.r 5 rfl,Has.r 6 rfl,Has.r 7 rfl,Has.r 8 rfl,Has.r 9 rfl,Has.r 10 rfl,Has.r 11 rfl,Has.r 12 rfl,Has.r 13 rfl,Has.r 14 rfl,Has.o 0 rfl,trivial⟩ ?_)
 |(exact Zt 10;refine aG [_,_] ⟨Has.o 0 rfl,Has.o 2 rfl,trivial⟩ ?_)
 |(exact Zt 11;refine uY (X:=X) (fn:=Tryz.f232) Tryz.func232 rfl oa rfl ?_)
 |(exact Zt 12;refine L.append (j:=0) rfl rfl rfl rfl ob rfl rfl rfl rfl ((Src.kid 3 rfl oH ((us.getD k 0).toNat) OG).cast (bB _)) qP (b4 _) oe oM rfl ?_)
 |(exact Zt 13;refine L.append (j:=0) rfl rfl rfl rfl ob rfl rfl rfl rfl (Src.o 1 rfl) rfl (eZ rfl) oe oM rfl ?_)
 |(exact Zt 14;refine L.append (j:=0) rfl rfl rfl rfl ob rfl rfl rfl rfl (Src.o 1 rfl) rfl (by exact kJ [(k,k+1)]) oe (by show _*16≤_;omega) rfl ?_)
 |(exact Zt 15;refine L.append (j:=0) rfl rfl rfl rfl ob rfl rfl rfl rfl (Src.o 1 rfl) rfl (Di _ _) oe Qa rfl ?_)
 exact zq.h):Xo n Q P:=zh
theorem LH (zh:Xo n Q P:=by
 apply Zom;intro zq;rotate_left;simp
 first
 |(exact Zt 1;refine L.append (j:=0) rfl rfl rfl rfl ob rfl rfl rfl rfl (Src.o 2 rfl) rfl (eZ rfl) oe oV rfl ?_)
 |(exact Zt 2;refine L.append (j:=0) rfl rfl rfl rfl ob rfl rfl rfl rfl (Src.r 0 rfl) QD hx oe oM rfl ?_)
 |(exact Zt 3;refine L.append (j:=3) rfl rfl rfl rfl ob rfl rfl rfl rfl (Src.r 3 rfl) oZ (dk _) oe oV rfl ?_)
 exact zq.h):Xo n Q P:=zh
theorem LG (zh:Xo n Q P:=by
 apply Zom;intro zq;rotate_left;simp
 first
 |(exact Zt 1;refine CI (cs:=[.int .i64 (k:Int),.int .i64 ((k:Int)+1)]) rfl rfl rfl rfl (Nat.zero_lt_succ _) rfl rfl rfl ?_)
 |(exact Zt 2;refine pC (cs:=Sy.cells (pS (ops.getD i Po.zero) j)) rfl rfl rfl rfl (Nat.zero_lt_succ _) rfl rfl rfl ?_)
 |(exact Zt 3;refine L.more (r:=Rd (bF (bF S c 2 1) (c-2) 2 1) (U8 (((l.drop 2).drop 2).take (be2 (l.drop 2))))) ((Has.take (Has.r 0 rfl) (be2 (l.drop 2))).cast (cj _ _)) ?_)
 |(exact Zt 4;refine L.more (r:=Rd (bF (bF S c 2 1) (c-2) 2 1) (U8 ((l.drop 2).drop 2))) (bw (bw (Has.r 1 rfl) c 2 hc) (c-2) 2 ot) ?_)
 |(exact Zt 5;refine L.more (r:=Rd (bF RB rc 1 1) (U8 (rec.drop 1))) (bw (Has.r 0 rfl) rc 1 hrc) ?_)
 |(exact Zt 6;refine L.store (j:=0) rfl rfl rfl rfl rfl rfl rfl (by exact m0 (by rw [eg];omega)) ?_)
 |(exact Zt 11;refine LM.q 3 rfl oa (bx (l:=p) rfl rfl rfl rfl rfl rfl oe) rfl trivial ?_)
 |(exact Zt 12;refine LM.q 4 rfl oa (bx (l:=k+1) rfl rfl rfl rfl rfl oe oe) rfl trivial ?_)
 |(exact Zt 14;refine LQ.nil ?_)
 exact zq.h):Xo n Q P:=zh
theorem LF (zh:Xo n Q P:=by
 apply Zom;intro zq;rotate_left;simp
 first
 |(exact Zt 4;refine QE.more (r:=KidsR (a.hs.set x.sec.toNat (A24,f.size)) ((B8 f.data).set x.sec.toNat (U8 (nH (ry f x mk) (f.data.getD x.sec.toNat []) k)))) (uV 7 0 x.sec.toNat f.size rfl rfl) ?_)
 |(exact Zt 5;refine QE.more (r:=Rd (bF (bF (bF S c 2 1) (c-2) 2 1) (c-2-2) (be2 (l.drop 2)) 1) (U8 (((l.drop 2).drop 2).drop (be2 (l.drop 2))))) (bw (Has.r 1 rfl) (c-2-2) (be2 (l.drop 2)) QI) ?_)
 |(exact Zt 6;refine CE (js:=[]) (hs:=[0,1]) (vs:=[_]) rD rfl rt ob ?_)
 |(exact Zt 7;refine uT (js:=[]) (hs:=[0,1]) ob ⟨rfl,?_⟩)
 |(exact Zt 8;refine uS (js:=[]) (hs:=[0,1]) (vs:=[_]) rD rfl rt ob ?_)
 |(exact Zt 9;refine uS (js:=[]) (hs:=[1,2]) (vs:=[_]) rD rfl rt ob ?_)
 |(exact Zt 10;refine fJ (js:=[]) (hs:=[0,1]) (vs:=[]) rfl trivial ob ?_)
 |(exact Zt 11;refine IU (j:=0) (js:=[]) (hs:=[2]) (vs:=[_]) rfl rfl rt ob ?_)
 |(exact Zt 12;refine CD (js:=[0]) (hs:=[]) (vs:=[_,_,_]) (nC A8 A9 A10 0) rfl ⟨⟨_,_,0,_,rfl,rfl,Src.o 2 rfl,.inl ⟨rfl,by decide,_,rfl,rfl,rfl⟩⟩,⟨_,_,0,_,rfl,rfl,Src.o 3 rfl,.inr ⟨rfl,rfl⟩⟩,⟨_,_,0,_,rfl,rfl,Src.o 4 rfl,.inr ⟨rfl,rfl⟩⟩,trivial⟩ ob ?_)
 |(exact Zt 13;refine FC (js:=[0]) (hs:=[]) (vs:=[_,_,_]) rfl ⟨⟨_,_,0,_,rfl,rfl,Src.o 0 rfl,.inl ⟨rfl,by decide,_,rfl,rfl,rfl⟩⟩,⟨_,_,0,_,rfl,rfl,Src.o 1 rfl,.inr ⟨rfl,rfl⟩⟩,⟨_,_,0,_,rfl,rfl,Src.o 2 rfl,.inr ⟨rfl,rfl⟩⟩,trivial⟩ ob ?_)
 exact zq.h):Xo n Q P:=zh
theorem LD (zh:Xo n Q P:=by
 apply Zom;intro zq;rotate_left;simp
 first
 |(exact Zt 4;refine hK _ _ (k (some ⟨w.heap.size,0,none⟩) _ _ (hf.put oP _) ?_))
 |(exact Zt 5;refine an (xd IA x.img ic false (x.m:Int) (x.m:Int) x.ops PO c1 oe oe rfl x.chk (by rw [x.img_len])) ?_)
 |(exact Zt 6;refine an (pL sz n lf inn out ops seq st OA QA HA oc qc hc hops hql hhl) ?_)
 |(exact Zt 7;refine a8 (Bz x.fl0 b x.fl0_ok hb0 ⟨x.lay.n,x.lay.a,x.lay.b,x.lay.s0,x.lay.s1,GA,x.lay.gs.length,gc,UA,x.lay.us.length,uc,VA,x.lay.ls.length,vc⟩ hcap Raw.s0 rfl) ?_)
 |(exact Zt 8;refine a8 (D4 false inn out ops OA oc hops (S:Int)) ?_)
 |(exact Zt 9;refine a8 (tM g b gok hgb x.lay c.G c.U c.V c.gc c.uc c.vc oJ (eY x) hgc x.pkg (.slice none 0 0) h c.O c.Q c.H c.oc c.qc c.hc (gY x) hcv ((bs.getD i Brk.zero).a.toNat%30) oe) ?_)
 |(exact Zt 10;refine a8 (kf f a hok hh (aL f y.a y.b).oth (al f.size 0 (ak s)) QO f.size f.size hw0 oe) ?_)
 |(exact Zt 11;refine mq 0 rfl (ab rfl rfl rfl (Src.r 1 rfl) rfl rfl ob) ?_)
 |(exact Zt 12;refine mq 0 rfl (ab rfl rfl rfl (Src.r 6 rfl) rfl rfl ob) ?_)
 |(exact Zt 13;refine mq 3 rfl (ab (vs:=(flL f a)) rfl rfl rfl (Src.r 10 rfl) rfl rfl ob) ?_)
 |(exact Zt 14;refine mq 3 rfl (ab (vs:=[.int .i64 (rxo (aU f y k h).x (aU f y k h).done).kind,.int .i64 (rxo (aU f y k h).x (aU f y k h).done).sec,.int .i64 (rxo (aU f y k h).x (aU f y k h).done).at_,.slice GO (rxo (aU f y k h).x (aU f y k h).done).data.length goc]) rfl rfl rfl (Src.r 15 rfl) rfl rfl ob) ?_)
 |(exact Zt 15;refine mq 3 rfl (ab (vs:=[.int .i64 p0,.int .i64 p1,.int .i64 p2,.int .i64 p3,.int .i64 p4,.int .i64 p5,.int .i64 p6,.int .i64 p7,.int .i64 p8]) rfl rfl rfl (Src.r 10 rfl) rfl rfl ob) ?_)
 exact zq.h):Xo n Q P:=zh
theorem LC (zh:Xo n Q P:=by
 apply Zom;intro zq;rotate_left;simp
 first
 |(exact Zt 1;refine mq 4 rfl (ab (vs:=(flL f a)) rfl rfl rfl (Src.r 10 rfl) rfl rfl ob) ?_)
 |(exact Zt 2;refine mq 7 rfl (ab (vs:=(hY y G U V gc uc vc)) rfl rfl rfl (Src.r 10 rfl) rfl rfl ob) ?_)
 |(exact Zt 3;refine qrt [0,1,2,3] [] [_] rfl ⟨⟨_,_,0,_,rfl,rfl,Src.o 0 rfl,.inl ⟨rfl,by decide,_,rfl,rfl,rfl⟩⟩,trivial⟩ ?_)
 |(exact Zt 4;refine qrt [1,2,3,4,10,11,12,15,16,17,18,0] [] [_] rfl ⟨⟨_,_,0,_,rfl,rfl,Src.o 0 rfl,.inl ⟨rfl,by decide,_,rfl,rfl,rfl⟩⟩,trivial⟩ ?_)
 |(exact Zt 5;refine qrt [1,2,3,4] [] [_,_] rfl ⟨⟨_,_,0,_,rfl,rfl,Src.o 1 rfl,.inl ⟨rfl,by decide,_,rfl,rfl,rfl⟩⟩,rfl,trivial⟩ ?_)
 |(exact Zt 6;refine qrt [2,3,4,5] [] [_,_,_] rfl ⟨⟨_,_,0,_,rfl,rfl,Src.o 1 rfl,.inl ⟨rfl,by decide,_,rfl,rfl,rfl⟩⟩,rfl,rfl,trivial⟩ ?_)
 |(exact Zt 7;refine qrt [4,0,3,2] [] [_,_] rfl ⟨⟨_,_,0,_,rfl,rfl,Src.o 1 rfl,.inl ⟨rfl,by decide,_,rfl,rfl,rfl⟩⟩,rfl,trivial⟩ ?_)
 |(exact Zt 8;refine qrt [] [] [_,_,_] rfl ⟨⟨_,_,0,_,rfl,rfl,Src.o 0 rfl,.inl ⟨rfl,by decide,_,rfl,rfl,rfl⟩⟩,rfl,rfl,trivial⟩ ?_)
 |(exact Zt 9;refine sp ((Ev.cast (u:=.int .u64 (0)) (Ev.shr rfl rfl ob) (congrArg (Value.int .u64) (Jl n hn)))) ?_)
 |(exact Zt 10;refine sp ((Ev.cast (u:=.int .u64 (n)) (Ev.pure rfl) (congrArg (Value.int .u64) (GR n hn)))) ?_)
 |(exact Zt 11;refine sp ((Ev.cast (u:=.int .u64 (n)) (Ev.pure rfl) (congrArg (Value.int .u64) (uZ n oe)))) ?_)
 |(exact Zt 12;refine sp (Ev.cast (u:=.agg (List.toArray (.int .i64 (x.fl.size:Int)::.slice b2.D x.fl.data.length b2.cD::.slice b2.W x.fl.wear.length b2.cW::.int .i64 x.fl.limit::.slice b2.E x.fl.dead.length b2.cE::.int .i64 x.lay.n::.int .i64 x.lay.a::.int .i64 x.lay.b::.int .i64 x.lay.s0::.int .i64 x.lay.s1::.slice GA x.lay.gs.length gc::.slice UA x.lay.us.length uc::.slice VA x.lay.ls.length vc::.int .i64 5::.int .i64 4::.int .i64 (x.S:Int)::.int .i64 (x.n:Int)::.bool false::.int .i64 (x.m:Int)::.int .i64 (x.m:Int)::.slice PO x.ops.length c1::.slice PQ x.seq.length c2::.slice PH x.st.length c3::.slice none 0 0::.bool true::.slice IA x.img.length ic::.slice NA x.new.length nc::.int .i64 (x.st.length:Int)::.int .i64 (x.u:Int)::.int .i64 x.nd.r::.int .i64 x.nd.e::.int .i64 x.nd.o::[]))) (Ev.build rfl rfl rfl rfl rfl rfl rfl) rfl) ?_)
 |(exact Zt 13;refine sp (Ev.cast (u:=.agg (List.toArray (.int .i64 5::.int .i64 4::.int .i64 (x.S:Int)::.int .i64 (x.n:Int)::.bool false::.int .i64 (x.m:Int)::.int .i64 (x.m:Int)::.slice PO x.ops.length c1::.slice PQ x.seq.length c2::.slice PH x.st.length c3::.slice none 0 0::.bool true::[]))) (Ev.build rfl rfl rfl rfl rfl rfl rfl) rfl) ?_)
 |(exact Zt 14;refine sp (Ev.cast (u:=.agg (List.toArray (.int .i64 5::.int .i64 4::.int .i64 (x.S:Int)::.int .i64 (x.n:Int)::.bool false::.int .i64 (x.m:Int)::.int .i64 (x.m:Int)::.slice PO x.ops.length c1::.slice PQ x.seq.length c2::.slice PH x.st.length c3::.slice none 0 0::[]))) (Ev.build rfl rfl rfl rfl rfl rfl rfl) rfl) ?_)
 |(exact Zt 15;refine sp (Ev.cast (u:=.int .i64 (((ndC (ndN (ndU (ndT old (a7 old (ah ops)) S seq) S) st.length seq.length) (ndW S)):Nat):Int)) (Ev.add rfl rfl oe oe) (congrArg (Value.int .i64) obv)) ?_)
 exact zq.h):Xo n Q P:=zh
theorem Lz (zh:Xo n Q P:=by
 apply Zom;intro zq;rotate_left;simp
 first
 |(exact Zt 1;refine sp (Ev.cast (u:=.int .i64 (((NX (ndU (ndT old (a7 old (ah ops)) S seq) S) st.length seq.length (ndC (ndN (ndU (ndT old (a7 old (ah ops)) S seq) S) st.length seq.length) (ndW S))):Nat):Int)) (Ev.add rfl rfl oe oe) (congrArg (Value.int .i64) (by unfold NX;omega))) ?_)
 |(exact Zt 2;refine sp (Ev.cast (u:=.int .i64 (((ndN (ndU (ndT old (a7 old (ah ops)) S seq) S) st.length seq.length):Nat):Int)) (Ev.add rfl rfl oe oe) (congrArg (Value.int .i64) obt)) ?_)
 |(exact Zt 3;refine sp (Ev.cast (u:=.int .i64 (((HV (ndU (ndT old (a7 old (ah ops)) S seq) S) st.length seq.length (ndN (ndU (ndT old (a7 old (ah ops)) S seq) S) st.length seq.length) (ndC (ndN (ndU (ndT old (a7 old (ah ops)) S seq) S) st.length seq.length) (ndW S))):Nat):Int)) (Ev.add rfl rfl oe oe) (congrArg (Value.int .i64) (by unfold HV;omega))) ?_)
 |(exact Zt 4;refine sp (Ev.cast (u:=.int .i64 (((ndQ (ndN (ndU (ndT old (a7 old (ah ops)) S seq) S) st.length seq.length) (ndW S)):Nat):Int)) (Ev.quo rfl rfl oe oe oe) (congrArg (Value.int .i64) oaI)) ?_)
 |(exact Zt 5;refine sp (Ev.cast (u:=.int .i64 (((ndW S):Nat):Int)) (Ev.cast (u:=.int .i64 (max 1 (((S-8)/30:Nat):Int))) (Ev.pure rfl) (congrArg (Value.int .i64) O0)) (congrArg (Value.int .i64) obu)) ?_)
 |(exact Zt 6;refine sp (Ev.cast (u:=.int .i64 ((8*(w-1-k):Nat):Int)) (Ev.mul rfl rfl oe oe) (congrArg (Value.int .i64) oe)) ?_)
 |(exact Zt 7;refine sp (Ev.cast (u:=.int .i64 ((k/S:Nat):Int)) (Ev.quo rfl rfl oe oe oe) (congrArg (Value.int .i64) (Int.natCast_ediv k S).symm)) ?_)
 |(exact Zt 8;refine sp (Ev.cast (u:=.int .i64 ((m:Nat):Int)) (Ev.sub rfl rfl oe oe) (congrArg (Value.int .i64) oe)) ?_)
 |(exact Zt 9;refine sp (Ev.cast (u:=.int .i64 (x.no:Int)) (ldR 0) (congrArg (Value.int .i64) x.nd_o)) ?_)
 |(exact Zt 10;refine sp (Ev.cast (u:=.int .u8 ((((l.getD i (0,0,0)).1.toNat%4):Nat):Int)) (Ev.rem rfl rfl oe ob) (congrArg (Value.int .u8) qF)) ?_)
 |(exact Zt 11;refine sp (Ev.fieldAddr rfl rfl rfl rfl rfl rfl (Src.o 0 rfl) (dz (k:=0) oe) rfl) ?_)
 |(exact Zt 12;refine sp (Ev.fieldAddr rfl rfl rfl rfl rfl rfl (Src.r 1 rfl) (nM (k:=i) oe) rfl) ?_)
 |(exact Zt 13;refine sp (cT (k:=(aA a b k).length-1) (m:=((aA a b k).length-1)*2) rfl rfl rfl rfl rfl oe oe (Src.o 0 rfl) (dz (k:=(aA a b k).length-1) oe) rfl) ?_)
 |(exact Zt 14;refine sp (ae (k:=(k/S)) rfl rfl rfl rfl rfl rfl rfl oe (Src.o 0 rfl) oaw) ?_)
 |(exact Zt 15;refine sp (ae (k:=(k/S)) rfl rfl rfl rfl rfl rfl rfl oe (Src.o 2 rfl) qu) ?_)
 exact zq.h):Xo n Q P:=zh
theorem Lx (zh:Xo n Q P:=by
 apply Zom;intro zq;rotate_left;simp
 first
 |(exact Zt 1;refine sp (ae (k:=(l.getD i Sy.zero).at_.toNat) rfl rfl rfl rfl rfl rfl oe oe (Src.r 0 rfl) oO) ?_)
 |(exact Zt 2;refine sp (ae (k:=(us.getD k 0).toNat) rfl rfl rfl rfl rfl rfl oe oe (Src.r 2 rfl) oy) ?_)
 |(exact Zt 3;refine sp (ae (k:=0) rfl rfl rfl rfl rfl rfl rfl oe (Src.r 0 rfl) oO) ?_)
 |(exact Zt 4;refine sp (ae (k:=i) rfl rfl rfl rfl rfl rfl rfl oe (Src.r 0 rfl) OV) ?_)
 |(exact Zt 5;refine sp (ae (k:=i) rfl rfl rfl rfl rfl rfl rfl oe (Src.r 0 rfl) oy) ?_)
 |(exact Zt 6;refine sp (ae (k:=i) rfl rfl rfl rfl rfl rfl rfl oe (Src.r 0 rfl) qz) ?_)
 |(exact Zt 7;refine sp (ae (k:=i) rfl rfl rfl rfl rfl rfl rfl oe (Src.r 4 rfl) ow) ?_)
 |(exact Zt 8;refine sp (ae (k:=k) rfl rfl rfl rfl rfl rfl rfl oe (Src.o 2 rfl) Q5) ?_)
 |(exact Zt 9;refine sp (ae (k:=k) rfl rfl rfl rfl rfl rfl rfl oe (Src.r 0 rfl) oO) ?_)
 |(exact Zt 10;refine sp (ae (k:=k) rfl rfl rfl rfl rfl rfl rfl oe (Src.r 6 rfl) ow) ?_)
 |(exact Zt 11;refine sp (ae (k:=u) rfl rfl rfl rfl rfl rfl rfl oe (Src.r 0 rfl) Qb) ?_)
 |(exact Zt 12;refine sp (ae (k:=x.sec.toNat) rfl rfl rfl rfl rfl rfl oe oe (Src.o 1 rfl) ow) ?_)
 |(exact Zt 13;refine sp (ae (k:=x.sec.toNat) rfl rfl rfl rfl rfl rfl oe oe (Src.r 2 rfl) oy) ?_)
 |(exact Zt 14;refine sp (aV (k:=0) (m:=i*3+0) rfl rfl rfl rfl rfl rfl ob (Src.r 0 rfl) (kb (k:=i) oe) rfl) ?_)
 |(exact Zt 15;refine sp (aV (k:=2) (m:=i*3+2) rfl rfl rfl rfl rfl rfl ob (Src.r 0 rfl) (kb (k:=i) oe) rfl) ?_)
 exact zq.h):Xo n Q P:=zh
theorem Lw (zh:Xo n Q P:=by
 apply Zom;intro zq;rotate_left;simp
 first
 |(exact Zt 1;refine sp (aV (k:=3) (m:=4) rfl rfl rfl rfl rfl rfl ob (Src.r 10 rfl) (Nat.zero_lt_of_lt (show 1<6 by decide)) rfl) ?_)
 |(exact Zt 2;refine sp (aV (k:=k) (m:=k) rfl rfl rfl rfl rfl rfl oe (Src.o 0 rfl) Ox oba) ?_)
 |(exact Zt 3;refine sp (Ev.load rfl rfl rfl ((Src.kid 1 rfl qg (u) qM).cast (dT _)) (aJ oe)) ?_)
 |(exact Zt 4;refine sp (Ev.load rfl rfl rfl (Src.r 0 rfl) ((jG (i:=i) (j:=0) oe ob).trans rfl)) ?_)
 |(exact Zt 5;refine sp (Ev.load rfl rfl rfl (Src.r 0 rfl) ((jG (i:=i) (j:=2) oe ob).trans rfl)) ?_)
 |(exact Zt 6;refine sp (Ev.load rfl rfl rfl (Src.r 0 rfl) (m0 (by rw [rdC,eg];omega))) ?_)
 |(exact Zt 7;refine sp (Ev.load rfl rfl rfl (Src.r 0 rfl) (bm hh oe)) ?_)
 |(exact Zt 8;refine sp (Ev.load rfl rfl rfl (Src.r 0 rfl) (cG hmhs oe)) ?_)
 |(exact Zt 9;refine sp (Ev.load rfl rfl rfl (Src.r 0 rfl) (cG oby obX)) ?_)
 |(exact Zt 10;refine sp (Ev.load rfl rfl rfl (Src.r 1 rfl) ((vP (i:=i) (j:=2) oe ob).trans rfl)) ?_)
 |(exact Zt 11;refine sp (Ev.load rfl rfl rfl (Src.r 1 rfl) ((ft (i:=i) (j:=1) oe ob).trans rfl)) ?_)
 |(exact Zt 12;refine sp (Ev.load rfl rfl rfl (Src.r 6 rfl) (bm hh oe)) ?_)
 |(exact Zt 13;refine sp (ab (vs:=(.int .i64 5::.int .i64 4::.int .i64 (x.S:Int)::.int .i64 (x.n:Int)::.bool false::.int .i64 (x.m:Int)::.int .i64 (x.m:Int)::.slice c.O x.ops.length c.oc::.slice c.Q x.seq.length c.qc::.slice c.H x.st.length c.hc::.slice none 0 0::.bool h::[])) rfl rfl rfl (Src.r 13 rfl) rfl rfl ob) ?_)
 |(exact Zt 14;refine sp (ab (vs:=(flL x.fl c.b)) rfl rfl rfl (Src.r 0 rfl) rfl rfl ob) ?_)
 |(exact Zt 15;refine sp (ab (vs:=(flL x.fl c.b)) rfl rfl rfl (Src.r 10 rfl) rfl rfl ob) ?_)
 exact zq.h):Xo n Q P:=zh
theorem Lv (zh:Xo n Q P:=by
 apply Zom;intro zq;rotate_left;simp
 first
 |(exact Zt 1;refine sp (ab (vs:=(hY x.lay c.G c.U c.V c.gc c.uc c.vc)) rfl rfl rfl (Src.r 0 rfl) rfl rfl ob) ?_)
 |(exact Zt 2;refine sp (ab (vs:=(hY x.lay c.G c.U c.V c.gc c.uc c.vc)) rfl rfl rfl (Src.r 13 rfl) rfl rfl ob) ?_)
 |(exact Zt 3;refine sp (ab (vs:=(hY x.lay c.G c.U c.V c.gc c.uc c.vc)) rfl rfl rfl (Src.r 5 rfl) rfl rfl ob) ?_)
 |(exact Zt 4;refine sp (ab (vs:=[.int .i64 p0,.int .i64 (p1+1),.int .i64 p2,.int .i64 p3,.int .i64 p4,.int .i64 p5,.int .i64 p6,.int .i64 p7,.int .i64 p8]) rfl rfl rfl (Src.r 0 rfl) rfl rfl ob) ?_)
 |(exact Zt 5;refine sp (ab (vs:=[.int .i64 p0,.int .i64 p1,.int .i64 p2,.int .i64 p3,.int .i64 p4,.int .i64 p5,.int .i64 (p6+1),.int .i64 p7,.int .i64 p8]) rfl rfl rfl (Src.r 0 rfl) rfl rfl ob) ?_)
 |(exact Zt 6;refine sp (ab (vs:=[_,_,_,_,_,_,_,_,_,_,_]) rfl rfl rfl (Src.r 0 rfl) rfl rfl ob) ?_)
 |(exact Zt 7;refine sp (ab (vs:=[_,_,_,_,_,_,_,_]) rfl rfl rfl (Src.r 14 rfl) rfl rfl ob) ?_)
 |(exact Zt 8;refine sp (ab (vs:=[_,_,_,_,_,_,_,_]) rfl rfl rfl (Src.r 4 rfl) rfl rfl ob) ?_)
 |(exact Zt 9;refine sp (ab (vs:=[_,_,_,_,_,_,_,_]) rfl rfl rfl (Src.r 9 rfl) rfl rfl ob) ?_)
 |(exact Zt 10;refine sp (ab (vs:=[_,_,_,_,_,_]) rfl rfl rfl (Src.r 0 rfl) rfl rfl ob) ?_)
 |(exact Zt 11;refine sp (ab (vs:=[_,_,_,_,_]) rfl rfl rfl (Src.r 13 rfl) rfl rfl ob) ?_)
 |(exact Zt 12;refine sp (ab (vs:=[_,_,_,_]) rfl rfl rfl (Src.r 13 rfl) rfl rfl ob) ?_)
 |(exact Zt 13;refine sp (FS (q:=(S-8)/30) rfl rfl rfl Jr oe oe) ?_)
 |(exact Zt 14;refine sp (br (h:=0) rfl rfl rfl rfl rfl rfl (Nat.le_refl _)) ?_)
 |(exact Zt 15;refine sp (br (h:=0) rfl rfl rfl rfl rfl rfl (Nat.zero_le _)) ?_)
 exact zq.h):Xo n Q P:=zh
theorem Lu (zh:Xo n Q P:=by
 apply Zom;intro zq;rotate_left;simp
 first
 |(exact Zt 1;refine sq (Ev.fieldAddr rfl rfl rfl rfl rfl rfl (Src.r 0 rfl) (dz (k:=k) oe) rfl) ?_)
 |(exact Zt 2;refine sq (Ev.fieldAddr rfl rfl rfl rfl rfl rfl (Src.r 1 rfl) (dW (k:=(u*S+j)) oe) rfl) ?_)
 |(exact Zt 3;refine sq (cT (k:=(u*S+j)) (m:=(u*S+j)*3) rfl rfl rfl rfl rfl rfl oe (Src.r 1 rfl) (dW (k:=(u*S+j)) oe) rfl) ?_)
 |(exact Zt 4;refine sq (cT (k:=i) (m:=i*5) rfl rfl rfl rfl rfl rfl oe (Src.r 1 rfl) (nM (k:=i) oe) rfl) ?_)
 |(exact Zt 5;refine sq (cT (k:=k) (m:=k*2) rfl rfl rfl rfl rfl oe oe (Src.r 0 rfl) (dz (k:=k) oe) rfl) ?_)
 |(exact Zt 6;refine sq (ae (k:=i) rfl rfl rfl rfl rfl rfl rfl oe (Src.r 2 rfl) Qi) ?_)
 |(exact Zt 7;refine sq (ae (k:=i) rfl rfl rfl rfl rfl rfl rfl oe (Src.r 4 rfl) ow) ?_)
 |(exact Zt 8;refine sq (ae (k:=k) rfl rfl rfl rfl rfl rfl rfl oe (Src.r 0 rfl) ow) ?_)
 |(exact Zt 9;refine sq (ae (k:=k) rfl rfl rfl rfl rfl rfl rfl oe (Src.r 9 rfl) oO) ?_)
 |(exact Zt 10;refine sq (Ev.load rfl rfl rfl (Src.r 1 rfl) (bm hh oe)) ?_)
 |(exact Zt 11;rw [List.getElem?_append_left (List.getElem?_eq_some_iff.1 hq).1])
 |(exact Zt 12;rw [List.length_append,List.length_append,List.length_replicate])
 |(exact Zt 13;rw [fV (mk':=fun _=>255) (fun i _=>hmk i),bz hE])
 |(exact Zt 14;rw [HP (show (aL f y.a y.b)=aY f y.a y.b from c7 hyes) (show (aL f y.a y.b).found=true by rw [c7 hyes];exact hyes) hright hc30])
 |(exact Zt 15;rw [AK (show (aL f y.a y.b)=aY f y.a y.b from c7 hyes) (show (aL f y.a y.b).found=true by rw [c7 hyes];exact hyes) hright hne hlt])
 exact zq.h):Xo n Q P:=zh
theorem Lt (zh:Xo n Q P:=by
 apply Zom;intro zq;rotate_left;simp
 first
 |(exact Zt 1;rw [AJ (show (aL f y.a y.b)=aY f y.a y.b from c7 hyes) (show (aL f y.a y.b).found=true by rw [c7 hyes];exact hyes) hright hne hlt hrd])
 |(exact Zt 2;rw [NT (s:=[p0,p1,p2,p3,p4,p5,p6,p7,p8]) (by show ¬_;exact Int.not_le.2 hsg)])
 |(exact Zt 3;rw [xH,hrs,Sem.run_bind,Array.mapM_eq_mapM_toList,Sem.run_map])
 |(exact Zt 4;rw [show (dP f y [p0,p1,p2,p3,p4,p5,p6,p7,p8])=(aO f y.a y.b [0,0,0,0,0,1-p5,p6,p8,p8]) from Eq.trans (KQ (s:=[p0,p1,p2,p3,p4,p5,p6,p7,p8]) hc14) (b7 ..)])
 |(exact Zt 5;rw [show (dP f y [p0,p1,p2,p3,p4,p5,p6,p7,p8])=(aO f y.a y.b [p0,p1,0,(bG (aR f y.us) (f.size:Int) p3).at_,p4,p5,p6,p7,p8]) from Eq.trans (Cp (s:=[p0,p1,p2,p3,p4,p5,p6,p7,p8]) hc14 hc29 h47 hc56 hc60) (gr hge hc63)])
 |(exact Zt 6;rw [show (dP f y [p0,p1,p2,p3,p4,p5,p6,p7,p8])=(sgF f y [p0,p1,p2,p3,p4,p5,p6,p7,p8] (vx (av f ((((bG (aR f y.us) (f.size:Int) p3).b.getD 0 0).toNat:Nat):Int)) (bG (aR f y.us) (f.size:Int) p3).b)) from KL (s:=[p0,p1,p2,p3,p4,p5,p6,p7,p8]) hc14 hc29 h47 hc56 hc60 h84])
 |(exact Zt 7;rw [show (aU f y k h)=nxE _ from (Bj f y k h).bad_eq hge])
 |(exact Zt 8;rw [show (ff f y [p0,p1,p2,p3,p4,p5,p6,p7,p8] k.pl)=(aO f y.a y.b [2,0,p2,p3,p4,p5,p6,p7,p8]) from Eq.trans (JS (s:=[p0,p1,p2,p3,p4,p5,p6,p7,p8]) h37 hc46 hc56) (b7 ..)])
 |(exact Zt 9;rw [show (ff f y [p0,p1,p2,p3,p4,p5,p6,p7,p8] k.pl)=(aO f y.a y.b [p0,(p1+1),p2,p3,p4,p5,p6,p7,p8]) from Eq.trans (Al (s:=[p0,p1,p2,p3,p4,p5,p6,p7,p8]) h37 hc46 hc56) (gr hge hc87)])
 |(exact Zt 10;rw [show (sgF f y [p0,p1,p2,p3,p4,p5,p6,p7,p8] c)=(aO f y.a y.b [p0,p1,(p2+1),p3,p4,p5,p6,p7,p8]) from Eq.trans (xB (s:=[p0,p1,p2,p3,p4,p5,p6,p7,p8]) (Int.not_le.2 hsg) q8) (gr hge hc53)])
 |(exact Zt 11;rw [show (sgF f y [p0,p1,p2,p3,p4,p5,p6,p7,p8] c)=(aO f y.a y.b [p0,p1,p2,p3,p4,p5,(p6+1),p7,p8]) from Eq.trans (JB (s:=[p0,p1,p2,p3,p4,p5,p6,p7,p8]) (Int.not_le.2 hsg) (.inl hg26) hc41) (b7 ..)])
 |(exact Zt 12;rw [show (sgF f y [p0,p1,p2,p3,p4,p5,p6,p7,p8] c)=(aO f y.a y.b [p0,p1,p2,p3,p4,p5,(p6+1),p7,p8]) from Eq.trans (JB (s:=[p0,p1,p2,p3,p4,p5,p6,p7,p8]) (Int.not_le.2 hsg) (.inr hg30) hc41) (b7 ..)])
 |(exact Zt 13;rw [show (sgF f y [p0,p1,p2,p3,p4,p5,p6,p7,p8] c)=(nxE 220) from NJ (s:=[p0,p1,p2,p3,p4,p5,p6,p7,p8]) hsg])
 |(exact Zt 14;rw [show (sgF f y [p0,p1,p2,p3,p4,p5,p6,p7,p8] c)=(aM f (y.gs.getD p6.toNat 0) c) from Eq.trans (xB (s:=[p0,p1,p2,p3,p4,p5,p6,p7,p8]) (Int.not_le.2 hsg) (fun q=>hc41 q.2)) (cA (.inl hge))])
 |(exact Zt 15;rw [show (sgF f y [p0,p1,p2,p3,p4,p5,p6,p7,p8] c)=(aM f (y.gs.getD p6.toNat 0) c) from Eq.trans (xB (s:=[p0,p1,p2,p3,p4,p5,p6,p7,p8]) (Int.not_le.2 hsg) (fun q=>hc41 q.2)) (cA (.inr hc53))])
 exact zq.h):Xo n Q P:=zh
theorem Ls (zh:Xo n Q P:=by
 apply Zom;intro zq;rotate_left;simp
 first
 |(exact Zt 1;rw [show (gN f y [p0,p1,p2,p3,p4,p5,p6,p7,p8] k.pl)=(aO f y.a y.b [3,0,p2,p3,p4,p5,p6,p7,p8]) from Eq.trans (Jv (s:=[p0,p1,p2,p3,p4,p5,p6,p7,p8]) hc18) (b7 ..)])
 |(exact Zt 2;rw [show (gN f y [p0,p1,p2,p3,p4,p5,p6,p7,p8] k.pl)=(aO f y.a y.b [p0,(p1+1),p2,p3,p4,p5,p6,p7,p8]) from Eq.trans (yY (s:=[p0,p1,p2,p3,p4,p5,p6,p7,p8]) hc18) (gr hge hc54)])
 |(exact Zt 3;rw [show (dD f y [p0,p1,p2,p3,p4,p5,p6,p7,p8] k.pl)=(aO f y.a y.b [4,0,p2,p3,p4,p5,p6,p7,p8]) from Eq.trans (Ji (s:=[p0,p1,p2,p3,p4,p5,p6,p7,p8]) hc22) (b7 ..)])
 |(exact Zt 4;rw [show (dD f y [p0,p1,p2,p3,p4,p5,p6,p7,p8] k.pl)=(aO f y.a y.b [p0,(p1+1),0,p3,p4,p5,p6,p7,p8]) from Eq.trans (yw (s:=[p0,p1,p2,p3,p4,p5,p6,p7,p8]) hc22 hc30 hc39) (gr hge hc42)])
 |(exact Zt 5;rw [show (dD f y [p0,p1,p2,p3,p4,p5,p6,p7,p8] k.pl)=(aO f y.a y.b [p0,p1,1,(p3+((iQ (k.pl.seq.getD p1.toNat 0) (av f (k.pl.seq.getD p1.toNat 0)) (k.pl.cntV f y p1)).length:Int)),p4,p5,p6,p7,p8]) from Eq.trans (yv (s:=[p0,p1,p2,p3,p4,p5,p6,p7,p8]) hc22 hc30 hc39 h71 hc74) (gr hge hc110)])
 |(exact Zt 6;rw [show (dD f y [p0,p1,p2,p3,p4,p5,p6,p7,p8] k.pl)=(sgF f y [p0,p1,p2,p3,p4,p5,p6,p7,p8] (k.pl.cntV f y p1)) from Jf (s:=[p0,p1,p2,p3,p4,p5,p6,p7,p8]) hc22 hc30 hc39 h71 hc74])
 |(exact Zt 7;rw [show List.replicate f.size (255:UInt8)=(al f.size 0 []) from (E0 oe).symm])
 |(exact Zt 8;rw [show syS (x.m:Int) (x.m:Int) x.ops=ah x.ops from by unfold syS;rw [if_pos x.chk]])
 |(exact Zt 9;rw [aC p.seq 0 k hk,List.mem_append,List.mem_singleton])
 |(exact Zt 10;show (if (6:Int)=0∨(6:Int)=4∨(6:Int)=5 then nxD else if (6:Int)=6 then _ else _)=_)
 |(exact Zt 11;simp only [List.getElem?_take,List.getElem?_append,List.length_take,List.length_append,List.getElem?_drop,hcl])
 |(exact Zt 12;simp only [execOp,ho,Instr.buildSlice,Sem.run_bind,run_underlying e1,Result.andThen_ok,hS])
 |(exact Zt 13;simp only [execOp,ho,hρ _ _ hx,hρ _ _ hy,Sem.run_bind,hg,Result.andThen_ok,binOp_shr,Op.shift,if_neg hb,Sem.run_pure,IntKind.bits])
 |(exact Zt 14;apply Y 0x8be95e)
 |(exact Zt 15;apply Y 0x712f940f)
 exact zq.h):Xo n Q P:=zh
theorem Lr (zh:Xo n Q P:=by
 apply Zom;intro zq;rotate_left;simp
 first
 |(exact Zt 2;apply Y 0x8b2fe0e)
 |(exact Zt 3;apply Y 0x382b2f)
 |(exact Zt 4;apply Y 0x11e3b2f)
 |(exact Zt 8;refine L.store (j:=1) rfl rfl rfl rfl rfl rfl rfl ov ?_)
 |(exact Zt 9;refine LA.alt [7] oa ob ⟨⟨_,rfl,?_⟩,trivial⟩)
 |(exact Zt 10;refine LM.cut [] oa hcx ?_)
 |(exact Zt 11;refine LM.nil oa trivial ?_)
 |(exact Zt 12;refine RC ?_)
 |(exact Zt 13;refine Mi ?_)
 |(exact Zt 15;refine sp (Ev.nilCheck rfl (Src.o 1 rfl) oA) ?_)
 exact zq.h):Xo n Q P:=zh
theorem PM (zh:Xo n Q P:=by
 apply Zod;simp
 first
 |(exact Zt 0;exact Mh)
 |(exact Zt 1;exact Mg)
 |(exact Zt 2;exact Mf)
 |(exact Zt 3;exact Me)
 |(exact Zt 4;exact Md)
 |(exact Zt 5;exact Mc)
 |(exact Zt 6;exact Mb)
 |(exact Zt 7;exact Ma)
 |(exact Zt 8;exact L9)
 |(exact Zt 9;exact L8)
 |(exact Zt 10;exact L7)
 |(exact Zt 11;exact L6)
 |(exact Zt 12;exact L5)
 |(exact Zt 13;exact L4)
 |(exact Zt 14;exact L3)
 |(exact Zt 15;exact L2)):Xo n Q P:=zh
theorem PL (zh:Xo n Q P:=by
 apply Zod;simp
 first
 |(exact Zt 0;exact L1)
 |(exact Zt 1;exact L0)
 |(exact Zt 2;exact LZ)
 |(exact Zt 3;exact LX)
 |(exact Zt 4;exact LW)
 |(exact Zt 5;exact LV)
 |(exact Zt 6;exact LU)
 |(exact Zt 7;exact LS)
 |(exact Zt 8;exact LR)
 |(exact Zt 9;exact LO)
 |(exact Zt 10;exact LN)
 |(exact Zt 11;exact LL)
 |(exact Zt 12;exact LK)
 |(exact Zt 13;exact LJ)
 |(exact Zt 14;exact LI)
 |(exact Zt 15;exact LH)):Xo n Q P:=zh
theorem PK (zh:Xo n Q P:=by
 apply Zod;simp
 first
 |(exact Zt 0;exact LG)
 |(exact Zt 1;exact LF)
 |(exact Zt 2;exact LD)
 |(exact Zt 3;exact LC)
 |(exact Zt 4;exact Lz)
 |(exact Zt 5;exact Lx)
 |(exact Zt 6;exact Lw)
 |(exact Zt 7;exact Lv)
 |(exact Zt 8;exact Lu)
 |(exact Zt 9;exact Lt)
 |(exact Zt 10;exact Ls)
 |(exact Zt 11;exact Lr)):Xo n Q P:=zh
theorem SD (zh:Xo n Q P:=by
 apply Zod;simp
 first
 |(exact Zt 0;exact PM)
 |(exact Zt 1;exact PL)
 |(exact Zt 2;exact PK)):Xo n Q P:=zh
theorem CC (zh:Xo n Q P:=by
 apply Zod;simp
 first
 |(exact Zt 15;exact SD)):Xo n Q P:=zh
theorem SJ (zh:Xo n (Q∧R) P:=by
 apply Zop;intro zq zr;rotate_left;simp
 first
 |(exact Zt 7;apply Zu 0x1c1)
 exact zq.h
 exact zr.h):Xo n (Q∧R) P:=zh
theorem SI (zh:Xo n (Q∧R) P:=by
 apply Zop;intro zq zr;rotate_left;simp
 first
 |(exact Zt 14;refine lY _ rfl ?_ ?_)
 exact zq.h
 exact zr.h):Xo n (Q∧R) P:=zh
theorem SH (zh:Xo n (Q∧R) P:=by
 apply Zop;intro zq zr;rotate_left;simp
 first
 |(exact Zt 1;refine lY _ rfl (imp of_decide_eq_true ?_) (imp of_decide_eq_false ?_))
 exact zq.h
 exact zr.h):Xo n (Q∧R) P:=zh
theorem SG (zh:Xo n (Q∧R) P:=by
 apply Zop;intro zq zr;rotate_left;simp
 first
 |(exact Zt 5;refine lY _ rfl (imp tf ?_) (imp tg ?_))
 |(exact Zt 14;refine bj (js:=[0]) (js':=[1,2,3]) (yK D A (l.drop (2*rW (k))) c (wds.getD k 0) hcc ot hw.2) rfl rfl rfl ob hcx rfl ?_ ?_)
 exact zq.h
 exact zr.h):Xo n (Q∧R) P:=zh
theorem Zhb (zh:Xo n (Q∧R) P:=by
 apply Zod;simp
 first
 |(exact Zt 8;exact SJ)
 |(exact Zt 9;exact SI)
 |(exact Zt 12;exact SH)
 |(exact Zt 13;exact SG)):Xo n (Q∧R) P:=zh
theorem P6 (zh:Xo n (Q∧R) P:=by
 apply Zop;intro zq zr;rotate_left;simp
 first
 |(exact Zt 4;refine lY _ rfl (imp ey ?_) (imp ew ?_))
 exact zq.h
 exact zr.h):Xo n (Q∧R) P:=zh
theorem P5 (zh:Xo n (Q∧R) P:=by
 apply Zop;intro zq zr;rotate_left;simp
 first
 |(exact Zt 3;refine bf (js:=[0]) (js':=[]) (eP T 3 A [.int .i64 last,.int .i64 size] (bF S c 2 1) (l.drop 2) (c-2) ot) rfl rfl rfl ob hcx rfl ?_ ?_)
 |(exact Zt 4;refine bf (js:=[0]) (js':=[]) (eP T 3 A [.int .i64 last,.int .i64 size] S l c hc) rfl rfl rfl ob hcx rfl ?_ ?_)
 exact zq.h
 exact zr.h):Xo n (Q∧R) P:=zh
theorem P4 (zh:Xo n (Q∧R) P:=by
 apply Zop;intro zq zr;rotate_left;simp
 first
 |(exact Zt 1;refine ⟨none,0,?_,?_,rfl⟩)
 exact zq.h
 exact zr.h):Xo n (Q∧R) P:=zh
theorem P3 (zh:Xo n (Q∧R) P:=by
 apply Zop;intro zq zr;rotate_left;simp
 first
 |(exact Zt 7;refine LA.alt [1,5] oa ob ⟨⟨_,rfl,?_⟩,⟨_,rfl,?_⟩,trivial⟩)
 exact zq.h
 exact zr.h):Xo n (Q∧R) P:=zh
theorem P1 (zh:Xo n (Q∧R) P:=by
 apply Zop;intro zq zr;rotate_left;simp
 first
 |(exact Zt 13;refine LA.alt [3,6] oa ob ⟨⟨_,rfl,?_⟩,⟨_,rfl,?_⟩,trivial⟩)
 exact zq.h
 exact zr.h):Xo n (Q∧R) P:=zh
theorem P0 (zh:Xo n (Q∧R) P:=by
 apply Zop;intro zq zr;rotate_left;simp
 first
 |(exact Zt 1;refine LA.alt [1,4] oa ob ⟨⟨_,rfl,?_⟩,⟨_,rfl,?_⟩,trivial⟩)
 exact zq.h
 exact zr.h):Xo n (Q∧R) P:=zh
theorem PZ (zh:Xo n (Q∧R) P:=by
 apply Zop;intro zq zr;rotate_left;simp
 first
 |(exact Zt 3;refine LA.alt [2,6] oa ob ⟨⟨_,rfl,?_⟩,⟨_,rfl,?_⟩,trivial⟩)
 exact zq.h
 exact zr.h):Xo n (Q∧R) P:=zh
theorem SC (zh:Xo n (Q∧R) P:=by
 apply Zod;simp
 first
 |(exact Zt 0;exact P6)
 |(exact Zt 1;exact P5)
 |(exact Zt 3;exact P4)
 |(exact Zt 6;exact P3)
 |(exact Zt 8;exact P1)
 |(exact Zt 13;exact P0)
 |(exact Zt 15;exact PZ)):Xo n (Q∧R) P:=zh
theorem PJ (zh:Xo n (Q∧R) P:=by
 apply Zod;simp
 first
 |(exact Zt 14;exact SC)):Xo n (Q∧R) P:=zh
theorem Lq (zh:Xo n (Q∧R) P:=by
 apply Zop;intro zq zr;rotate_left;simp
 first
 |(exact Zt 8;refine L.bool 35 rfl (imp of_decide_eq_true ?_) (imp of_decide_eq_false ?_))
 exact zq.h
 exact zr.h):Xo n (Q∧R) P:=zh
theorem Lp (zh:Xo n (Q∧R) P:=by
 apply Zop;intro zq zr;rotate_left;simp
 first
 |(exact Zt 5;refine L.bool 24 rfl (imp of_decide_eq_true ?_) (imp of_decide_eq_false ?_))
 |(exact Zt 6;refine bf (js:=[]) (js':=[0]) (ep 220) rfl rfl rfl ob trivial rfl ?_ ?_)
 |(exact Zt 11;refine LA.alt [0,5] oa ob ⟨⟨_,rfl,?_⟩,⟨_,rfl,?_⟩,trivial⟩)
 |(exact Zt 13;refine LA.alt [2,4] oa ob ⟨⟨_,rfl,?_⟩,⟨_,rfl,?_⟩,trivial⟩)
 |(exact Zt 14;refine LA.alt [3,5] oa ob ⟨⟨_,rfl,?_⟩,⟨_,rfl,?_⟩,trivial⟩)
 exact zq.h
 exact zr.h):Xo n (Q∧R) P:=zh
theorem Lo (zh:Xo n (Q∧R) P:=by
 apply Zop;intro zq zr;rotate_left;simp
 first
 |(exact Zt 7;refine LQ.bool 54 rfl (imp ey ?_) (imp ew ?_))
 |(exact Zt 8;refine LQ.bool 65 rfl (imp ey ?_) (imp ew ?_))
 exact zq.h
 exact zr.h):Xo n (Q∧R) P:=zh
theorem Ln (zh:Xo n (Q∧R) P:=by
 apply Zop;intro zq zr;rotate_left;simp
 first
 |(exact Zt 7;refine ⟨PO,pc,?_,?_,rfl⟩)
 exact zq.h
 exact zr.h):Xo n (Q∧R) P:=zh
theorem Lm (zh:Xo n (Q∧R) P:=by
 apply Zop;intro zq zr;rotate_left;simp
 first
 |(exact Zt 15;refine lY _ rfl (imp eq_of_beq ?_) ?_)
 exact zq.h
 exact zr.h):Xo n (Q∧R) P:=zh
theorem Ll (zh:Xo n (Q∧R) P:=by
 apply Zop;intro zq zr;rotate_left;simp
 first
 |(exact Zt 11;refine L.bool 11 rfl (imp of_decide_eq_true ?_) (imp of_decide_eq_false ?_))
 |(exact Zt 12;refine L.bool 13 rfl (imp ey ?_) (imp ew ?_))
 |(exact Zt 13;refine L.bool 13 rfl (imp of_decide_eq_true ?_) (imp of_decide_eq_false ?_))
 |(exact Zt 14;refine L.bool 14 rfl (imp of_decide_eq_true ?_) (imp of_decide_eq_false ?_))
 |(exact Zt 15;refine L.bool 16 rfl (imp of_decide_eq_true ?_) (imp of_decide_eq_false ?_))
 exact zq.h
 exact zr.h):Xo n (Q∧R) P:=zh
theorem Lk (zh:Xo n (Q∧R) P:=by
 apply Zop;intro zq zr;rotate_left;simp
 first
 |(exact Zt 1;refine L.bool 18 rfl (imp of_decide_eq_true ?_) (imp of_decide_eq_false ?_))
 |(exact Zt 2;refine L.bool 21 rfl (imp of_decide_eq_true ?_) (imp of_decide_eq_false ?_))
 |(exact Zt 3;refine L.bool 22 rfl (imp of_decide_eq_true ?_) (imp of_decide_eq_false ?_))
 |(exact Zt 4;refine L.bool 28 rfl (imp of_decide_eq_true ?_) (imp of_decide_eq_false ?_))
 |(exact Zt 5;refine L.bool 29 rfl (imp of_decide_eq_true ?_) (imp of_decide_eq_false ?_))
 |(exact Zt 6;refine L.bool 31 rfl (imp of_decide_eq_true ?_) (imp of_decide_eq_false ?_))
 |(exact Zt 7;refine L.bool 44 rfl (imp ey ?_) (imp ew ?_))
 |(exact Zt 8;refine L.bool 44 rfl (imp of_decide_eq_true ?_) (imp of_decide_eq_false ?_))
 |(exact Zt 9;refine bj (js:=[0]) (js':=[1,2]) (mD f a hok hh y G U V gc uc vc hyn hyl hcap p0 p1 p2 p3 p4 p5 p6 p7 p8 hp k rv OA QA HA oc qc hc hpl M (aM f (y.gs.getD p6.toNat 0) c).x XA xc (aM f (y.gs.getD p6.toNat 0) c).done (aM f (y.gs.getD p6.toNat 0) c).e) rfl rfl rfl ob hcx rfl ?_ ?_)
 |(exact Zt 10;refine bj (js:=[0]) (js':=[1]) (dI f a hok hh y G U V gc uc vc hyn hyl hcap p0 p1 p2 p3 p4 p5 p6 p7 p8 hp k rv OA QA HA oc qc hc hpl M [p0,p1,(p2+1),p3,p4,p5,p6,p7,p8] rfl) rfl rfl rfl ob hcx rfl ?_ ?_)
 exact zq.h
 exact zr.h):Xo n (Q∧R) P:=zh
theorem Lj (zh:Xo n (Q∧R) P:=by
 apply Zop;intro zq zr;rotate_left;simp
 first
 |(exact Zt 2;refine LA.alt [0,4] oa ob ⟨⟨_,rfl,?_⟩,⟨_,rfl,?_⟩,trivial⟩)
 |(exact Zt 3;refine LA.alt [1,2] oa ob ⟨⟨_,rfl,?_⟩,⟨_,rfl,?_⟩,trivial⟩)
 |(exact Zt 4;refine LA.alt [1,6] oa ob ⟨⟨_,rfl,?_⟩,⟨_,rfl,?_⟩,trivial⟩)
 |(exact Zt 5;refine LA.alt [2,5] oa ob ⟨⟨_,rfl,?_⟩,⟨_,rfl,?_⟩,trivial⟩)
 |(exact Zt 6;refine LM.alt [11,13] oa ob hcx ⟨⟨_,rfl,?_⟩,⟨_,rfl,?_⟩,trivial⟩)
 exact zq.h
 exact zr.h):Xo n (Q∧R) P:=zh
theorem Li (zh:Xo n (Q∧R) P:=by
 apply Zop;intro zq zr;rotate_left;simp
 first
 |(exact Zt 4;refine ⟨none,none,0,0,?_,?_,rfl⟩)
 exact zq.h
 exact zr.h):Xo n (Q∧R) P:=zh
theorem Lh (zh:Xo n (Q∧R) P:=by
 apply Zop;intro zq zr;rotate_left;simp
 first
 |(exact Zt 4;refine L.bool 10 rfl (imp of_decide_eq_true ?_) (imp of_decide_eq_false ?_))
 |(exact Zt 5;refine L.bool 19 rfl (imp of_decide_eq_true ?_) (imp of_decide_eq_false ?_))
 |(exact Zt 6;refine L.bool 20 rfl (imp of_decide_eq_true ?_) (imp of_decide_eq_false ?_))
 |(exact Zt 7;refine L.bool 23 rfl (imp of_decide_eq_true ?_) (imp of_decide_eq_false ?_))
 |(exact Zt 8;refine L.bool 27 rfl (imp of_decide_eq_true ?_) (imp of_decide_eq_false ?_))
 |(exact Zt 9;refine L.bool 30 rfl (imp of_decide_eq_true ?_) (imp of_decide_eq_false ?_))
 |(exact Zt 10;refine L.bool 33 rfl (imp of_decide_eq_true ?_) (imp of_decide_eq_false ?_))
 |(exact Zt 11;refine L.bool 37 rfl (imp of_decide_eq_true ?_) (imp of_decide_eq_false ?_))
 |(exact Zt 12;refine L.bool 40 rfl (imp of_decide_eq_true ?_) (imp of_decide_eq_false ?_))
 |(exact Zt 13;refine bf (js:=[]) (js':=[0,1]) (ep 240) rfl rfl rfl ob trivial rfl ?_ ?_)
 |(exact Zt 14;refine bf (js:=[]) (js':=[0]) (ep 240) rfl rfl rfl ob trivial rfl ?_ ?_)
 |(exact Zt 15;refine bj (js:=[0]) (js':=[1]) (dI f a hok hh y G U V gc uc vc hyn hyl hcap p0 p1 p2 p3 p4 p5 p6 p7 p8 hp k rv OA QA HA oc qc hc hpl M [p0,p1,p2,p3,p4,p5,(p6+1),p7,p8] rfl) rfl rfl rfl ob hcx rfl ?_ ?_)
 exact zq.h
 exact zr.h):Xo n (Q∧R) P:=zh
theorem Lf (zh:Xo n (Q∧R) P:=by
 apply Zop;intro zq zr;rotate_left;simp
 first
 |(exact Zt 7;refine LA.alt [1,3] oa ob ⟨⟨_,rfl,?_⟩,⟨_,rfl,?_⟩,trivial⟩)
 |(exact Zt 8;refine LM.alt [7,12] oa ob hcx ⟨⟨_,rfl,?_⟩,⟨_,rfl,?_⟩,trivial⟩)
 |(exact Zt 9;refine LM.alt [7,13] oa ob hcx ⟨⟨_,rfl,?_⟩,⟨_,rfl,?_⟩,trivial⟩)
 |(exact Zt 10;refine LM.alt [7,8] oa ob hcx ⟨⟨_,rfl,?_⟩,⟨_,rfl,?_⟩,trivial⟩)
 |(exact Zt 13;refine LQ.bool 93 rfl (imp of_decide_eq_true ?_) (imp of_decide_eq_false ?_))
 exact zq.h
 exact zr.h):Xo n (Q∧R) P:=zh
theorem PI (zh:Xo n (Q∧R) P:=by
 apply Zod;simp
 first
 |(exact Zt 2;exact Lq)
 |(exact Zt 7;exact Lp)
 |(exact Zt 8;exact Lo)
 |(exact Zt 10;exact Ln)
 |(exact Zt 14;exact Lm)
 |(exact Zt 15;exact Ll)):Xo n (Q∧R) P:=zh
theorem PG (zh:Xo n (Q∧R) P:=by
 apply Zod;simp
 first
 |(exact Zt 0;exact Lk)
 |(exact Zt 1;exact Lj)
 |(exact Zt 5;exact Li)
 |(exact Zt 15;exact Lh)):Xo n (Q∧R) P:=zh
theorem PF (zh:Xo n (Q∧R) P:=by
 apply Zod;simp
 first
 |(exact Zt 0;exact Lf)):Xo n (Q∧R) P:=zh
theorem Sz (zh:Xo n (Q∧R) P:=by
 apply Zod;simp
 first
 |(exact Zt 0;exact PI)
 |(exact Zt 1;exact PG)
 |(exact Zt 2;exact PF)):Xo n (Q∧R) P:=zh
theorem KV (zh:Xo n (Q∧R) P:=by
 apply Zod;simp
 first
 |(exact Zt 15;exact Sz)):Xo n (Q∧R) P:=zh
theorem SF (zh:Xo n True P:=by
 apply Zoz;rotate_left;simp
 first
 |(exact Zt 10;exact Zm 0x1b2f661f)
 |(exact Zt 12;exact Zm 0x6b2f65e)):Xo n True P:=zh
theorem Zhc (zh:Xo n True P:=by
 apply Zod;simp
 first
 |(exact Zt 13;exact SF)):Xo n True P:=zh
theorem PY (zh:Xo n True P:=by
 apply Zoz;rotate_left;simp
 first
 |(exact Zt 9;refine aZ (()) Oi (lk [1] [0]))
 |(exact Zt 12;exact Nat.zero_le _)
 |(exact Zt 13;exact ⟨rfl,rfl,rfl⟩)):Xo n True P:=zh
theorem PX (zh:Xo n True P:=by
 apply Zoz;rotate_left;simp
 first
 |(exact Zt 4;exact ⟨none,0,rfl,rfl,rfl⟩)
 |(exact Zt 8;exact Nat.le_refl _)):Xo n True P:=zh
theorem PW (zh:Xo n True P:=by
 apply Zoz;rotate_left;simp
 first
 |(exact Zt 4;exact E9 oe oe)
 |(exact Zt 10;exact ⟨_,by rw [hE];rfl,rfl,rfl⟩)
 |(exact Zt 11;exact ⟨rfl,rfl⟩)):Xo n True P:=zh
theorem PV (zh:Xo n True P:=by
 apply Zoz;rotate_left;simp
 first
 |(exact Zt 4;exact ⟨hne,NO,nc,rfl,rfl,rfl⟩)
 |(exact Zt 5;exact ⟨hne,rfl,rfl⟩)
 |(exact Zt 12;exact J2 oe)
 |(exact Zt 13;exact ⟨A,c,rfl,rfl,rfl⟩)
 |(exact Zt 14;exact ⟨by decide,rfl,rfl⟩)):Xo n True P:=zh
theorem PU (zh:Xo n True P:=by
 apply Zoz;rotate_left;simp
 first
 |(exact Zt 7;exact absurd h ob)
 |(exact Zt 8;exact ⟨hge,rfl,rfl⟩)):Xo n True P:=zh
theorem PT (zh:Xo n True P:=by
 apply Zoz;rotate_left;simp
 first
 |(exact Zt 8;exact xE oe oe oe oe oe oe oe oe oe)):Xo n True P:=zh
theorem PS (zh:Xo n True P:=by
 apply Zoz;rotate_left;simp
 first
 |(exact Zt 3;exact iw oe oe hc50 oe)
 |(exact Zt 4;exact iw oe oe hc56 oe)
 |(exact Zt 5;exact decide_eq_false oe)):Xo n True P:=zh
theorem PR (zh:Xo n True P:=by
 apply Zoz;rotate_left;simp
 first
 |(exact Zt 13;exact ⟨congrArg Value.bool ((G9 oe).symm),rfl,rfl⟩)):Xo n True P:=zh
theorem PP (zh:Xo n True P:=by
 apply Zoz;rotate_left;simp
 first
 |(exact Zt 11;exact Nat.le_trans (AH ok _ _ _) ob)
 |(exact Zt 12;exact NxOk.next _ _ _ _)
 |(exact Zt 13;exact ⟨by simp,Nat.le_refl _⟩)):Xo n True P:=zh
theorem PN (zh:Xo n True P:=by
 apply Zoz;rotate_left;simp
 first
 |(exact Zt 10;refine QE.round (j+1) qq oe (lk [0,1] []))):Xo n True P:=zh
theorem Sx (zh:Xo n True P:=by
 apply Zod;simp
 first
 |(exact Zt 1;exact PY)
 |(exact Zt 3;exact PX)
 |(exact Zt 5;exact PW)
 |(exact Zt 6;exact PV)
 |(exact Zt 7;exact PU)
 |(exact Zt 10;exact PT)
 |(exact Zt 11;exact PS)
 |(exact Zt 12;exact PR)
 |(exact Zt 14;exact PP)
 |(exact Zt 15;exact PN)):Xo n True P:=zh
theorem PE (zh:Xo n True P:=by
 apply Zod;simp
 first
 |(exact Zt 14;exact Sx)):Xo n True P:=zh
theorem Ld (zh:Xo n True P:=by
 apply Zoz;rotate_left;simp
 first
 |(exact Zt 12;simp [bodyPostS,results,hd,hst])
 |(exact Zt 13;simp only [execOp,resolve,invoke,builtin,Sem.run_bind,Sem.run_pure,Result.andThen_ok,List.map_toArray,List.map_cons,List.map_nil,hf.eval hx,hf.eval hy,hrun])):Xo n True P:=zh
theorem Lc (zh:Xo n True P:=by
 apply Zoz;rotate_left;simp
 first
 |(exact Zt 13;exact (b7 f y _).symm)
 |(exact Zt 14;exact List.getElem_mem h)
 |(exact Zt 15;exact ⟨O,c,rfl,rfl,rfl⟩)):Xo n True P:=zh
theorem Lb (zh:Xo n True P:=by
 apply Zoz;rotate_left;simp
 first
 |(exact Zt 1;exact ⟨by rw [hE];rfl,rfl,rfl⟩)
 |(exact Zt 2;exact ⟨none,none,none,0,0,0,rfl,rfl,rfl⟩)
 |(exact Zt 12;refine aZ ((A3,A12,cc12,A16,cc16)) O7 (by exact lk [0,1,2,3,4] [0,3,1,2] (hh:=⟨rfl,oC,oC,oC,trivial⟩)))
 |(exact Zt 14;refine QE.round (i:=(k,hs)) ((k+1,hs)) Qh ou (by exact lk [0,1,2,3] [0,1] (hh:=⟨(congrArg some OR),(congrArg some OR),trivial⟩)))):Xo n True P:=zh
theorem La (zh:Xo n True P:=by
 apply Zoz;rotate_left;simp
 first
 |(exact Zt 3;refine ⟨none,0,by rw [D3 hB,nA hB];rfl,rfl,by rw [nA hB];rfl⟩)
 |(exact Zt 8;simp [execOp,ho,hρ _ _ hx,hρ _ _ hy,hg,hb])):Xo n True P:=zh
theorem K9 (zh:Xo n True P:=by
 apply Zoz;rotate_left;simp
 first
 |(exact Zt 6;exact pg oe oe hc50 oe)
 |(exact Zt 7;exact pg oe oe hc56 oe)
 |(exact Zt 8;exact hK _ _ (k v R' H' hΦ _ _ (hf.put oP v) hs'))
 |(exact Zt 9;exact kp R' H' hΨ _ _ hf hs')
 |(exact Zt 10;exact AE (k:=k) oe (Gg oe))
 |(exact Zt 11;exact ⟨A7,cc7,by simp only [Nat.zero_add];rfl,rfl,by simp only [sel,Nat.zero_add,List.nil_append];rfl⟩)
 |(exact Zt 12;exact ⟨O,oc,rfl,rfl,rfl⟩)
 |(exact Zt 13;exact ⟨az,rfl,⟨fun i hi=>absurd hi (Nat.not_lt_zero _),Nat.zero_le _⟩,rfl,rfl,rfl⟩)
 |(exact Zt 14;exact ⟨b,hbl,hbc,rfl,rfl,rfl⟩)
 |(exact Zt 15;exact ⟨congrArg Value.bool ((D8 oe (Eb oe hN)).symm),rfl,rfl⟩)):Xo n True P:=zh
theorem K8 (zh:Xo n True P:=by
 apply Zoz;rotate_left;simp
 first
 |(exact Zt 13;refine QE.round (i+1) QL oe (lk [0,1,2,3,4] []))):Xo n True P:=zh
theorem K7 (zh:Xo n True P:=by
 apply Zoz;rotate_left;simp
 first
 |(exact Zt 5;rw [if_neg h,if_neg h2,if_pos h3])
 |(exact Zt 6;simp [Instr.fill,newRow,Array.range_zero'])
 |(exact Zt 7;simp [List.getD_eq_getElem?_getD,h])
 |(exact Zt 8;simp [execOp,ho,resolve,invoke,builtin,hρ _ _ h2,Builtin.len_,run_underlying e1,goInt])):Xo n True P:=zh
theorem K6 (zh:Xo n True P:=by
 apply Zoz;rotate_left;simp
 first
 |(exact Zt 5;exact aZ ((A5,XA,xc)) hsg (lk [0,1,2,3,4,5,6,7,8] [0,1,2]))
 |(exact Zt 6;exact h.dis p q d d' hp hq hpq k hk hk')
 |(exact Zt 7;exact ⟨.returned (.tuple #[]),(.panicking [{ v:=pv,recovered:=true }]),_,fr,⟨tup vs,dH hrs hf hsat hr,tup vs,_,_,hΦ,rfl,(hsat.selR js).sel hn⟩,r⟩)
 |(exact Zt 8;exact ⟨.returned (.tuple #[]),.returning,_,fr,⟨tup vs,dH hrs hf hsat hr,tup vs,_,_,hΦ,rfl,(hsat.selR js).sel hn⟩,r⟩)
 |(exact Zt 9;exact ⟨_,hA,by rw [adz];exact hc⟩)
 |(exact Zt 10;exact ⟨congrArg Value.bool ((lI (p:=fun a=>chY l inn (t*S+a)) (k:=j) oe hx).symm),rfl,rfl⟩)
 |(exact Zt 11;exact ⟨hf.size,by simp [Act.put,hf.dfs],fun s v hv=>hf.vals s v hv⟩)
 |(exact Zt 12;exact ⟨hge,rO (aM f (y.gs.getD p6.toNat 0) c).done XA,rC (aM f (y.gs.getD p6.toNat 0) c).done xc,rfl,rfl,rfl⟩)
 |(exact Zt 13;exact ⟨i,by rw [hx];rfl,rfl,rfl,by omega,h1,fun q hq hq2=>h2 q oe hq2⟩)):Xo n True P:=zh
theorem K5 (zh:Xo n True P:=by
 apply Zoz;rotate_left;simp
 first
 |(exact Zt 10;refine aZ ((A3,A12,cc12,A16,cc16)) O7 (by exact lk [0,1,2,3,4] [0,2,1,3] (hh:=⟨rfl,oC,oC,oC,trivial⟩)))
 |(exact Zt 11;refine aZ ((A3,A12,cc12,A16,cc16)) O7 (by exact lk [0,1,2,3,4] [0,3,2,1] (hh:=⟨rfl,oC,oC,oC,trivial⟩)))
 |(exact Zt 12;refine aZ ((b,A8)) obZ (lk [0,1,2,3,7,6] [0,1]))
 |(exact Zt 13;refine aZ ((b,A9,A24,c24)) obO (lk [0,1,2,3,4,5,6,7] [5,6,1,2,3,4,0]))
 |(exact Zt 14;refine aZ ((b2,A10)) obY (lk [0,1,2,3] [0,2]))):Xo n True P:=zh
theorem K4 (zh:Xo n True P:=by
 apply Zoz;rotate_left;simp
 first
 |(exact Zt 3;refine QE.round (i:=(i,A,c)) ((i+1,A84,cc84)) ou ou (by exact lk [0] [0,1,2] (hh:=⟨rfl,(congrArg some (ay rfl OP)),(congrArg some (ay OP Qr)),trivial⟩)))
 |(exact Zt 4;refine QE.round (u+1) oat oe (lk [0,1,2,3] []))):Xo n True P:=zh
theorem K3 (zh:Xo n True P:=by
 apply Zoz;rotate_left;simp
 first
 |(exact Zt 3;refine ⟨none,0,by rw [D0 hB,nu hB];rfl,rfl,by rw [nu hB];rfl⟩)):Xo n True P:=zh
theorem K2 (zh:Xo n True P:=by
 apply Zoz;rotate_left;simp
 first
 |(exact Zt 2;rw [iY,dA oe,← List.take_append_drop 8 (av (aS f x mk) oth),he,hout,hdr])
 |(exact Zt 3;rw [← h,List.getElem?_take,if_pos hq,List.getElem?_drop])
 |(exact Zt 4;simp [execOp,hx',hf.eval hy,Instr.storeAt,Instr.sureAddr,storeVar,hv,hS,hsz,storeCells,ha0,hst])
 |(exact Zt 5;simp only [List.length_append,List.length_cons,List.length_nil])):Xo n True P:=zh
theorem K1 (zh:Xo n True P:=by
 apply Zoz;rotate_left;simp
 first
 |(exact Zt 2;exact aZ ((A11,b2)) ⟨hb2,hc2⟩ (lk [0,1,2,3,11,12,13,14,15,16,17,18,19] [0,1,2]))
 |(exact Zt 3;exact aZ ((A9,b1)) ⟨hb1,hc1⟩ (lk [0,1,2,3,8,9,10,11,12,13,14,15,16] [0,1,2]))
 |(exact Zt 4;exact aZ (A3) trivial (lk [0,1,2,3,4,5,6,7,8,9] [1,2]))
 |(exact Zt 5;exact eV J.tr J.od ⟨Int.le_refl _,by rw [ez];omega⟩)
 |(exact Zt 6;exact hx x (List.mem_of_getElem? hx1) c (List.mem_of_getElem? hc) k hx2 hk)
 |(exact Zt 7;exact hx x (List.mem_of_getElem? hx1) d (List.mem_of_getElem? hd) k hx2 hk')
 |(exact Zt 8;exact k hinv _ _ obT (fun e he=>getD_set_true (h0 e he)) (hf.put oP v) hs)
 |(exact Zt 9;exact ⟨Nat.lt_of_lt_of_le (hk▸hg) hst.size,.inr ⟨_,rfl,hk⟩⟩)
 |(exact Zt 10;exact ⟨congrArg Value.bool (by unfold iH;rw [hall];simp),rfl,rfl⟩)
 |(exact Zt 11;exact ⟨congrArg Value.bool (fx fun q=>by have:=q.2.1;omega).symm,rfl,rfl⟩)
 |(exact Zt 12;exact ⟨congrArg Value.bool (fx fun q=>by have:=q.2.2.1;omega).symm,rfl,rfl⟩)
 |(exact Zt 13;exact ⟨congrArg Value.bool (fx fun q=>by have:=q.2.2.2.1;omega).symm,rfl,rfl⟩)
 |(exact Zt 14;exact ⟨congrArg Value.bool (fx fun q=>by have:=q.2.2.2.2.1;omega).symm,rfl,rfl⟩)
 |(exact Zt 15;exact ⟨congrArg Value.bool (fx fun q=>by have:=q.2.2.2.2.2.1;omega).symm,rfl,rfl⟩)):Xo n True P:=zh
theorem K0 (zh:Xo n True P:=by
 apply Zoz;rotate_left;simp
 first
 |(exact Zt 1;exact ⟨h.own q d hq,fun k hk=>⟨(h.ofp q d hq k hk).1,.inr ⟨q,d,hq,hk⟩⟩⟩)
 |(exact Zt 2;exact ⟨none,0,by rw [gV hno];rfl,hno.symm,rfl,by rw [gV hno];rfl⟩)
 |(exact Zt 3;exact ⟨rfl,⟨fun i hi=>absurd hi (Nat.not_lt_zero _),Nat.zero_le _⟩⟩)
 |(exact Zt 4;exact ⟨sec,oth,g,h1,Nat.le_trans h2 hG,h3.mono ht,h4,Nat.le_trans h5 hP,Nat.le_trans h6 hE⟩)
 |(exact Zt 5;exact ⟨⟨b2,GA,UA,VA,PO,PQ,PH,IA,NA,gc,uc,vc,c1,c2,c3,ic,nc⟩,⟨hb2,hc2,hvc,huc⟩,rfl,rfl,rfl⟩)):Xo n True P:=zh
theorem KZ (zh:Xo n True P:=by
 apply Zoz;rotate_left;simp
 first
 |(exact Zt 15;refine QE.join ((i,g,b)) oaS (lk [0,1,2,3,4,5,6,7,8,9,10,11,12] [0,1]))):Xo n True P:=zh
theorem KY (zh:Xo n True P:=by
 apply Zoz;rotate_left;simp
 first
 |(exact Zt 1;refine aZ ((A15,cc15)) O7 (by exact lk [0] [1] (hh:=⟨(by rw [← cy];rfl),trivial⟩)))
 |(exact Zt 2;refine aZ ((A3,A12,cc12,A16,cc16)) O7 (by exact lk [0,1,2,3,4] [0,1,2,3] (hh:=⟨rfl,oC,oC,oC,trivial⟩)))
 |(exact Zt 3;refine aZ ((fid,cap,Aw,ws,A24)) (by exact hw) (lk [0,1,2,3,4,5,6,7,8] [0,1,2]))
 |(exact Zt 14;refine QE.round (i+1) oe oe (by exact lk [0,1] [] ⟨rfl,rfl,rfl,rfl,(congrArg some (congrArg (Value.int .i64) oe)),trivial⟩))
 |(exact Zt 15;refine QE.round (i:=(k,O,c)) ((k+1,A51,cc51)) ou ou (by exact lk [0,1] [0] ⟨rfl,rfl,obg,rfl,trivial⟩ (hh:=⟨(congrArg some (ay e2.symm oal)),trivial⟩)))):Xo n True P:=zh
theorem KX (zh:Xo n True P:=by
 apply Zoz;rotate_left;simp
 first
 |(exact Zt 1;refine QE.round (i:=(t,A,c)) ((t+1,A55,cc55)) ou ou (by exact lk [0,1,2] [0] ⟨rfl,rfl,rfl,rfl,qL,trivial⟩ (hh:=⟨(congrArg some (ay hel.symm O4)),trivial⟩)))
 |(exact Zt 2;refine QE.round (j+1) (by exact ⟨by omega,bK hj2 hN⟩) oe (lk [0,1] []))
 |(exact Zt 3;refine QE.round (t+1) (by exact (bK hno hx)) oe (lk [0,1,2] [0]))):Xo n True P:=zh
theorem KW (zh:Xo n True P:=by
 apply Zoz;rotate_left;simp
 first
 |(exact Zt 1;exact Zm 0x7b2ffa2f)
 |(exact Zt 5;exact Zm 0xeb2f4b2f)
 |(exact Zt 6;exact Zm 0x5b2ffb2f)
 |(exact Zt 7;exact ⟨u,_,⟨x3 (k:=rW k+wds.getD k 0) ho ox,_,cO l k,rfl⟩,rfl,rfl⟩)
 |(exact Zt 14;refine aZ ((A',c')) oT (by exact lk [0] [0,1,2] (hh:=⟨rfl,om,rfl,trivial⟩)))):Xo n True P:=zh
theorem PD (zh:Xo n True P:=by
 apply Zod;simp
 first
 |(exact Zt 0;exact Ld)
 |(exact Zt 1;exact Lc)
 |(exact Zt 2;exact Lb)
 |(exact Zt 4;exact La)
 |(exact Zt 6;exact K9)
 |(exact Zt 8;exact K8)
 |(exact Zt 11;exact K7)
 |(exact Zt 14;exact K6)):Xo n True P:=zh
theorem PC (zh:Xo n True P:=by
 apply Zod;simp
 first
 |(exact Zt 1;exact K5)
 |(exact Zt 2;exact K4)
 |(exact Zt 5;exact K3)
 |(exact Zt 6;exact K2)
 |(exact Zt 13;exact K1)
 |(exact Zt 14;exact K0)):Xo n True P:=zh
theorem Pz (zh:Xo n True P:=by
 apply Zod;simp
 first
 |(exact Zt 0;exact KZ)
 |(exact Zt 1;exact KY)
 |(exact Zt 2;exact KX)
 |(exact Zt 11;exact KW)):Xo n True P:=zh
theorem Sw (zh:Xo n True P:=by
 apply Zod;simp
 first
 |(exact Zt 0;exact PD)
 |(exact Zt 1;exact PC)
 |(exact Zt 2;exact Pz)):Xo n True P:=zh
theorem KU (zh:Xo n True P:=by
 apply Zod;simp
 first
 |(exact Zt 15;exact Sw)):Xo n True P:=zh
theorem Y {P Q:Prop}(s:Nat)(h:Zs s Q P:=by repeat (first|exact Zz|(apply Zn1;exact Zga)|(apply Zn2;exact Zha)|(apply Zn3;exact IS)|(apply Zn4;exact CC)))(q:Q):P:=h.h q
theorem Zu {P Q R:Prop}(s:Nat)(h:Zs s (Q∧R) P:=by repeat (first|exact Zz|(apply Zn1;exact Zga)|(apply Zn2;exact Zha)|(apply Zn3;exact IS)|(apply Zn4;exact CC)|(apply Zn2;exact Zhb)|(apply Zn3;exact PJ)|(apply Zn4;exact KV)))(q:Q)(r:R):P:=h.h ⟨q,r⟩
theorem Zm {P:Prop}(s:Nat)(h:Zs s True P:=by repeat (first|exact Zz|(apply Zn1;exact Zga)|(apply Zn2;exact Zha)|(apply Zn3;exact IS)|(apply Zn4;exact CC)|(apply Zn2;exact Zhc)|(apply Zn3;exact PE)|(apply Zn4;exact KU))):P:=h.h trivial
end Go.Sl
