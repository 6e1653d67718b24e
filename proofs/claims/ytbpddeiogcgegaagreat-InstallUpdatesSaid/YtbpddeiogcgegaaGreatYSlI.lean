/-
  Part of a proof.
-/
import Derived.Lib.MakeNoZero
import Derived.Laws.Externs
import Derived.Scope
import Derived.Test.YtbpddeiogcgegaaGreatYSlG
set_option maxHeartbeats 0
set_option maxRecDepth 4000
set_option linter.all false
namespace Go.Sl
section
variable {X:Cx}{β:Base}{n:Nat}{ds:List Deferred}{ops:Array Oper}{Q:Exit→Act→World→Prop}{rest:List Oper}{Γ:Env}{R H:List Pr}
theorem yh {t e n c h m:Nat}{x y z:Operand}{kd kd':IntKind}{q q':Int}{i ei:Ti}{A:Option Addr}(ht:au t X.tab=some i)(hd:i.desc=.slice e)(he:au e X.tab=some ei)(hx:ev Γ x=some (.slice A n c))
    (hy:ev Γ y=some (.int kd q)) (hz:ev Γ z=some (.int kd' q')) (hq:q=(h:Int)) (hq':q'=(m:Int)) (hh:h≤m) (hm:m≤c):Ev X β Γ R H (.slice t x none (some y) (some z)) (.slice A h m):=by
 intro ρ w hρ hw o ho;apply Y 0x35e;intro e1;rw [hd] at e1;apply Y 0xb6e;intro hS;subst hq hq';have hA':A.map (fun a=>a.add 0)=A:=oaV
 simp [execOp,ho,hρ _ _ hx,hρ _ _ hy,hρ _ _ hz,Instr.sliceAt,Instr.slice,Instr.sliceBounds,Instr.sliceBound,asIntOf,run_underlying e1,hS,hh,hm,hA']
theorem jn:∀ (n t:Nat) (acc:Array Value) (ys:List UInt8),acc.toList=U8 ys→∃ zs:List UInt8,(Extern.BytealgMakeNoZero.digits n t acc).toList=U8 zs
  |0,_,acc,ys,h=>⟨ys,h⟩
  |n+1,t,acc,ys,h=>by
    rw [Extern.BytealgMakeNoZero.digits]
    refine jn n (t/256) _ (ys++[UInt8.ofNat (t%256)]) ?_
    rw [Array.toList_push,h,← cy]
    congr 1
    simp [U8]
theorem kx {P:Program}(w:World)(ps:Array TypeId)(t e:TypeId)(ht:P.underlying t=some (.slice e))(m:Nat)(hm:m≤1099511627776):
    ∃ (c:Nat) (zs:List UInt8),(Extern.BytealgMakeNoZero.makeNoZero ps #[t] #[.int .i64 m]).run P w=.ok (.slice (some ⟨w.heap.size,0,none⟩) m c) (w.drew.drew.alloc (.cells (List.toArray (U8 zs)) e))∧m≤c∧c≤maxLen∧zs.length=c:=by
 have h1:¬ (m:Int)<0:=oe;have h2:¬ (281474976710656:Int)<(m:Int):=oe;obtain ⟨qn,s1,s2,hqf,hdef⟩:∃ (qn:Question) (s1 s2:String),qn.forced=false∧Extern.BytealgMakeNoZero.makeNoZero ps #[t] #[.int .i64 m]=
  (do
   let .slice elem ← underlying t|stuck s1
   if (m:Int)<0||(m:Int)>2^48 then runtimePanic (.error s2)
   let cap ← choose (.appendCap (m:Int).toNat 0 elem)
   askRoom cap
   let bytes ← choose qn
   let a ← newRow elem (Extern.BytealgMakeNoZero.digits cap bytes #[])
   pure (.slice (some a) (m:Int).toNat cap)):=⟨_,_,_,rfl,rfl⟩
 obtain ⟨q,hq⟩:∃ q:Nat,(Extern.BytealgMakeNoZero.makeNoZero ps #[t] #[.int .i64 m]).run P w=.ok (.slice (some ⟨w.heap.size,0,none⟩) m (grownCap w m 0 e)) (w.drew.drew.alloc (.cells (Extern.BytealgMakeNoZero.digits (grownCap w m 0 e) q #[]) e)):=by
  refine ⟨qn.cut (w.tape (w.drawn+1) qn),?_⟩;rw [hdef];have hfa:(Question.appendCap m 0 e).forced=false:=rfl
  simp [run_underlying ht,h1,h2,hqf,hfa,newRow,grownCap]
 obtain ⟨zs,hz⟩:=jn (grownCap w m 0 e) q #[] [] rfl;have hsz:=Lib.size_digits (grownCap w m 0 e) q #[];have hzl:zs.length=grownCap w m 0 e:=by
  have:=congrArg List.length hz;rw [Array.length_toList,hsz,aH] at this
  simpa using this.symm
 exact ⟨grownCap w m 0 e,zs,by rw [← hz,hq],by simpa using grownCap_ge w m 0 e,grownCap_le_maxLen w m 0 e qX,hzl⟩
theorem L.makeNoZero {d t e ty f m:Nat}{pos:String}{af:Array Edge}{x:Operand}{q:Int}{i:Ti}{fn:Func}{tys ps:Array TypeId}(hf:X.P.funcs[f]?=some fn)(hname:(fn.name== "runtime.NumGoroutine")=false)(hb:fn.body.isNone=true)(hn:Extern.findNext fn=none)
    (hex:Extern.find fn=some (Extern.BytealgMakeNoZero.makeNoZero ps #[t])) (ht:au t X.tab=some i) (hdesc:i.desc=.slice e) (hx:ev Γ x=some (.int .i64 q)) (hq:q=(m:Int)) (hm:m≤1099511627776) (hd:Nat.blt d n=true)
    (k:∀ A c (ys:List UInt8),m≤c→ys.length=m→L X β n ds ops Q rest ((d,.slice A m c)::Γ) R (H++[Own e 1 A m c (U8 ys)])):
    L X β n ds ops Q (⟨some d,.call ⟨.value (.func f),#[x],tys⟩,ty,pos,af,none⟩::rest) Γ R H:=by
 intro a w hfr hs;refine wpList_plain rfl fun K hK=>?_
 apply Y 0x62e;obtain ⟨e1,_⟩:=X.ok _ _ ht;rw [hdesc] at e1;subst hq;obtain ⟨c,zs,hr,h1,h2,h3⟩:=kx (P:=X.P) w ps t e e1 m hm;have hex':(execOp a.eval ⟨some d,.call ⟨.value (.func f),#[x],tys⟩,ty,pos,af,none⟩).run X.P w=.ok (.value (.slice (some ⟨w.heap.size,0,none⟩) m c)) (w.drew.drew.alloc (.cells (List.toArray (U8 zs)) e)):=by
  have hev:=hfr.agree x _ hx;apply Y 0xda1f;intro hfv;have e2:(#[x]:Array Operand).map a.eval=#[.int .i64 (m:Int)]:=by simp [hev]
  have hc:=run_callFunc_extern hf hname hb hn hex #[.int .i64 (m:Int)] w;rw [hr] at hc;apply Y 0x161f
  simpa using hc
 rw [hex'];have hst:Stp w (w.drew.drew.alloc (.cells (List.toArray (U8 zs)) e)) (fun _=>False):=
  (((Stp.drew w _).trans (Stp.drew _ _)).trans (Stp.alloc _ _ _))
 refine hK _ _ (k (some ⟨w.heap.size,0,none⟩) c (zs.take m) h1 Oq _ _ (hfr.put oP _) (hs.snoc hst (fun _ h _=>h) _ ?_ ?_))
 ·refine ⟨by rw [aH,List.length_take];omega,.inr ⟨w.heap.size,c,List.toArray (U8 zs),rfl,Nat.zero_le _,?_,h1,h2,by simp [aH,h3],?_⟩⟩
  ·show (w.drew.drew.heap.push _)[w.drew.drew.heap.size]?=_
   exact Array.getElem?_push_size
  simp [U8,List.map_take]
 intro k hk;have:=mw hk;subst this;exact Zm 0xdee
theorem ea (i j:Nat)(c:Nat){hs:List Hd}{vss:List (List Value)}{A:Option Addr}{xs:List Value}(hi:R[i]?=some (KidsR hs vss))(hj:R[j]?=some (Rd A xs))(hl:hs.length=vss.length):Has R H (KidsR (hs++[(A,c)]) (vss++[xs])):=by
 have get:∀ (q:Nat) (h:Hd) (v:List Value),(hs++[(A,c)])[q]?=some h→(vss++[xs])[q]?=some v→(hs[q]?=some h∧vss[q]?=some v)∨(h=(A,c)∧v=xs):=by
  intro q h v hh hv;rw [List.getElem?_append] at hh hv
  split at hh
  ·rename_i h1;rw [if_pos oe] at hv
   exact .inl ⟨hh,hv⟩
  rename_i h1;rw [if_neg oe] at hv;have q0:q-hs.length=0:=by
   rcases Nat.eq_zero_or_pos (q-hs.length) with h0|h0
   ·exact h0
   rw [List.getElem?_eq_none OO] at hh
   cases hh
  rw [q0] at hh;rw [← hl,q0] at hv
  simp at hh hv
  exact .inr ⟨hh.symm,hv.symm⟩
 refine ⟨fun β w hw q h v hh hv=>?_,fun k ⟨q,h,v,hh,hv,hk⟩=>?_⟩
 ·rcases get q h v hh hv with ⟨a,b⟩|⟨rfl,rfl⟩
  ·exact hw.rd _ (List.mem_of_getElem? hi) q h v a b
  exact hw.rd _ (List.mem_of_getElem? hj)
 rcases get q h v hh hv with ⟨a,b⟩|⟨rfl,rfl⟩
 ·exact .inl ⟨_,List.mem_of_getElem? hi,q,h,v,a,b,hk⟩
 exact .inl ⟨_,List.mem_of_getElem? hj,hk⟩
end
section
variable {X:Cx}{β:Base}{n:Nat}{ds:List Deferred}{ops:Array Oper}{Q:Exit→Act→World→Prop}{rest:List Oper}{Γ:Env}{R H:List Pr}
theorem Own.none (e:TypeId)(w:World):(Own e 1 none 0 0 []).p w:=World.ownsRow_nil w 0 e 1
theorem Sat.takeKid {w:World}(h:Sat β w R H){j e i:Nat}{hs:List Hd}{vss:List (List Value)}(hj:H[j]?=some (aw e hs vss))(hi:i<vss.length)(js:List Nat)(hn:(j::js).Nodup):
    Sat β w R (Own e 1 (hs.getD i (none,0)).1 (vss.getD i []).length (hs.getD i (none,0)).2 (vss.getD i [])::aw e (hs.set i (none,0)) (vss.set i [])::Sl.sel H js):=by
 have hjs:j∉js:=(List.nodup_cons.1 hn).1;have nd:js.Nodup:=(List.nodup_cons.1 hn).2;have ok:=h.own j _ hj;have hil:i<hs.length:=by rw [ok.1];exact hi
 have gh:hs[i]?=some (hs.getD i (none,0)):=getD_some hil;apply Y 0xd91f;intro gv;have f1:∀ k,(Own e 1 (hs.getD i (none,0)).1 (vss.getD i []).length (hs.getD i (none,0)).2 (vss.getD i [])).fp k→EK (hs.getD i (none,0)) k:=fun k hk=>hk
 have f2:∀ k,(aw e (hs.set i (none,0)) (vss.set i [])).fp k→∃ (q:Nat) (g:Hd),q≠i∧hs[q]?=some g∧EK g k:=by
  apply Y 0x560f;intro k q g hg hk;rw [List.getElem?_set] at hg
  by_cases hqi:i=q
  ·rw [if_pos hqi,if_pos hil] at hg
   injection hg with hg
   subst hg;obtain ⟨a,ha,_⟩:=hk
   cases ha
  rw [if_neg hqi] at hg;exact ⟨q,g,fun x=>hqi x.symm,hg,hk⟩
 refine h.put (Stp.refl w fun _=>False) (fun _ hk=>hk.elim) R _ (fun r hr=>.inl hr) ?_ ?_ ?_
 ·intro q d hd
  match q with
  |0=>
   simp at hd;subst hd;refine ⟨?_,fun k hk=>⟨(h.ofp j _ hj k ⟨i,_,gh,hk⟩).1,.inr ⟨j,_,hj,⟨i,_,gh,hk⟩⟩⟩⟩;have:=ok.2.1 i _ _ gh gv
   simpa using this
  |1=>
   simp at hd;subst hd;refine ⟨⟨by simp [ok.1],?_,?_⟩,fun k hk=>?_⟩
   ·intro q g v hg hv;rw [List.getElem?_set] at hg hv
    by_cases hqi:i=q
    ·rw [if_pos hqi,if_pos hil] at hg;rw [if_pos hqi,if_pos hi] at hv
     injection hg with hg
     injection hv with hv
     subst hg hv
     exact Own.none e w
    rw [if_neg hqi] at hg hv
    exact ok.2.1 q g v hg hv
   ·intro p q g d hg hd hpq k hk;rw [List.getElem?_set] at hg hd
    by_cases hpi:i=p
    ·rw [if_pos hpi,if_pos hil] at hg
     injection hg with hg
     subst hg;obtain ⟨a,ha,_⟩:=hk
     cases ha
    rw [if_neg hpi] at hg
    by_cases hqi:i=q
    ·rw [if_pos hqi,if_pos hil] at hd
     injection hd with hd
     subst hd;rintro ⟨a,ha,_⟩
     cases ha
    rw [if_neg hqi] at hd
    exact ok.2.2 p q g d hg hd hpq k hk
   obtain ⟨q,g,_,hg,hb⟩:=f2 k hk;exact ⟨(h.ofp j _ hj k ⟨q,g,hg,hb⟩).1,.inr ⟨j,_,hj,⟨q,g,hg,hb⟩⟩⟩
  |q+2=>
   simp at hd;apply Y 0x8ee;intro p hp hpd;exact ⟨h.own p d hpd,fun k hk=>⟨(h.ofp p d hpd k hk).1,.inr ⟨p,d,hpd,hk⟩⟩⟩
 ·have apart:∀ k,EK (hs.getD i (none,0)) k→(∃ (q:Nat) (g:Hd),q≠i∧hs[q]?=some g∧EK g k)→False:=by
   rintro k hk ⟨p,g,hne,hg,hb⟩
   exact ok.2.2 i p _ _ gh hg (fun x=>hne x.symm) k hk hb
  have old:∀ (q:Nat) (d:Pr),(Sl.sel H js)[q]?=some d→∀ k,(∃ (p:Nat) (g:Hd),hs[p]?=some g∧EK g k)→¬ d.fp k:=by
   intro q d hd k hk hdk;apply Y 0x8ee;intro p hp hpd
   exact h.dis j p _ _ hj hpd (fun x=>hjs (x▸hp)) k hk hdk
  intro p q c d hc hd hne k hck hdk
  match p,q with
  |0,0=>exact hne rfl
  |1,1=>exact hne rfl
  |0,1=>simp at hc hd;subst hc hd;exact apart k hck (f2 k hdk)
  |1,0=>simp at hc hd;subst hc hd;exact apart k hdk (f2 k hck)
  |0,q+2=>simp at hc hd;subst hc;exact old q d hd k ⟨i,_,gh,hck⟩ hdk
  |p+2,0=>simp at hc hd;subst hd;exact old p c hc k ⟨i,_,gh,hdk⟩ hck
  |1,q+2=>simp at hc hd;subst hc;obtain ⟨s,g,_,hg,hb⟩:=f2 k hck;exact old q d hd k ⟨s,g,hg,hb⟩ hdk
  |p+2,1=>simp at hc hd;subst hd;obtain ⟨s,g,_,hg,hb⟩:=f2 k hdk;exact old p c hc k ⟨s,g,hg,hb⟩ hck
  |p+2,q+2=>
   simp at hc hd
   exact (h.sel nd).dis p q c d hc hd (fun x=>hne oe) k hck hdk
 intro r hr q d hd k hrk hdk
 match q with
 |0=>simp at hd;subst hd;exact h.sep r hr j _ hj k hrk ⟨i,_,gh,hdk⟩
 |1=>simp at hd;subst hd;obtain ⟨s,g,_,hg,hb⟩:=f2 k hdk;exact h.sep r hr j _ hj k hrk ⟨s,g,hg,hb⟩
 |q+2=>
  simp at hd;apply Y 0x8ee;intro p hp hpd
  exact h.sep r hr p d hpd k hrk hdk
theorem C.takeKid {c:Code}(j i:Nat){e:Nat}{hs:List Hd}{vss:List (List Value)}(hj:H[j]?=some (aw e hs vss))(hi:i<vss.length)(js:List Nat)(hn:(j::js).Nodup)
    (h:C X β n ds Q c Γ R (Own e 1 (hs.getD i (none,0)).1 (vss.getD i []).length (hs.getD i (none,0)).2 (vss.getD i [])::aw e (hs.set i (none,0)) (vss.set i [])::Sl.sel H js)):C X β n ds Q c Γ R H:=
  fun a w hf hs'=>h a w hf (hs'.takeKid hj hi js hn)
theorem C.cap {x:Code}(j:Nat){e sz m c:Nat}{A:Option Addr}{xs:List Value}(hj:H[j]?=some (Own e sz A m c xs))(h:m≤c→C X β n ds Q x Γ R H):C X β n ds Q x Γ R H:=
  fun a w hf hs=>h (Own.cap (hs.own j _ hj)).1 a w hf hs
theorem L.cap (j:Nat){e sz m c:Nat}{A:Option Addr}{xs:List Value}{ops:Array Oper}{rest:List Oper}(hj:H[j]?=some (Own e sz A m c xs))(h:m≤c→L X β n ds ops Q rest Γ R H):L X β n ds ops Q rest Γ R H:=
  fun a w hf hs=>h (Own.cap (hs.own j _ hj)).1 a w hf hs
theorem jg (l:List UInt8)(k:Nat):(U8 l).drop k=U8 (l.drop k):=by simp [U8,List.map_drop]
theorem xi (l:List Int)(k:Nat):(I64 l).drop k=I64 (l.drop k):=by simp [I64,List.map_drop]
theorem Mu (a b:List Bool):Bs a++Bs b=Bs (a++b):=by simp [Bs]
structure Stp6 where
  er:Bool
  se:UInt8
  at_:UInt8
  data:List UInt8
  yA:Option Addr
  yc:Nat
  torn:Bool
  mask:List UInt8
  mA:Option Addr
  mc:Nat
def Stp6.cells (s:Stp6):List Value:=[.bool s.er,.int .u8 (s.se.toNat:Int),.int .u8 (s.at_.toNat:Int),.slice s.yA s.data.length s.yc,.bool s.torn,.slice s.mA s.mask.length s.mc]
def Stp6.zero:Stp6:=⟨false,0,0,[],none,0,false,[],none,0⟩
def stepsM (l:List Stp6):List Hd:=l.map fun s=>(s.mA,s.mc)
end
section
variable {X:Cx}{β:Base}{n:Nat}{ds:List Deferred}{ops:Array Oper}{Q:Exit→Act→World→Prop}{Γ:Env}{R H:List Pr}{rest:List Oper}
theorem uC {ρ:Operand→Value}{f t:Nat}{r:Operand}{as:List Operand}{v:Value}{args:List Value}{name:String}{tys:Array TypeId}{w:World}(hok:FnOk X.P f)(hρ:∀ x u,ev Γ x=some u→ρ x=u)(hr:ev Γ r=some (.iface t v))(ha:evs Γ as=some args)
    (hm:∀ w,(method (X.P.types.size+Made.depth) t v name).run X.P w=.ok (f,v) w) (o:Oper) (ho:o.op=.call ⟨.invoke r name,List.toArray as,tys⟩):(execOp ρ o).run X.P w=.ok (.enter f (List.toArray (v::args))) w:=by
 obtain ⟨fn,hf,hb,hname⟩:=hok.ok;apply Y 0x1d0f;intro e1;have hrv:=hρ r _ hr;apply Y 0xab0f;intro e2;have e3:#[v]++List.toArray args=List.toArray (v::args):=obx;have e4:((#[Value.iface t v]++List.toArray args).extract 1 (#[Value.iface t v]++List.toArray args).size)=List.toArray args:=obx;have e5:(#[Value.iface t v]++List.toArray args)[0]?=some (.iface t v):=Ob
 simp only [beq_eq_false_iff_ne] at hname
 simp only [execOp,ho,resolve,hrv,invoke,callMethod,callFunc,Sem.run_bind,Sem.run_pure,Result.andThen_ok,e2,e4,e5,e3,run_program,hf,hb,hm]
 simp [hname]
theorem I1 {d ty t:Nat}{pos:String}{af:Array Edge}{f:Nat}{r:Operand}{as:List Operand}{tys:Array TypeId}{name:String}{v:Value}{args:List Value}{Rf Hf Hr:List Pr}{js js':List Nat}{Φ:Value→List Pr→List Pr→Prop}(hfn:Ctr X f (v::args) Rf Hf Φ)
    (hr:ev Γ r=some (.iface t v)) (hm:∀ w,(method (X.P.types.size+Made.depth) t v name).run X.P w=.ok (f,v) w) (ha:evs Γ as=some args) (hj:sel H js=Hf) (hj':sel H js'=Hr) (hn:(js++js').Nodup) (hR:eh R Hr Rf) (hd:Nat.blt d n=true)
    (k:∀ v R' H',Φ v R' H'→L X β n ds ops Q rest ((d,v)::Γ) R (H'++Hr)):L X β n ds ops Q (⟨some d,.call ⟨.invoke r name,List.toArray as,tys⟩,ty,pos,af,none⟩::rest) Γ R H:=by
 intro a w hf hs;refine wpList_plain rfl fun K hK=>?_
 apply Y 0x62e;rw [uC hfn.1 hf.agree hr ha hm _ rfl];apply Y 0x320f;rintro e w' ⟨v,R',H',hΦ,rfl,hs'⟩;exact Zm 0x860f
end
section
variable {X:Cx}{β:Base}{Γ:Env}{R H:List Pr}
theorem wrap_u64 {m:Nat}(h:m<18446744073709551616):IntKind.u64.wrap (m:Int)=(m:Int):=by
 unfold IntKind.wrap
 simp [IntKind.bits,IntKind.signed]
 omega
theorem I3 {t ty:Nat}{x y:Operand}{yk:IntKind}{m k:Nat}(hx:ev Γ x=some (.int .u64 (m:Int)))(hy:ev Γ y=some (.int yk (k:Int)))(hk:k≤64):Ev X β Γ R H (.binOp .shr t x y ty) (.int .u64 ((m>>>k:Nat):Int)):=by
 intro ρ w hρ hw o ho;have hg:(eqGuard .shr t x y (.int .u64 (m:Int)) (.int yk (k:Int))).run X.P w=.ok () w:=qT;apply Y 0x8c0f;intro hb;have e:(m:Int).fdiv (2^min (k:Int).toNat 64)=((m>>>k:Nat):Int):=by
  rw [Int.toNat_natCast,Nat.min_eq_left hk,Int.fdiv_eq_ediv_of_nonneg _ (Int.pow_nonneg ob),Nat.shiftRight_eq_div_pow,Int.natCast_ediv,Int.natCast_pow]
  rfl
 apply Y 0xda2f;rw [← e]
end
section
variable {X:Cx}{β:Base}{n:Nat}{ds:List Deferred}{Q:Exit→Act→World→Prop}{Γ:Env}{R H:List Pr}
end
section
variable {X:Cx}{β:Base}{n:Nat}{ds:List Deferred}{Q:Exit→Act→World→Prop}{Γ:Env}{R H:List Pr}
end
section
variable {X:Cx}{β:Base}{n:Nat}{ds:List Deferred}{ops:Array Oper}{Q:Exit→Act→World→Prop}{Γ:Env}{R H:List Pr}{rest:List Oper}
theorem Sat.repl {w:World}{c c':Pr}(h:Sat β w R (c::H))(hp:c.p w→c'.p w)(hf:∀ k,c'.fp k→c.fp k):Sat β w R (c'::H):=by
 have idx:∀ (q:Nat) (d:Pr),(c'::H)[q]?=some d→∃ d',(c::H)[q]?=some d'∧(d'.p w→d.p w)∧∀ k,d.fp k→d'.fp k:=by
  intro q d hd
  match q with
  |0=>
   simp at hd;subst hd;exact ⟨c,rfl,hp,hf⟩
  |q+1=>exact ⟨d,hd,id,fun _ h=>h⟩
 refine h.put (Stp.refl w fun _=>False) (fun _ hk=>hk.elim) R _ (fun r hr=>.inl hr) ?_ ?_ ?_
 ·intro q d hd;obtain ⟨d',hd',h1,h2⟩:=idx q d hd;exact ⟨h1 (h.own q _ hd'),fun k hk=>⟨(h.ofp q _ hd' k (h2 k hk)).1,.inr ⟨q,_,hd',h2 k hk⟩⟩⟩
 ·intro p q x y hx hy hne k hxk hyk;obtain ⟨x',hx',_,h2⟩:=idx p x hx;obtain ⟨y',hy',_,h3⟩:=idx q y hy
  exact h.dis p q _ _ hx' hy' hne k (h2 k hxk) (h3 k hyk)
 intro r hr q d hd k hrk hdk;obtain ⟨d',hd',_,h2⟩:=idx q d hd
 exact h.sep r hr q _ hd' k hrk (h2 k hdk)
theorem aw.move {w:World}{e i:Nat}{hs:List Hd}{vss:List (List Value)}{g:Hd}{v:List Value}(hl:hs.length=vss.length)(hi:i<vss.length)(h:(aw e (hs++[g]) (vss++[v])).p w):(aw e (hs.set i g) (vss.set i v)).p w:=by
 have gl:(hs++[g])[hs.length]?=some g:=Ob;have vl:(vss++[v])[hs.length]?=some v:=by rw [hl];simp
 have low:∀ {q:Nat} {x:Hd},hs[q]?=some x→(hs++[g])[q]?=some x:=fun {q x} hq=>by
  apply Y 0xb82f
  exact hq
 have lov:∀ {q:Nat} {x:List Value},vss[q]?=some x→(vss++[v])[q]?=some x:=fun {q x} hq=>by
  apply Y 0xb82f
  exact hq
 have src:∀ (q:Nat) (x:Hd),(hs.set i g)[q]?=some x→∃ q',(hs++[g])[q']?=some x∧(q'=hs.length↔q=i)∧(q≠i→q'=q):=by
  intro q x hx;rw [List.getElem?_set] at hx
  by_cases hq:i=q
  ·rw [if_pos hq,if_pos oe] at hx
   injection hx with hx
   subst hx;exact ⟨hs.length,gl,⟨fun _=>hq.symm,fun _=>rfl⟩,fun h=>absurd hq.symm h⟩
  rw [if_neg hq] at hx;have:=(List.getElem?_eq_some_iff.1 hx).1;exact ⟨q,low hx,⟨fun h=>by omega,fun h=>absurd h.symm hq⟩,fun _=>rfl⟩
 refine ⟨by simp [hl],fun q x y hx hy=>?_,fun a b x y hx hy hab=>?_⟩
 ·rw [List.getElem?_set] at hx hy
  by_cases hq:i=q
  ·rw [if_pos hq,if_pos oe] at hx;rw [if_pos hq,if_pos hi] at hy
   injection hx with hx
   injection hy with hy
   subst hx hy
   exact h.2.1 _ _ _ gl vl
  rw [if_neg hq] at hx hy
  exact h.2.1 _ _ _ (low hx) (lov hy)
 obtain ⟨a',ha,ha2,ha3⟩:=src a x hx;obtain ⟨b',hb,hb2,hb3⟩:=src b y hy;refine h.2.2 a' b' x y ha hb (fun e=>?_)
 by_cases h1:a=i
 ·exact hab (h1.trans (hb2.1 (e▸ha2.2 h1)).symm)
 by_cases h2:b=i
 ·exact h1 (ha2.1 (e▸hb2.2 h2))
 rw [ha3 h1,hb3 h2] at e
 exact hab e
theorem lS {e i:Nat}{hs:List Hd}{vss:List (List Value)}{g:Hd}{v:List Value}(k:Nat)(h:(aw e (hs.set i g) (vss.set i v)).fp k):(aw e (hs++[g]) (vss++[v])).fp k:=by
 obtain ⟨q,x,hx,hk⟩:=h;rw [List.getElem?_set] at hx
 by_cases hq:i=q
 ·rw [if_pos hq] at hx
  split at hx
  ·injection hx with hx
   subst hx;exact ⟨hs.length,g,by simp,hk⟩
  cases hx
 rw [if_neg hq] at hx;exact ⟨q,x,by rw [List.getElem?_append_left (List.getElem?_eq_some_iff.1 hx).1];exact hx,hk⟩
theorem Sat.putKid {w:World}(h:Sat β w R H){j q e m c i:Nat}{hs:List Hd}{vss:List (List Value)}{A:Option Addr}{xs:List Value}(hj:H[j]?=some (aw e hs vss))(hq:H[q]?=some (Own e 1 A m c xs))(hi:i<vss.length)(js:List Nat)(hn:(j::q::js).Nodup):
    Sat β w R (aw e (hs.set i (A,c)) (vss.set i xs)::Sl.sel H js):=by
 have hl:=(h.own j _ hj).1
 exact (h.absorb hj hq js hn).repl (aw.move hl hi) (fun k hk=>lS k hk)
theorem L.putKid (j q i:Nat){e m c:Nat}{hs:List Hd}{vss:List (List Value)}{A:Option Addr}{xs:List Value}(hj:H[j]?=some (aw e hs vss))(hq:H[q]?=some (Own e 1 A m c xs))(hi:i<vss.length)(js:List Nat)(hn:(j::q::js).Nodup)
    (h:L X β n ds ops Q rest Γ R (aw e (hs.set i (A,c)) (vss.set i xs)::Sl.sel H js)):L X β n ds ops Q rest Γ R H:=fun a w hf hs'=>h a w hf (hs'.putKid hj hq hi js hn)
end
section
variable {X:Cx}{β:Base}{n:Nat}{ds:List Deferred}{ops:Array Oper}{Q:Exit→Act→World→Prop}{Γ:Env}{R H:List Pr}{rest:List Oper}
theorem CH {d t e ty m:Nat}{pos:String}{af:Array Edge}{x y:Operand}{kl kc:IntKind}{i ei:Ti}(ht:au t X.tab=some i)(hdesc:i.desc=.slice e)(he:au e X.tab=some ei)
    (hx:ev Γ x=some (.int kl 0)) (hy:ev Γ y=some (.int kc (m:Int))) (hb:ei.bytes*m≤281474976710656) (hm:m≤9223372036854775807) (hd:Nat.blt d n=true)
    (k:∀ A,L X β n ds ops Q rest ((d,.slice A 0 m)::Γ) R (H++[Own e ei.size A 0 m []])):L X β n ds ops Q (⟨some d,.makeSlice t x y,ty,pos,af,none⟩::rest) Γ R H:=by
 intro a w hf hs;refine wpList_plain rfl fun K hK=>?_
 apply Y 0x62e;obtain ⟨e1,_⟩:=X.ok _ _ ht;rw [hdesc] at e1;obtain ⟨_,j,hj,h1,h2,h3⟩:=X.ok _ _ he;have hr:=run_make (P:=X.P) w t e j ei.zero e1 hj h3 kl kc 0 (m:Int) (Int.le_refl _) oe (by
  rw [h2];have:((ei.bytes*m:Nat):Int)≤281474976710656:=oe
  rwa [Int.natCast_mul] at this) oe
 have hop:(execOp a.eval ⟨some d,.makeSlice t x y,ty,pos,af,none⟩).run X.P w=.ok (.value (.slice (some ⟨w.heap.size,0,none⟩) 0 m)) (w.alloc (.cells (madeCells ei.zero.cells (m*j.size)) e)):=by
  simp only [Int.toNat_natCast,Int.toNat_zero] at hr
  simp only [execOp,hf.agree _ _ hx,hf.agree _ _ hy,Sem.run_bind,hr,Result.andThen_ok,Sem.run_pure]
 rw [hop];apply Y 0x422f;refine hs.snoc (Stp.alloc w _ fun _=>False) (fun _ h _=>h) _ ⟨by simp,.inr ⟨w.heap.size,m,madeCells ei.zero.cells (m*j.size),rfl,Nat.zero_le _,?_,Nat.zero_le _,by unfold maxLen;omega,?_,by simp⟩⟩ ?_
 ·exact heap_alloc_new w _
 ·simp [madeCells,h1]
 intro k hk;have:=mw hk;subst this;exact Zm 0xdee
theorem CJ {d ty t:Nat}{pos:String}{af:Array Edge}{r:Operand}{as:List Operand}{tys:Array TypeId}{name:String}{v:Value}{args:List Value}{Rf Hf Hr:List Pr}{js js':List Nat}{Φ:Value→List Pr→List Pr→Prop}
    (hm:∃ f,(∀ w,(method (X.P.types.size+Made.depth) t v name).run X.P w=.ok (f,v) w)∧Ctr X f (v::args) Rf Hf Φ)
    (hr:ev Γ r=some (.iface t v)) (ha:evs Γ as=some args) (hj:sel H js=Hf) (hj':sel H js'=Hr) (hn:(js++js').Nodup) (hR:eh R Hr Rf) (hd:Nat.blt d n=true)
    (k:∀ v R' H',Φ v R' H'→L X β n ds ops Q rest ((d,v)::Γ) R (H'++Hr)):L X β n ds ops Q (⟨some d,.call ⟨.invoke r name,List.toArray as,tys⟩,ty,pos,af,none⟩::rest) Γ R H:=by
 obtain ⟨f,h1,h2⟩:=hm
 exact I1 h2 hr h1 ha hj hj' hn hR hd k
end
section
variable {X:Cx}{β:Base}{n:Nat}{ds:List Deferred}{ops:Array Oper}{Q:Exit→Act→World→Prop}{Γ:Env}{R H:List Pr}{rest:List Oper}
theorem sH:∀ (cs:List Value) (k:Nat) (Z:Array Value),k+cs.length≤Z.size→((cs.zipIdx k).foldl (fun (q:Array Value) (x:Value×Nat)=>q.setIfInBounds x.2 x.1) Z).toList=Z.toList.take k++cs++Z.toList.drop (k+cs.length)
  |[],k,Z,_=>by simp
  |c::cs,k,Z,h=>by
    simp only [List.length_cons] at h
    simp only [List.zipIdx_cons,List.foldl_cons]
    rw [sH cs (k+1) (Z.setIfInBounds k c) OO]
    have hk:k<Z.toList.length:=OO
    rw [Array.toList_setIfInBounds,List.take_set,List.drop_set]
    have e1:¬ (k+1+cs.length≤k):=oe
    have e2:(Z.toList.take (k+1)).set k c=Z.toList.take k++[c]:=by
      rw [List.take_succ_eq_append_getElem hk,List.set_append_right _ _ OO]
      have hk2:k<Z.size:=by simpa using hk
      simp [Nat.min_eq_left (Nat.le_of_lt hk2)]
    simp only [e2,List.length_cons]
    rw [show k+(cs.length+1)=k+1+cs.length from by omega]
    simp
    omega
theorem BD (cs:List Value)(Z:Array Value)(h:Z.size=cs.length):(cs.zipIdx).foldl (fun (q:Array Value) (x:Value×Nat)=>q.setIfInBounds x.2 x.1) Z=List.toArray cs:=by
 apply Array.ext';rw [sH cs 0 Z oe]
 simp [← h]
theorem pC {d t e ty:Nat}{pos:String}{af:Array Edge}{x:Operand}{cs:List Value}{i ei:Ti}(ht:au t X.tab=some i)(hdesc:i.desc=.slice e)(he:au e X.tab=some ei)(hsz:ei.size=cs.length)(hpos:0<cs.length)(hsmall:Nat.ble cs.length 1000=true)
    (hx:ev Γ x=some (.agg (List.toArray cs))) (hd:Nat.blt d n=true) (k:∀ A,L X β n ds ops Q rest ((d,.slice A 1 1)::Γ) R (H++[Own e cs.length A 1 1 cs])):L X β n ds ops Q (⟨some d,.buildSlice t 1 #[(0,x)],ty,pos,af,none⟩::rest) Γ R H:=by
 have hsm:cs.length≤1000:=obe;refine L.mk hd e cs.length 1 cs cI Ob (fun A=>.slice A 1 1) ?_ k;intro ρ w hρ hs o ho;obtain ⟨e1,_⟩:=X.ok _ _ ht;rw [hdesc] at e1;apply Y 0xb6e;intro hS;obtain ⟨_,j,hj,h1,h2,h3⟩:=X.ok _ _ he;apply Y 0xdb0f;intro hz;have hbig:¬ (1*cs.length>2^24):=oe;have hz1:¬ (1*cs.length=0):=oe;have hf:Instr.fill (fun i=>some (i*cs.length,cs.length)) ((Array.range (1*cs.length)).map (ei.zero.cells[· %ei.zero.cells.size]!)) [(0,.agg (List.toArray cs))]=some (List.toArray cs):=by
  apply Y 0x861f;intro hsz
  generalize (Array.range (1*cs.length)).map (ei.zero.cells[· %ei.zero.cells.size]!)=Z at hsz;have:=BD cs Z hsz
  simp [Instr.fill,Value.cells,hsz,this]
 apply Y 0x761f;intro hp;apply Y 0xf51f
 simp [newRow]
end
end Go.Sl
