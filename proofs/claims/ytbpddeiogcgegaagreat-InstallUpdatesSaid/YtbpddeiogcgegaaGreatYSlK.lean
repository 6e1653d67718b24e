/-
  Part of a proof.
-/
import Derived.Lib.BytesEntry
import Derived.Laws.StructEq
import Derived.Test.YtbpddeiogcgegaaGreatYSlP
set_option maxHeartbeats 0
set_option maxRecDepth 4000
set_option linter.all false
namespace Go.Sl
section
variable {X:Cx}{β:Base}{n:Nat}{ds:List Deferred}{ops:Array Oper}{Q:Exit→Act→World→Prop}{rest:List Oper}{Γ:Env}{R H:List Pr}
theorem FU {m:Nat}(h:m<9223372036854775808):IntKind.i64.wrap (m:Int)=(m:Int):=oac
theorem CR {t ty:Nat}{x y:Operand}{yk:IntKind}{m k:Nat}(hx:ev Γ x=some (.int .i64 (m:Int)))(hy:ev Γ y=some (.int yk (k:Int)))(hk:k≤64)(hm:m*2^k<9223372036854775808):Ev X β Γ R H (.binOp .shl t x y ty) (.int .i64 ((m*2^k:Nat):Int)):=by
 intro ρ w hρ hw o ho;have hg:(eqGuard .shl t x y (.int .i64 (m:Int)) (.int yk (k:Int))).run X.P w=.ok () w:=qT;apply Y 0x8c0f;intro hb;have e:IntKind.i64.wrap ((m:Int)*2^min (k:Int).toNat 64)=((m*2^k:Nat):Int):=by
  rw [Int.toNat_natCast,Nat.min_eq_left hk,show (m:Int)*2^k=((m*2^k:Nat):Int) by rw [Int.natCast_mul,Int.natCast_pow];rfl,FU hm]
 simp only [execOp,ho,hρ _ _ hx,hρ _ _ hy,Sem.run_bind,hg,Result.andThen_ok,binOp_shl,Op.shift,if_neg hb,Sem.run_pure,IntKind.bits];rw [← e]
theorem CQ {t ty:Nat}{x y:Operand}{yk:IntKind}{m k:Nat}(hx:ev Γ x=some (.int .i64 (m:Int)))(hy:ev Γ y=some (.int yk (k:Int)))(hk:k≤64):Ev X β Γ R H (.binOp .shr t x y ty) (.int .i64 ((m/2^k:Nat):Int)):=by
 intro ρ w hρ hw o ho;have hg:(eqGuard .shr t x y (.int .i64 (m:Int)) (.int yk (k:Int))).run X.P w=.ok () w:=qT;apply Y 0x8c0f;intro hb;have e:(m:Int).fdiv (2^min (k:Int).toNat 64)=((m/2^k:Nat):Int):=by
  rw [Int.toNat_natCast,Nat.min_eq_left hk,Int.fdiv_eq_ediv_of_nonneg _ (Int.pow_nonneg ob),Int.natCast_ediv,Int.natCast_pow]
  rfl
 apply Y 0xda2f;rw [← e]
theorem IJ {a b:Nat}(ha:a<9223372036854775808)(hb:b<9223372036854775808):bop .or .i64 (a:Int) (b:Int)=((a|||b:Nat):Int):=by
 have e:∀ m:Nat,m<9223372036854775808→(BitVec.ofInt 64 (m:Int)).toNat=m:=by
  intro m hm;rw [BitVec.ofInt_natCast,BitVec.toNat_ofNat]
  omega
 have e2:(BitVec.ofInt 64 (a:Int)|||BitVec.ofInt 64 (b:Int)).toNat=a|||b:=by rw [BitVec.toNat_or,e a ha,e b hb]
 show IntKind.i64.wrap ((BitVec.ofInt 64 (a:Int)|||BitVec.ofInt 64 (b:Int)).toNat:Int)=_;rw [e2]
 exact FU (Nat.or_lt_two_pow (n:=63) oe oe)
theorem Mq {t ty:Nat}{x y:Operand}{a b:Nat}(hx:ev Γ x=some (.int .i64 (a:Int)))(hy:ev Γ y=some (.int .i64 (b:Int)))(ha:a<9223372036854775808)(hb:b<9223372036854775808):Ev X β Γ R H (.binOp .or t x y ty) (.int .i64 ((a|||b:Nat):Int)):=
  (Ev.pure (v:=.int .i64 (bop .or .i64 (a:Int) (b:Int))) qA).cast (by rw [IJ ha hb])
theorem HI {a b:Nat}(hb:b<256):(a*2^8)|||b=a*256+b:=by
 rw [show a*2^8=2^8*a from Nat.mul_comm ..,← Nat.two_pow_add_eq_or_of_lt oe]
theorem FR {t ty:Nat}{x y:Operand}{a b:Nat}(hx:ev Γ x=some (.int .i64 ((a*2^8:Nat):Int)))(hy:ev Γ y=some (.int .i64 (b:Int)))(ha:a<4294967296)(hb:b<256):Ev X β Γ R H (.binOp .or t x y ty) (.int .i64 ((a*256+b:Nat):Int)):=
  (Mq hx hy oe oe).cast (by rw [HI hb])
theorem Ep (b:UInt8):(~~~b).toNat=255-b.toNat:=by rw [UInt8.toNat_not];rfl
theorem CU {t:Nat}{x:Operand}{b:UInt8}(hx:ev Γ x=some (.int .u8 (b.toNat:Int))):Ev X β Γ R H (.unOp .xor t x) (.int .u8 ((~~~b).toNat:Int)):=by
 intro ρ w hρ hw o ho;have e:(Op.unary .xor (.int .u8 (b.toNat:Int))).run X.P w=.ok (.int .u8 (bop .xor .u8 (((255:UInt8).toNat:Nat):Int) (b.toNat:Int))) w:=rfl;rw [wZ] at e;have e2:(255:UInt8)^^^b= ~~~b:=by
  apply UInt8.eq_of_toBitVec_eq;rw [UInt8.toBitVec_xor,UInt8.toBitVec_not]
  show BitVec.allOnes 8^^^b.toBitVec=_;rw [BitVec.allOnes_xor]
 rw [e2] at e
 simp [execOp,ho,hρ _ _ hx,e]
theorem CP {t ty:Nat}{y:Operand}{b:UInt8}(hy:ev Γ y=some (.int .u8 (b.toNat:Int))):Ev X β Γ R H (.binOp .sub t (.const (.int .u8 255)) y ty) (.int .u8 ((~~~b).toNat:Int)):=
  (Ev.pure (v:=.int .u8 (IntKind.u8.wrap (255-(b.toNat:Int)))) (by have h0:ev Γ (.const (.int .u8 255))=some (.int .u8 255):=rfl;simp [pev,hy,h0,Jd])).cast (by
    have:=UInt8.toNat_lt b
    rw [tA,Ep]
    congr 1
    omega)
theorem xK (m:Nat):UInt8.ofInt (m:Int)=UInt8.ofNat m:=by
 apply UInt8.toNat_inj.1;apply Y 0x740f
 omega
theorem mV {s d:Nat}{x:Operand}{k:IntKind}{m:Nat}{i j:Ti}(hs:au s X.tab=some i)(hd:au d X.tab=some j)(hj:j.desc=.int .u8)(hx:ev Γ x=some (.int k (m:Int))):
    Ev X β Γ R H (.convert s d x) (.int .u8 ((UInt8.ofNat m).toNat:Int)):=(lV hs hd hj hx).cast (by rw [xK])
def Bh (T:List (Nat×Ti)):Nat→List Field→Bool
  |_,[]=>true
  |k,f::fs=>f.offset==k&&f.name != "_"&&(match au f.type T with|some i=>(match i.desc with| .int .i64=>true|_=>false)|none=>false)&&Bh T (k+1) fs
theorem ml {w:World}{xs ys:List Int}(d:Nat):∀ (fs:List Field) (k:Nat),Bh X.tab k fs=true→xs.length=k+fs.length→ys.length=k+fs.length→
    (Op.eqFields (d+1) (List.toArray (I64 xs)) (List.toArray (I64 ys)) fs).run X.P w=.ok (xs.drop k==ys.drop k) w
  |[],k,_,h1,h2=>by
    rw [List.drop_eq_nil_of_le (by simp at h1;omega),List.drop_eq_nil_of_le (by simp at h2;omega)]
    rfl
  |f::fs,k,h,h1,h2=>by
    simp only [Bh,Bool.and_eq_true,beq_iff_eq,bne_iff_ne,ne_eq] at h
    obtain ⟨⟨⟨hk,hn⟩,ht⟩,hfs⟩:=h
    simp only [List.length_cons] at h1 h2
    split at ht
    · rename_i i hi
      split at ht
      · rename_i hdesc
        have hx:=nq (P:=X.P) w (X.ok _ _ hi) (List.toArray (I64 xs)) f.offset (.int .i64 (xs.getD k 0)) QT
        have hy:=nq (P:=X.P) w (X.ok _ _ hi) (List.toArray (I64 ys)) f.offset (.int .i64 (ys.getD k 0)) QT
        have hu:=(X.ok _ _ hi).und
        rw [hdesc] at hu
        have ih:=ml d fs (k+1) hfs oe oe (w:=w) (xs:=xs) (ys:=ys)
        have e1:xs.drop k=xs.getD k 0::xs.drop (k+1):=by rw [List.drop_eq_getElem_cons oe];simp [List.getD_eq_getElem?_getD,List.getElem?_eq_getElem (show k<xs.length by omega)]
        have e2:ys.drop k=ys.getD k 0::ys.drop (k+1):=by rw [List.drop_eq_getElem_cons oe];simp [List.getD_eq_getElem?_getD,List.getElem?_eq_getElem (show k<ys.length by omega)]
        rw [e1,e2]
        simp only [Op.eqFields,ne_eq,hn,not_false_eq_true,if_true,Sem.run_bind,hx,hy,Result.andThen_ok,run_equalIn_int w d f.type .i64 .i64 _ _ hu]
        cases hb:(xs.getD k 0==ys.getD k 0)
        · simp only [Bool.not_false,if_true,Sem.run_pure,List.cons_beq_cons,hb,Bool.false_and]
        · simp only [Bool.not_true,Bool.false_eq_true,if_false,ih,List.cons_beq_cons,hb,Bool.true_and]
      · cases ht
    · cases ht
theorem Ms {t ty:Nat}{x y:Operand}{xs ys:List Int}{i:Ti}{fs:List Field}(ht:au t X.tab=some i)(hd:i.desc=.struct (List.toArray fs))(hp:X.P.stoodInHeld t=false)(hm:X.P.eqGuardType X.P.depth t=false)(hf:Bh X.tab 0 fs=true)
    (hx:ev Γ x=some (.agg (List.toArray (I64 xs)))) (hy:ev Γ y=some (.agg (List.toArray (I64 ys)))) (h1:xs.length=fs.length) (h2:ys.length=fs.length):Ev X β Γ R H (.binOp .eql t x y ty) (.bool (xs==ys)):=by
 intro ρ w hρ hw o ho;apply Y 0x35e;intro hu;rw [hd] at hu;have hF:X.P.fieldsOf t=List.toArray fs:=by unfold Program.fieldsOf;rw [hu]
 have hq:(Op.equalIn 10000 t (.agg (List.toArray (I64 xs))) (.agg (List.toArray (I64 ys)))).run X.P w=.ok (xs==ys) w:=by
  rw [run_equalIn_struct w 9999 t _ _ (by rw [hF];exact hu) hp,hF]
  simpa using ml (X:=X) (w:=w) (xs:=xs) (ys:=ys) 9998 fs 0 hf oe oe
 have hg:=run_eqGuard_agg (P:=X.P) w .eql t x y (List.toArray (I64 xs)) (List.toArray (I64 ys)) hm;have hb:=run_eql_struct (P:=X.P) w t (List.toArray (I64 xs)) (List.toArray (I64 ys));rw [hq] at hb;exact Zm 0x840f
def st9 (s:List Int):List Value:=[.int .i64 (s.getD 0 0),.int .i64 (s.getD 1 0),.int .i64 (s.getD 2 0),.int .i64 (s.getD 3 0),.int .i64 (s.getD 4 0),.int .i64 (s.getD 5 0),.int .i64 (s.getD 6 0),.int .i64 (s.getD 7 0),.int .i64 (s.getD 8 0)]
theorem vg {s:List Int}(h:s.length=9):I64 s=st9 s:=by
 match s,h with
 |[_,_,_,_,_,_,_,_,_],_=>rfl
theorem I6 {t ty:Nat}{x y:Operand}{xs ys:List Int}{i:Ti}{fs:List Field}(ht:au t X.tab=some i)(hd:i.desc=.struct (List.toArray fs))(hp:X.P.stoodInHeld t=false)(hm:X.P.eqGuardType X.P.depth t=false)(hf:Bh X.tab 0 fs=true)(h9:fs.length=9)
    (hx:ev Γ x=some (.agg (List.toArray (st9 xs)))) (hy:ev Γ y=some (.agg (List.toArray (st9 ys)))) (h1:xs.length=9) (h2:ys.length=9):Ev X β Γ R H (.binOp .eql t x y ty) (.bool (xs==ys)):=by
 rw [← vg h1] at hx;rw [← vg h2] at hy
 exact Ms ht hd hp hm hf hx hy oe oe
theorem x8 (l:List UInt8):Lib.bytesOf (l.map fun u=>(u.toNat:Int))=l:=by
 unfold Lib.bytesOf;rw [List.map_map]
 conv=>rhs;rw [← List.map_id l]
 refine List.map_congr_left fun u _=>?_
 simp
theorem xC {P:Program}(w:World)(A:Option Addr)(c:Nat)(xs:List UInt8)(b:UInt8)(hr:∀ (j:Nat) u,(U8 xs)[j]?=some u→∃ a,A=some a∧w.cell? (a.add j)=some u):
    (Extern.BytealgCount.count #[.slice A xs.length c,.int .u8 (b.toNat:Int)]).run P w=.ok (.int .i64 ((xs.count b:Nat):Int)) w:=by
 have hs:=Lib.run_countString (P:=P) ⟨xs.toArray⟩ (b.toNat:Int) w;have e1:((b.toNat:Int).toNat.toUInt8)=b:=Ob;rw [e1] at hs;have hb:(Extern.Bytes.bytesOf (.slice A xs.length c)).run P w=.ok ⟨xs.toArray⟩ w:=by
  cases A with
  |none=>
   have h0:xs=[]:=by
    cases xs with
    |nil=>rfl
    |cons u us=>
     obtain ⟨a,ha,_⟩:=hr 0 (.int .u8 (u.toNat:Int)) rfl
     cases ha
   subst h0
   rfl
  |some a=>
   have hl:=Lib.run_loadBytesX (P:=P) w (xs.map fun u=>(u.toNat:Int)) a .empty (fun j x hj=>by
    have hj':(U8 xs)[j]?=some (.int .u8 x):=by
     rw [List.getElem?_map] at hj
     cases hx:xs[j]? with
     |none=>rw [hx] at hj;cases hj
     |some u=>
      rw [hx] at hj
      injection hj with hj
      subst hj
      simp [U8,hx]
    obtain ⟨a',ha,h⟩:=hr j _ hj'
    cases ha
    exact h)
   rw [List.length_map,x8] at hl
   show (Extern.Bytes.loadBytes a xs.length .empty).run P w=_;rw [hl]
   congr 1
   apply ByteArray.ext
   show (#[]:Array UInt8)++xs.toArray=xs.toArray
   simp
 change Sem.run P (do
  let q ← Extern.Bytes.bytesOf (.slice A xs.length c)
  let c' ← Extern.Bytes.asByte (.int .u8 (b.toNat:Int))
  pure (goInt (q.foldl (fun n x=>if x==c' then n+1 else n) (0:Nat)))) w=_
 change Sem.run P (do
  let q ← Extern.Bytes.bytesOf (.string ⟨xs.toArray⟩)
  let c' ← Extern.Bytes.asByte (.int .u8 (b.toNat:Int))
  pure (goInt (q.foldl (fun n x=>if x==c' then n+1 else n) (0:Nat)))) w=_ at hs
 have hb2:(Extern.Bytes.bytesOf (.string ⟨xs.toArray⟩)).run P w=.ok ⟨xs.toArray⟩ w:=rfl;rw [Sem.run_bind,hb2,Result.andThen_ok] at hs;rw [Sem.run_bind,hb,Result.andThen_ok]
 exact hs
theorem EU {f:Nat}{fn:Func}{tys:Array TypeId}{as:List Operand}{args:List Value}{o:Oper}{ρ:Operand→Value}{w w':World}{v:Value}{e:Array Value→Sem Value}(hf:X.P.funcs[f]?=some fn)(hname:(fn.name== "runtime.NumGoroutine")=false)(hb:fn.body.isNone=true)
    (hn:Extern.findNext fn=none) (hex:Extern.find fn=some e) (hρ:∀ x u,ev Γ x=some u→ρ x=u) (ha:evs Γ as=some args) (hr:(e (List.toArray args)).run X.P w=.ok v w') (ho:o.op=.call ⟨.value (.func f),List.toArray as,tys⟩):
    (execOp ρ o).run X.P w=.ok (.value v) w':=by
 have hfv:=hρ (.func f) (.func (.func f) #[] #[]) rfl;apply Y 0x1d0f;intro e1;apply Y 0xab0f;intro e2;have hc:=run_callFunc_extern hf hname hb hn hex (List.toArray args) w;rw [hr] at hc
 simp only [execOp,ho,resolve,hfv,Deferred.ofValue,invoke,Sem.run_bind,Sem.run_pure,Result.andThen_ok,e2]
 simpa using hc
theorem CT {f c:Nat}{x y:Operand}{fn:Func}{tys:Array TypeId}{A:Option Addr}{xs:List UInt8}{b:UInt8}(hf:X.P.funcs[f]?=some fn)(hname:(fn.name== "runtime.NumGoroutine")=false)(hb:fn.body.isNone=true)(hn:Extern.findNext fn=none)
    (hex:Extern.find fn=some Extern.BytealgCount.count) (hx:ev Γ x=some (.slice A xs.length c)) (hr:Src R H A (U8 xs)) (hy:ev Γ y=some (.int .u8 (b.toNat:Int))):Ev X β Γ R H (.call ⟨.value (.func f),#[x,y],tys⟩) (.int .i64 ((xs.count b:Nat):Int)):=by
 intro ρ w hρ hw o ho
 exact EU hf hname hb hn hex hρ (as:=[x,y]) (by simp [evs,hx,hy]) (xC w A c xs b (hr β w hw)) ho
theorem Mj {d t e ty m sz:Nat}{pos:String}{af:Array Edge}{parts:Array (Nat×Operand)}{vs:List (Nat×Value)}{cs:List Value}{i ei:Ti}(ht:au t X.tab=some i)(hdesc:i.desc=.slice e)(he:au e X.tab=some ei)(hsz:ei.size=sz)(hx:evp Γ parts.toList=some vs)
    (hs:py (fun i=>some (i*sz,sz)) ((List.range (m*sz)).map fun i=>ei.zero.cells[i%ei.zero.cells.size]!) vs=some cs) (hl:cs.length=m*sz) (hpos:Nat.blt 0 (m*sz)=true) (hsmall:Nat.ble (m*sz) 1000=true) (hm:Nat.ble m 1000=true) (hd:Nat.blt d n=true)
    (k:∀ A,L X β n ds ops Q rest ((d,.slice A m m)::Γ) R (H++[Own e sz A m m cs])):L X β n ds ops Q (⟨some d,.buildSlice t m parts,ty,pos,af,none⟩::rest) Γ R H:=by
 have hm':m≤1000:=by simpa using hm
 have hsm:m*sz≤1000:=obe;have hps:0<m*sz:=by simpa using hpos
 refine L.mk hd e sz m cs qX hl (fun A=>.slice A m m) ?_ k;intro ρ w hρ _ o ho;obtain ⟨e1,_⟩:=X.ok _ _ ht;rw [hdesc] at e1;apply Y 0xb6e;intro hS;obtain ⟨_,j,hj,q1,q2,q3⟩:=X.ok _ _ he;have hz:(zeroValue e).run X.P w=.ok ei.zero w:=by simp [zeroValue,typeInfo,hj,q3]
 have hbig:¬ (m*sz>2^24):=oe;have hz1:¬ (m*sz=0):=oe;have hf:Instr.fill (fun i=>some (i*sz,sz)) ((Array.range (m*sz)).map (ei.zero.cells[· %ei.zero.cells.size]!)) (vs.toArray.toList)=some (List.toArray cs):=by
  have e:(Array.range (m*sz)).map (ei.zero.cells[· %ei.zero.cells.size]!)=List.toArray ((List.range (m*sz)).map fun i=>ei.zero.cells[i%ei.zero.cells.size]!):=by
   apply Array.ext'
   simp
  rw [e]
  exact iz _ _ _ hs
 have hp:(parts.map fun (i,x)=>(i,ρ x))=List.toArray vs:=by
  apply Array.ext';rw [Array.toList_map]
  exact n5 hρ hx
 apply Y 0xf51f
 simp [newRow]
theorem FM {d ty:Nat}{pos:String}{af:Array Edge}{f:Nat}{g:Operand}{as:List Operand}{tys:Array TypeId}{args all:List Value}{first cap:Array Value}{Rf Hf Hr:List Pr}{js js':List Nat}{ch:List PanicEntry}{Φ:Value→List Pr→List Pr→Prop}{Ψ:List Pr→List Pr→Prop}
    (hfn:dU X f all Rf Hf (b5 ch Φ Ψ)) (hg:ev Γ g=some (.func (.func f) first cap)) (ha:evs Γ as=some args) (hall:first.toList++args++cap.toList=all) (hj:sel H js=Hf) (hj':sel H js'=Hr) (hn:(js++js').Nodup) (hR:eh R Hr Rf) (hd:Nat.blt d n=true)
    (k:∀ v R' H',Φ v R' H'→L X β n ds ops Q rest ((d,v)::Γ) R (H'++Hr)) (kp:∀ R' H',Ψ R' H'→QE β n ds Q (.panic ch) Γ R (H'++Hr)):
    L X β n ds ops Q (⟨some d,.call ⟨.value g,List.toArray as,tys⟩,ty,pos,af,none⟩::rest) Γ R H:=by
 intro a w hf hs;refine wpList_plain rfl fun K hK=>?_
 apply Y 0x460f320f751f62e;intro e w' R' H' hΦ hs'
 cases e with
 |returned v=>exact hK _ _ (k v R' H' hΦ _ _ (hf.put oP v) hs')
 |panicked c=>
  obtain ⟨rfl,hΨ⟩:=hΦ;exact Zm 0x960f
 |outgrown=>exact hΦ.elim
theorem nU {s:Nat}{v:Value}:∀ {Γ:Env},look s Γ=some v→(s,v)∈Γ
  |[],h=>by cases h
  |(t,u)::Γ,h=>by
    unfold look at h
    cases hs:Nat.beq s t with
    |true=>
      rw [hs] at h
      injection h with h
      subst h
      have:=Nat.eq_of_beq_eq_true hs
      subst this
      exact List.mem_cons_self ..
    |false=>
      rw [hs] at h
      exact List.mem_cons_of_mem _ (nU h)
theorem Mp {T:Array Value}{i j k:Nat}{x y z:Value}(hs:T.size=n)(h1:T[i]?=some x)(h2:T[j]?=some y)(h3:T[k]?=some z):Fr n [] { tmps:=T,defers:=[] } [(i,x),(j,y),(k,z)]:=by
 refine ⟨hs,rfl,fun s v h=>?_⟩;have:=nU h
 simp only [List.mem_cons,Prod.mk.injEq,List.not_mem_nil,or_false] at this
 rcases this with ⟨rfl,rfl⟩|⟨rfl,rfl⟩|⟨rfl,rfl⟩<;>assumption
def dfc (f:FuncId)(p:Value):Deferred:={ target:=.fn (.func f) #[p],args:=#[] }
structure RecC (P:Program)(f:FuncId)(e:TypeId)(v:Value):Prop where
  fn:∀ p w,(invoke (.fn (.func f) #[p]) #[]).run P w=.ok (.enter f #[p]) w
  idle:∀ p w,CallsD P f #[p] .returning w fun e u' w'=>e=.returned (.tuple #[])∧u'=.returning∧Stp w w' (fun _=>False)
  caught:∀ A w,(Own e 1 A 1 1 [.bool false]).p w→CallsD P f #[ag A 0] (.panicking [{ v:=v,recovered:=false }]) w fun e u' w'=>e=.returned (.tuple #[])∧u'=.panicking [{ v:=v,recovered:=true }]∧Stp w w' (fun _=>False)
theorem IV {fn:Func}{f:FuncId}{e:TypeId}{pv p:Value}{Φ:Value→List Pr→List Pr→Prop}{rs:List ResultVar}{vs:List Value}{js hs:List Nat}(hrec:RecC X.P f e pv)(hrs:fn.results=List.toArray rs)(hr:xf X Γ R H rs vs)(hn:hs.Nodup)
    (hΦ:Φ (tup vs) (sel R js) (sel H hs)):QE β n [dfc f p] (rQ X β fn Φ) .ret Γ R H:=by
 intro a w hf hsat;apply Y 0xfa0f;rw [hf.dfs];refine ⟨by simp,.func f,#[p],f,#[p],rfl,hrec.fn p w,?_⟩;intro c cs hc;obtain ⟨e,u',w',fr,⟨rfl,rfl,hst⟩,r⟩:=hrec.idle p w c cs hc;replace hsat:=hsat.same hst;exact Zm 0x8e0f
theorem IX {fn:Func}{f:FuncId}{e:TypeId}{pv:Value}{A:Option Addr}{Φ:Value→List Pr→List Pr→Prop}{rs:List ResultVar}{vs:List Value}{js hs:List Nat}(j:Nat)(hj:H[j]?=some (Own e 1 A 1 1 [.bool false]))(hrec:RecC X.P f e pv)(hrs:fn.results=List.toArray rs)
    (hr:xf X Γ R H rs vs) (hn:hs.Nodup) (hΦ:Φ (tup vs) (sel R js) (sel H hs)):QE β n [dfc f (ag A 0)] (rQ X β fn Φ) (.panic [{ v:=pv,recovered:=false }]) Γ R H:=by
 intro a w hf hsat;apply Y 0xa51f;rw [hf.dfs];refine ⟨by simp,.func f,#[ag A 0],f,#[ag A 0],rfl,hrec.fn _ w,?_⟩;intro c cs hc;obtain ⟨e,u',w',fr,⟨rfl,rfl,hst⟩,r⟩:=hrec.caught A w (hsat.own j _ hj) c cs hc;replace hsat:=hsat.same hst;exact Zm 0x7e0f
theorem FL {ty f:Nat}{pos:String}{af:Array Edge}{tys:Array TypeId}{x:Operand}{p:Value}{rest:List Oper}(hx:ev Γ x=some (.func (.func f) #[] #[p]))(h:L X β n (dfc f p::ds) ops Q rest Γ R H):L X β n ds ops Q (⟨none,.defer ⟨.value x,#[],tys⟩,ty,pos,af,none⟩::rest) Γ R H:=by
 intro a w hf hs;refine wpList_plain rfl fun K hK=>?_
 apply Y 0x62e;have e:(execOp a.eval ⟨none,.defer ⟨.value x,#[],tys⟩,ty,pos,af,none⟩).run X.P w=.ok (.defer (dfc f p)) w:=by
  simp [execOp,resolve,hf.agree x _ hx,Deferred.ofValue,dfc]
 rw [e];refine hK _ _ (h _ _ ?_ hs);exact Zm 0xbe0f
theorem FA {x:Exit}(j:Nat){e sz m cc:Nat}{A:Option Addr}{xs:List Value}(hj:H[j]?=some (Own e sz A m cc xs))(h:(0<xs.length→A.isSome=true)→QE β n ds Q x Γ R H):QE β n ds Q x Γ R H:=by
 intro a w hf hs;refine h (fun hp=>?_) a w hf hs;obtain ⟨g,_,rfl,_⟩:=cR (hs.own j _ hj) hp
 rfl
theorem Sat.kcaps {w:World}(h:Sat β w R H){j e:Nat}{hs:List Hd}{ls:List (List UInt8)}(hj:H[j]?=some (aw e hs (B8 ls))):∀ i,i<ls.length→(ls.getD i []).length≤(hs.getD i (none,0)).2:=by
 intro i hi;have hp:=h.own j _ hj;have hl:hs.length=ls.length:=by have:=hp.1;rwa [b6] at this
 have:=(Own.cap (hp.2.1 i (hs.getD i (none,0)) ((B8 ls).getD i []) (getD_some oe) (getD_some obF))).1
 rwa [bB,aH] at this
theorem L.kcaps (j:Nat){e:Nat}{hs:List Hd}{ls:List (List UInt8)}(hj:H[j]?=some (aw e hs (B8 ls)))(k:(∀ i,i<ls.length→(ls.getD i []).length≤(hs.getD i (none,0)).2)→L X β n ds ops Q rest Γ R H):L X β n ds ops Q rest Γ R H:=fun a w hf hs'=>k (hs'.kcaps hj) a w hf hs'
theorem GN {t s:Nat}{x:Operand}{v:Value}{i:Ti}(ht:au t X.tab=some i)(hd:ui i.desc=false)(hx:ev Γ x=some (.iface t v)):Ev X β Γ R H (.typeAssert x s t true) (.tuple #[v,.bool true]):=by
 intro ρ w hρ hw o ho;apply Y 0x35e;intro hu
 cases hdesc:i.desc<;>rw [hdesc] at hd hu<;>first|(cases hd;done)|simp [execOp,ho,hρ _ _ hx,Instr.typeAssert,run_underlying hu]
theorem FI {t ty k j e m:Nat}{pos:String}{af:Array Edge}{x y:Operand}{i:Ti}{A:Option Addr}(ht:au t X.tab=some i)(hz:i.size=0)(hx:ev Γ x=some (ag A k))(hy:ev Γ y=some (.agg #[]))(hj:H[j]?=some (Own e 0 A (m+1) (m+1) []))(hh:L X β n ds ops Q rest Γ R H):
    L X β n ds ops Q (⟨none,.store t x y,ty,pos,af,none⟩::rest) Γ R H:=by
 intro a w hf hs;refine wpList_plain rfl fun K hK=>?_
 have hown:=hs.own j _ hj;have hA:∃ g,A=some ⟨g,0,none⟩:=by
  rcases hown.2 with ⟨h,_⟩|⟨g,_,_,hv,_⟩
  ·injection h with _ h2;omega
  injection hv with h7;exact ⟨g,h7⟩
 obtain ⟨g,rfl⟩:=hA;have hx':a.eval x=.pointer (some ⟨g,k,none⟩):=q9;apply Y 0x4ee;intro hS;apply Y 0x62e;have hrun:(execOp a.eval ⟨none,.store t x y,ty,pos,af,none⟩).run X.P w=.ok .skip w:=by
  simp [execOp,hx',hf.eval hy,Instr.storeAt,Instr.sureAddr,storeVar,Value.cells,hS,hz,storeCells]
 rw [hrun]
 exact hK _ _ (hh _ _ (hf.put_none _) hs)
end
section
variable {X:Cx}{β:Base}{n:Nat}{ds:List Deferred}{ops:Array Oper}{Q:Exit→Act→World→Prop}{rest:List Oper}{Γ:Env}{R H:List Pr}
theorem DI {w w':World}{js js':List Nat}{Hf Hr H':List Pr}(hj:sel H js=Hf)(hj':sel H js'=Hr)(hn:(js++js').Nodup)(hs:Sat β w R H)(hs':Sat (bT w [] Hf) w' [] H'):Sat β w' R (H'++Hr):=by
 subst hj hj';have nj:=(List.nodup_append.1 hn).1;have nj':=(List.nodup_append.1 hn).2.1;apply Y 0x7a1f;intro njj;have hx:∀ c∈sel H js,∀ d∈sel H js',∀ k,c.fp k→¬ d.fp k:=by
  intro c hc d hd k hk hk';obtain ⟨p,hp,hpc⟩:=aD hc;apply Y 0xfd0f;intro q hq hqd
  exact hs.dis p q c d hpc hqd (njj p hp q hq) k hk hk'
 have hsr:Sat β w R (sel H js'):=hs.sel nj';have hsf:Sat β w R (sel H js):=hs.sel nj;apply Y 0xe71f;intro hst;have hmt:∀ k,(∃ (i:Nat) (c:Pr),(sel H js)[i]?=some c∧c.fp k)→∃ (i:Nat) (c:Pr),H[i]?=some c∧c.fp k:=by
  apply Y 0x560f;intro k i c hc hk;obtain ⟨p,_,hp⟩:=aD (List.mem_of_getElem? hc);exact ⟨p,c,hp,hk⟩
 have hget:∀ (i:Nat) (c:Pr),(H'++sel H js')[i]?=some c→(i<H'.length∧H'[i]?=some c)∨(H'.length≤i∧(sel H js')[i-H'.length]?=some c):=by
  intro i c hc;rw [List.getElem?_append] at hc
  split at hc
  ·rename_i hlt
   exact .inl ⟨hlt,hc⟩
  rename_i hge
  exact .inr ⟨by omega,hc⟩
 have cross:∀ (i:Nat) (c:Pr),H'[i]?=some c→∀ (j:Nat) (d:Pr),(sel H js')[j]?=some d→∀ k,c.fp k→¬ d.fp k:=by
  intro i c hc j d hd k hk hk';have hlt:=(hsr.ofp j d hd k hk').1
  rcases (hs'.ofp i c hc k hk).2 with y|⟨p,x,hx1,hx2⟩
  ·have y':w.heap.size≤k:=y
   omega
  exact Zm 0x7d1f
 refine hs.put hst (fun k hk _=>hmt k hk) R (H'++sel H js') (fun r hr=>.inl hr) ?_ ?_ ?_
 ·intro i c hc
  rcases hget i c hc with ⟨_,hc⟩|⟨_,hc⟩
  ·refine ⟨hs'.own i c hc,fun k hk=>⟨(hs'.ofp i c hc k hk).1,?_⟩⟩
   rcases (hs'.ofp i c hc k hk).2 with y|y
   ·exact .inl y
   exact .inr (hmt k y)
  refine ⟨c.st w w' (fun k hk=>hst.block k (hsr.ofp _ c hc k hk).1 ?_) (hsr.own _ c hc),fun k hk=>⟨Nat.lt_of_lt_of_le (hsr.ofp _ c hc k hk).1 hst.size,.inr ?_⟩⟩
  ·rintro ⟨p,x,hx1,hx2⟩;exact Zm 0x6d1f
  obtain ⟨q,_,hq⟩:=aD (List.mem_of_getElem? hc);exact ⟨q,c,hq,hk⟩
 ·intro i j c d hc hd hne k hk hk'
  rcases hget i c hc with ⟨_,hc⟩|⟨hi,hc⟩<;>rcases hget j d hd with ⟨_,hd⟩|⟨hj,hd⟩
  ·exact hs'.dis i j c d hc hd hne k hk hk'
  ·exact cross i c hc _ d hd k hk hk'
  ·exact cross j d hd _ c hc k hk' hk
  exact hsr.dis _ _ c d hc hd oe k hk hk'
 intro r hr j c hc k hk hk'
 rcases hget j c hc with ⟨_,hc⟩|⟨_,hc⟩
 ·have hlt:=(hs.rfp r hr k hk).1
  rcases (hs'.ofp j c hc k hk').2 with y|⟨p,x,hx1,hx2⟩
  ·have y':w.heap.size≤k:=y
   omega
  obtain ⟨q,_,hq⟩:=aD (List.mem_of_getElem? hx1)
  exact hs.sep r hr q x hq k hk hx2
 exact hsr.sep r hr _ c hc k hk hk'
theorem zy {w:World}{js:List Nat}{Hf:List Pr}(hj:sel H js=Hf)(hn:js.Nodup)(hs:Sat β w R H):Sat (bT w [] Hf) w [] Hf:=by
 subst hj;have hsf:Sat β w R (sel H js):=hs.sel hn;exact ⟨⟨rfl,rfl,rfl,Nat.le_refl _,fun _ _ _=>rfl⟩,(fun r hr=>by cases hr),(fun r hr=>by cases hr),hsf.own,fun i c hc k hk=>⟨(hsf.ofp i c hc k hk).1,.inr ⟨i,c,hc,hk⟩⟩,hsf.dis,(fun r hr=>by cases hr)⟩
def dfw (f:FuncId)(ps:Array Value):Deferred:={ target:=.fn (.func f) ps,args:=#[] }
structure RecW (P:Program)(f:FuncId)(ps:Array Value)(v:Value)(H0 H1:List Pr):Prop where
  fn:∀ w,(invoke (.fn (.func f) ps) #[]).run P w=.ok (.enter f ps) w
  idle:∀ w,CallsD P f ps .returning w fun e u' w'=>e=.returned (.tuple #[])∧u'=.returning∧Stp w w' (fun _=>False)
  caught:∀ w,Sat (bT w [] H0) w [] H0→CallsD P f ps (.panicking [{ v:=v,recovered:=false }]) w fun e u' w'=>e=.returned (.tuple #[])∧u'=.panicking [{ v:=v,recovered:=true }]∧Sat (bT w [] H0) w' [] H1
theorem FC {fn:Func}{Φ:Value→List Pr→List Pr→Prop}{rs:List ResultVar}{vs:List Value}{js hs:List Nat}(hrs:fn.results=List.toArray rs)(hr:xf X Γ R H rs vs)(hn:hs.Nodup)
    (hΦ:Φ (tup vs) (sel R js) (sel H hs)):QE β n [] (rQ X β fn Φ) .ret Γ R H:=by
 intro a w hf hsat;apply Y 0xfa0f;rw [hf.dfs];exact ⟨tup vs,dH hrs hf hsat hr,tup vs,_,_,hΦ,rfl,(hsat.selR js).sel hn⟩
theorem CD {fn:Func}{f:FuncId}{ps:Array Value}{pv:Value}{H0 H1:List Pr}{Φ:Value→List Pr→List Pr→Prop}{rs:List ResultVar}{vs:List Value}{js hs:List Nat}(hrec:RecW X.P f ps pv H0 H1)(hrs:fn.results=List.toArray rs)(hr:xf X Γ R H rs vs)(hn:hs.Nodup)
    (hΦ:Φ (tup vs) (sel R js) (sel H hs)):QE β n [dfw f ps] (rQ X β fn Φ) .ret Γ R H:=by
 intro a w hf hsat;apply Y 0xfa0f;rw [hf.dfs];refine ⟨by simp,.func f,ps,f,ps,rfl,hrec.fn w,?_⟩;intro c cs hc;obtain ⟨e,u',w',fr,⟨rfl,rfl,hst⟩,r⟩:=hrec.idle w c cs hc;replace hsat:=hsat.same hst;exact Zm 0x8e0f
theorem IW {fn:Func}{f:FuncId}{ps:Array Value}{pv:Value}{H0 H1 Hr:List Pr}{Φ:Value→List Pr→List Pr→Prop}{rs:List ResultVar}{vs:List Value}{js hs j0 j1:List Nat}(hrec:RecW X.P f ps pv H0 H1)(hj:sel H j0=H0)(hj':sel H j1=Hr)(hn0:(j0++j1).Nodup)
    (hrs:fn.results=List.toArray rs) (hr:xf X Γ R (H1++Hr) rs vs) (hn:hs.Nodup) (hΦ:Φ (tup vs) (sel R js) (sel (H1++Hr) hs)):QE β n [dfw f ps] (rQ X β fn Φ) (.panic [{ v:=pv,recovered:=false }]) Γ R H:=by
 intro a w hf hsat;apply Y 0xa51f;rw [hf.dfs];refine ⟨by simp,.func f,ps,f,ps,rfl,hrec.fn _,?_⟩;intro c cs hc;obtain ⟨e,u',w',fr,⟨rfl,rfl,hst⟩,r⟩:=hrec.caught w (zy hj (List.nodup_append.1 hn0).1 hsat) c cs hc;replace hsat:=DI hj hj' hn0 hsat hst;exact Zm 0x7e0f
theorem FK {ty f:Nat}{pos:String}{af:Array Edge}{tys:Array TypeId}{x:Operand}{ps:Array Value}{rest:List Oper}(hx:ev Γ x=some (.func (.func f) #[] ps))(h:L X β n (dfw f ps::ds) ops Q rest Γ R H):L X β n ds ops Q (⟨none,.defer ⟨.value x,#[],tys⟩,ty,pos,af,none⟩::rest) Γ R H:=by
 intro a w hf hs;refine wpList_plain rfl fun K hK=>?_
 apply Y 0x62e;have e:(execOp a.eval ⟨none,.defer ⟨.value x,#[],tys⟩,ty,pos,af,none⟩).run X.P w=.ok (.defer (dfw f ps)) w:=by
  simp [execOp,resolve,hf.agree x _ hx,Deferred.ofValue,dfw]
 rw [e];refine hK _ _ (h _ _ ?_ hs);exact Zm 0xbe0f
theorem tp {d ty:Nat}{pos:String}{af:Array Edge}{f:Nat}{g:Operand}{as:List Operand}{tys:Array TypeId}{args all:List Value}{first cap:Array Value}{Rf Hf Hr:List Pr}{js js':List Nat}{ch:List PanicEntry}{Φ:Value→List Pr→List Pr→Prop}{Ψ:List Pr→List Pr→Prop}
    (hfn:dU X f all Rf Hf (b5 ch Φ Ψ)) (hg:ev Γ g=some (.func (.func f) first cap)) (ha:evs Γ as=some args) (hall:first.toList++args++cap.toList=all) (hj:sel H js=Hf) (hj':sel H js'=Hr) (hn:(js++js').Nodup) (hR:eh R [] Rf) (hd:Nat.blt d n=true)
    (k:∀ v R' H',Φ v R' H'→L X β n ds ops Q rest ((d,v)::Γ) (R'++R) (H'++Hr)) (kp:∀ R' H',Ψ R' H'→QE β n ds Q (.panic ch) Γ (R'++R) (H'++Hr)):
    L X β n ds ops Q (⟨some d,.call ⟨.value g,List.toArray as,tys⟩,ty,pos,af,none⟩::rest) Γ R H:=by
 intro a w hf hs;refine wpList_plain rfl fun K hK=>?_
 apply Y 0x460fee0f751f62e;intro e w' R' H' hΦ hs'
 cases e with
 |returned v=>exact hK _ _ (k v R' H' hΦ _ _ (hf.put oP v) hs')
 |panicked c=>
  obtain ⟨rfl,hΨ⟩:=hΦ;exact Zm 0x960f
 |outgrown=>exact hΦ.elim
theorem bg.E {fn:Func}{ch:List PanicEntry}{Φ:Value→List Pr→List Pr→Prop}{Ψ:List Pr→List Pr→Prop}:bg (xJ X β fn (b5 ch Φ Ψ)):=
  ⟨fun _ _ d _ _ h=>by cases d<;>exact h,fun _ _ h=>by obtain ⟨_,_,hf,_⟩:=h;exact hf⟩
theorem iD {next:Act→World→Prop}(h:bg Q):bg (Exit.then next Q):=⟨fun ch a d v w hq=>h.1 ch a d v w hq,fun a w hq=>h.2 a w hq⟩
theorem bg.b {id:Nat}(h:bg Q):bg (Exit.inBlock id Q):=⟨fun ch a d v w hq=>h.1 ch a d v w hq,fun a w hq=>h.2 a w hq⟩
theorem bg.j {J:Act→World→Prop}(h:bg Q):bg (fun e a w=>(e=.normal∧J a w)∨(e≠.normal∧Q e a w)):=
  ⟨fun ch a d v w hq=>.inr ⟨by simp,h.1 ch a d v w (hq.resolve_left fun q=>by cases q.1).2⟩,fun a w hq=>h.2 a w (hq.resolve_left fun q=>by cases q.1).2⟩
theorem dC {id:Nat}{l:List Oper}(Rc:List Pr)(_hc:eh R H Rc)(hinv:bg Q)(h:LMg X β n ds (List.toArray l) (Array.replicate l.length false) Rc Q Q l.length (Array.replicate l.length false) Γ R H):C X β n ds Q (.region id (List.toArray l) true) Γ R H:=by
 intro a w hf hs;refine wp_region_any X.mixed (fL (l0:=Array.replicate l.length false) (Cl:=fun w=>Sat β w Rc []) (Qn:=fun a w=>Q .normal a w) (Qf:=Q) (fun _ _ h=>h) (fun _ _ _ h=>h) _ _ _ _ ?_);have:=h hinv a w.drew Ob (fun _ h=>h) hf (hs.same (Stp.drew w _))
 simpa using this
theorem Mo {n:Nat}{T:Array Value}(hs:T.size=n):∀ {Γ:Env},(∀ p∈Γ,T[p.1]?=some p.2)→Fr n [] { tmps:=T,defers:=[] } Γ:=fun h=>⟨hs,rfl,fun s v hv=>h (s,v) (nU hv)⟩
end
theorem srx {P:Prop}(h:P:=by first|exact Src.r 0 rfl|exact Src.r 1 rfl|exact Src.r 2 rfl|exact Src.r 3 rfl|exact Src.r 4 rfl|exact Src.r 5 rfl|exact Src.r 6 rfl|exact Src.r 7 rfl|exact Src.r 8 rfl|exact Src.r 9 rfl|exact Src.r 10 rfl|exact Src.r 11 rfl|exact Src.r 12 rfl|exact Src.r 13 rfl|exact Src.r 14 rfl|exact Src.r 15 rfl|exact Src.r 16 rfl|exact Src.r 17 rfl|exact Src.r 18 rfl|exact Src.r 19 rfl|exact Src.r 20 rfl|exact Src.r 21 rfl|exact Src.r 22 rfl|exact Src.r 23 rfl|exact Src.r 24 rfl|exact Src.r 25 rfl|exact Src.r 26 rfl|exact Src.r 27 rfl|exact Src.r 28 rfl|exact Src.r 29 rfl|exact Src.r 30 rfl|exact Src.r 31 rfl|exact Src.r 32 rfl|exact Src.r 33 rfl|exact Src.r 34 rfl|exact Src.r 35 rfl|exact Src.o 0 rfl|exact Src.o 1 rfl|exact Src.o 2 rfl|exact Src.o 3 rfl|exact Src.o 4 rfl|exact Src.o 5 rfl|exact Src.o 6 rfl|exact Src.o 7 rfl|exact Src.o 8 rfl|exact Src.o 9 rfl|exact Src.o 10 rfl|exact Src.o 11 rfl):P:=h
theorem Mn {R H:List Pr}{r:Pr}:Has (r::R) H r:=Has.r 0 rfl
theorem Mm {R H:List Pr}{c r:Pr}(h:Has R H r):Has (c::R) H r:=
  ⟨fun β w hs=>h.1 β w (hs.reads R fun _ hx=>.inl (List.mem_cons_of_mem _ hx)),fun k hk=>(h.2 k hk).imp_left fun ⟨x,hx,hk⟩=>⟨x,List.mem_cons_of_mem _ hx,hk⟩⟩
theorem hax {P:Prop}(h:P:=by first|((repeat (first|with_reducible exact Mn|refine Mm ?_));done)|exact Has.o 0 rfl|exact Has.o 1 rfl|exact Has.o 2 rfl|exact Has.o 3 rfl|exact Has.o 4 rfl|exact Has.o 5 rfl|exact Has.o 6 rfl|exact Has.o 7 rfl|exact Has.o 8 rfl|exact Has.o 9 rfl|exact Has.o 10 rfl|exact Has.o 11 rfl|exact ck 0 rfl|exact ck 1 rfl|exact ck 2 rfl|exact ck 3 rfl|exact ck 4 rfl|exact ck 5 rfl|exact ck 6 rfl|exact ck 7 rfl|exact ck 8 rfl|exact Has.r 0 rfl|exact Has.r 1 rfl|exact Has.r 2 rfl|exact Has.r 3 rfl|exact Has.r 4 rfl|exact Has.r 5 rfl|exact Has.r 6 rfl|exact Has.r 7 rfl|exact Has.r 8 rfl|exact Has.r 9 rfl|exact Has.r 10 rfl|exact Has.r 11 rfl|exact Has.r 12 rfl|exact Has.r 13 rfl|exact Has.r 14 rfl|exact Has.r 15 rfl|exact Has.r 16 rfl|exact Has.r 17 rfl|exact Has.r 18 rfl|exact Has.r 19 rfl|exact Has.r 20 rfl|exact Has.r 21 rfl|exact Has.r 22 rfl|exact Has.r 23 rfl|exact Has.r 24 rfl|exact Has.r 25 rfl|exact Has.r 26 rfl|exact Has.r 27 rfl|exact Has.r 28 rfl|exact Has.r 29 rfl|exact Has.r 30 rfl|exact Has.r 31 rfl|exact Has.r 32 rfl|exact Has.r 33 rfl|exact Has.r 34 rfl|exact Has.r 35 rfl):P:=h
theorem hcx {P:Prop}(h:P:=by (repeat (refine ⟨hax,?_⟩));exact trivial):P:=h
theorem Hq {R H:List Pr}:∀ {Rc:List Pr} (js:List Nat) (_:js.map (fun j=>R[j]?)=Rc.map some),eh R H Rc
  |[],_,_=>trivial
  |_::_,[],h=>by cases h
  |_::_,j::js,h=>⟨Has.r j (List.cons.inj h).1,Hq js (List.cons.inj h).2⟩
theorem rt {P:Prop}(h:P:=by (repeat (refine ⟨rfl,?_⟩));exact trivial):P:=h
theorem lk {β:Base}{Γ Γ':Env}{R H R' H':List Pr}(rs hs:List Nat)(he:tt Γ Γ':=by exact rt)(hr:Rk R rs R':=by exact rt)(hh:Pk H hs H':=by exact rt)(hn:hs.Nodup:=by decide):Le β Γ R H Γ' R' H':=aE he hr hh hn
theorem RK {P:Prop}(h:P:=by repeat (first|exact bg.E|refine bg.j ?_|refine iD ?_|refine bg.b ?_)):P:=h
def zp:List Nat→List Value→Env
  |k::ks,v::vs=>(k,v)::zp ks vs
  |_,_=>[]
abbrev kz {ι:Type}(l:List Pr):ι→List Pr:=fun _=>l
abbrev kzz {ι:Type}(A B:List Pr)(f:ι→List Pr):ι→List Pr:=fun i=>A++(f i++B)
abbrev nz {ι:Type}{α:Type}:ι→List α:=fun _=>[]
theorem imp {a b c:Prop}(f:a→b)(h:b→c):a→c:=fun x=>h (f x)
section
variable {X:Cx}{β:Base}{n:Nat}{ds:List Deferred}{ops:Array Oper}{Q:Exit→Act→World→Prop}{rest:List Oper}{Γ:Env}{R H:List Pr}
theorem co {f:FuncId}{fn:Func}{c:Code}{args:List Value}{Φ:Value→List Pr→List Pr→Prop}(hf:X.P.funcs[f]?=some fn)(h:∀ β,C X β fn.ntmps [] (post X β fn Φ) c (params 0 args) R H)(hb:fn.body=some c:=by exact rfl)(hname:(fn.name== "runtime.NumGoroutine")=false:=by kernel_rfl)
    (hn:Nat.ble args.length fn.ntmps=true:=by exact rfl):Ctr X f args R H Φ:=Ctr.of hf hb hname hn h
theorem an {d ty:Nat}{pos:String}{af:Array Edge}{f:Nat}{as:List Operand}{tys:Array TypeId}{args:List Value}{Rf:List Pr}{Φ:Value→List Pr→List Pr→Prop}(hfn:Ctr X f args Rf [] Φ)
    (k:∀ v R' H',Φ v R' H'→L X β n ds ops Q rest ((d,v)::Γ) R (H'++H)) (ha:evs Γ as=some args:=by exact rfl) (hR:eh R H Rf:=by exact hcx) (hd:Nat.blt d n=true:=by exact rfl):
    L X β n ds ops Q (⟨some d,.call ⟨.value (.func f),List.toArray as,tys⟩,ty,pos,af,none⟩::rest) Γ R H:=
  L.call (js:=[]) (js':=List.range H.length) hfn ha rfl (tI H) (by simpa using List.nodup_range) hR hd k
theorem a8 {d ty:Nat}{pos:String}{af:Array Edge}{f:Nat}{as:List Operand}{tys:Array TypeId}{args:List Value}{Rf:List Pr}{Φ:Value→List Pr→List Pr→Prop}(hfn:Ctr X f args Rf [] Φ)
    (k:∀ v R' H',Φ v R' H'→L X β n ds ops Q rest ((d,v)::Γ) (R'++R) (H'++H)) (ha:evs Γ as=some args:=by exact rfl) (hR:eh R [] Rf:=by exact hcx) (hd:Nat.blt d n=true:=by exact rfl):
    L X β n ds ops Q (⟨some d,.call ⟨.value (.func f),List.toArray as,tys⟩,ty,pos,af,none⟩::rest) Γ R H:=
  dj (js:=[]) (js':=List.range H.length) hfn ha rfl (tI H) (by simpa using List.nodup_range) hR hd k
theorem lp {c:Code}{ι:Type}(ks:List Nat)(vs:List Value)(G:ι→Env)(Rs Hs:ι→List Pr)(pre:ι→Prop)(μ:ι→Nat)(i0:ι)(h0:pre i0)(hle:Le β Γ R H (zp ks vs++G i0) (Rs i0) (Hs i0))
    (round:∀ i,pre i→C X β n ds (Exit.then (fun a w=>∃ j,pre j∧μ j<μ i∧Fr n ds a (zp ks vs++G j)∧Sat β w (Rs j) (Hs j)) Q) c (zp ks vs++G i) (Rs i) (Hs i)):C X β n ds Q (.loop c) Γ R H:=
  C.loop (fun i=>zp ks vs++G i) Rs Hs pre μ i0 h0 hle round
theorem sp {op:Op}{v:Value}{d ty:Nat}{pos:String}{af:Array Edge}(h:Ev X β Γ R H op v)(k:L X β n ds ops Q rest ((d,v)::Γ) R H)(hd:Nat.blt d n=true:=by exact rfl):
    L X β n ds ops Q (⟨some d,op,ty,pos,af,none⟩::rest) Γ R H:=L.step h hd k
theorem sq {op:Op}{v:Value}{d ty:Nat}{pos:String}{af:Array Edge}(h:Ev X β Γ R H op v)(k:LQ X β n ds ops Q R H rest ((d,v)::Γ))(hd:Nat.blt d n=true:=by exact rfl):
    LQ X β n ds ops Q R H (⟨some d,op,ty,pos,af,none⟩::rest) Γ:=LQ.step h hd k
theorem faR {t f k m:Nat}{x:Operand}{i fi:Ti}{fs:Array Field}{fd:Field}{A:Option Addr}{xs:List Value}(j:Nat)(ht:au t X.tab=some i:=by exact rfl)(hd:i.desc=.struct fs:=by exact rfl)(hf:fs[f]?=some fd:=by exact rfl)
    (hft:au fd.type X.tab=some fi:=by exact rfl) (hfs:Nat.blt 0 fi.size=true:=by exact rfl) (hx:ev Γ x=some (ag A k):=by exact rfl) (hs:R[j]?=some (Rd A xs):=by exact rfl) (h0:0<xs.length:=by exact Nat.zero_lt_succ _) (hm:k+fd.offset=m:=by exact rfl):Ev X β Γ R H (.fieldAddr t x f) (ag A m):=
  Ev.fieldAddr ht hd hf hft hfs hx (Src.r j hs) h0 hm
theorem faO {t f k m e sz nn c:Nat}{x:Operand}{i fi:Ti}{fs:Array Field}{fd:Field}{A:Option Addr}{xs:List Value}(j:Nat)(ht:au t X.tab=some i:=by exact rfl)(hd:i.desc=.struct fs:=by exact rfl)(hf:fs[f]?=some fd:=by exact rfl)
    (hft:au fd.type X.tab=some fi:=by exact rfl) (hfs:Nat.blt 0 fi.size=true:=by exact rfl) (hx:ev Γ x=some (ag A k):=by exact rfl) (hs:H[j]?=some (Own e sz A nn c xs):=by exact rfl) (h0:0<xs.length:=by exact Nat.zero_lt_succ _) (hm:k+fd.offset=m:=by exact rfl):Ev X β Γ R H (.fieldAddr t x f) (ag A m):=
  Ev.fieldAddr ht hd hf hft hfs hx (Src.o j hs) h0 hm
theorem ldR {t k:Nat}{x:Operand}{i:Ti}{A:Option Addr}{xs:List Value}{v:Value}(j:Nat)(ht:au t X.tab=some i:=by exact rfl)(ha:ye i.desc=false:=by exact rfl)(hx:ev Γ x=some (ag A k):=by exact rfl)(hs:R[j]?=some (Rd A xs):=by exact rfl)(hv:xs[k]?=some v:=by exact rfl):Ev X β Γ R H (.load t x) v:=
  Ev.load ht ha hx (Src.r j hs) hv
theorem ldO {t k e sz nn c:Nat}{x:Operand}{i:Ti}{A:Option Addr}{xs:List Value}{v:Value}(j:Nat)(ht:au t X.tab=some i:=by exact rfl)(ha:ye i.desc=false:=by exact rfl)(hx:ev Γ x=some (ag A k):=by exact rfl)(hs:H[j]?=some (Own e sz A nn c xs):=by exact rfl)(hv:xs[k]?=some v:=by exact rfl):Ev X β Γ R H (.load t x) v:=
  Ev.load ht ha hx (Src.o j hs) hv
theorem nkR {k:Nat}{x:Operand}{A:Option Addr}{xs:List Value}(j:Nat)(hx:ev Γ x=some (ag A k):=by exact rfl)(hs:R[j]?=some (Rd A xs):=by exact rfl)(h0:0<xs.length:=by exact Nat.zero_lt_succ _):Ev X β Γ R H (.nilCheck x) (ag A k):=Ev.nilCheck hx (Src.r j hs) h0
theorem nkO {k e sz nn c:Nat}{x:Operand}{A:Option Addr}{xs:List Value}(j:Nat)(hx:ev Γ x=some (ag A k):=by exact rfl)(hs:H[j]?=some (Own e sz A nn c xs):=by exact rfl)(h0:0<xs.length:=by exact Nat.zero_lt_succ _):Ev X β Γ R H (.nilCheck x) (ag A k):=Ev.nilCheck hx (Src.o j hs) h0
theorem cfz {x:Code}(j:Nat)(js:List Nat){e sz m c:Nat}{A:Option Addr}{xs:List Value}(h:C X β n ds Q x Γ (Rd A xs::R) (sel H js))(hj:H[j]?=some (Own e sz A m c xs):=by exact rfl)(hn:js.Nodup:=by decide)(hjj:js.contains j=false:=by decide):C X β n ds Q x Γ R H:=C.freeze j hj js hn hjj h
theorem qfz {x:Exit}(j:Nat)(js:List Nat){e sz m c:Nat}{A:Option Addr}{xs:List Value}(h:QE β n ds Q x Γ (Rd A xs::R) (sel H js))(hj:H[j]?=some (Own e sz A m c xs):=by exact rfl)(hn:js.Nodup:=by decide)(hjj:js.contains j=false:=by decide):QE β n ds Q x Γ R H:=QE.freeze j hj js hn hjj h
theorem lnr (H':List Pr)(hs:List Nat)(h:L X β n ds ops Q rest Γ R H')(hp:Pk H hs H':=by exact rt)(hn:hs.Nodup:=by decide):L X β n ds ops Q rest Γ R H:=L.norm hs hp hn h
theorem cnr {c:Code}(H':List Pr)(hs:List Nat)(h:C X β n ds Q c Γ R H')(hp:Pk H hs H':=by exact rt)(hn:hs.Nodup:=by decide):C X β n ds Q c Γ R H:=C.norm hs hp hn h
theorem qrt {fn:Func}{Φ:Value→List Pr→List Pr→Prop}{rs:List ResultVar}(js hs:List Nat)(vs:List Value)(hrs:fn.results=List.toArray rs)(hr:xf X Γ R H rs vs)(hΦ:Φ (tup vs) (sel R js) (sel H hs))(hn:hs.Nodup:=by decide):QE β n [] (post X β fn Φ) .ret Γ R H:=QE.ret hrs hr hn hΦ
end
section
variable {X:Cx}{β:Base}{n:Nat}{ds:List Deferred}{Q Qf:Exit→Act→World→Prop}{Γ:Env}{R H Rc:List Pr}{ops:Array Oper}{fuel:Nat}{l0 listed:Array Bool}
theorem mq (i:Nat){op:Op}{v:Value}{d ty:Nat}{pos:String}{af:Array Edge}(hi:ops[i]?=some ⟨some d,op,ty,pos,af,none⟩)(h:Ev X β Γ Rc [] op v)(k:LMg X β n ds ops l0 Rc Qf Q fuel (listed.setIfInBounds i true) ((d,v)::Γ) R H)
    (hB:(Region.noSelect ops&&(Region.ready .any ops listed).contains i&&Region.free .any ops listed i&&gD .any ops listed)=true:=by kernel_rfl) (hd:Nat.blt d n=true:=by exact rfl) (hc:eh R H Rc:=by exact hcx):LMg X β n ds ops l0 Rc Qf Q (fuel+1) listed Γ R H:=LM.q i hi hB h hd hc k
theorem my (i:Nat){op:Op}{v:Value}{d ty g:Nat}{b:Bool}{pos:String}{af:Array Edge}(hi:ops[i]?=some ⟨some d,op,ty,pos,af,some (g,b)⟩)(h:Ev X β Γ Rc [] op v)(k:LMg X β n ds ops l0 Rc Qf Q fuel (listed.setIfInBounds i true) ((d,v)::Γ) R H)
    (hB:(Region.noSelect ops&&(Region.ready .any ops listed).contains i&&Region.free .any ops listed i&&gD .any ops listed)=true:=by kernel_rfl) (hg:yo ops Γ g=some (.bool b):=by exact rfl) (hd:Nat.blt d n=true:=by exact rfl) (hc:eh R H Rc:=by exact hcx):LMg X β n ds ops l0 Rc Qf Q (fuel+1) listed Γ R H:=RE i hi hB hg h hd hc k
theorem mno (i:Nat){op:Op}{v:Value}{d ty g:Nat}{b:Bool}{pos:String}{af:Array Edge}(k:LMg X β n ds ops l0 Rc Qf Q fuel (listed.setIfInBounds i true) ((d,undef)::Γ) R H)(hi:ops[i]?=some ⟨some d,op,ty,pos,af,some (g,b)⟩:=by exact rfl)
    (hB:(Region.noSelect ops&&(Region.ready .any ops listed).contains i&&Region.free .any ops listed i&&gD .any ops listed)=true:=by kernel_rfl) (hg:yo ops Γ g=some v:=by exact rfl) (hv:(match v with| .bool c=>c==b|_=>false)=false:=by exact rfl) (hd:Nat.blt d n=true:=by exact rfl) (hc:eh R H Rc:=by exact hcx):LMg X β n ds ops l0 Rc Qf Q (fuel+1) listed Γ R H:=LM.no i hi hB hg hv hd hc k
theorem mfo (i:Nat){o:Oper}(h:L X β n ds ops (QM X β ops l0 Rc Qf Q fuel (listed.setIfInBounds i true)) [o] Γ R H)(hi:ops[i]?=some o:=by exact rfl)(hr:Region.ready .any ops listed=[i]:=by kernel_rfl)(hc:eh R H Rc:=by exact hcx):LMg X β n ds ops l0 Rc Qf Q (fuel+1) listed Γ R H:=LM.f i hi hr hc h
end
end Go.Sl
