/-
  Part of a proof.
-/
import Derived.Test.YtbpddeiogcgegaaGreatYSlF
set_option maxHeartbeats 0
set_option maxRecDepth 4000
set_option linter.all false
namespace Go.Sl
section
variable {X:Cx}{β:Base}{n:Nat}{ds:List Deferred}{ops:Array Oper}{Q:Exit→Act→World→Prop}{rest:List Oper}{Γ:Env}{R H:List Pr}
theorem mX {s d:Nat}{x:Operand}{b:UInt8}{i j:Ti}(hs:au s X.tab=some i)(hd:au d X.tab=some j)(hj:j.desc=.int .i64)(hx:ev Γ x=some (.int .u8 (b.toNat:Int))):
    Ev X β Γ R H (.convert s d x) (.int .i64 (b.toNat:Int)):=by
 have:=tD b
 exact pF hs hd hj hx oe oe
theorem tA (m:Int):IntKind.u8.wrap m=m%256:=by
 unfold IntKind.wrap
 simp [IntKind.bits,IntKind.signed]
theorem lV {s d:Nat}{x:Operand}{k:IntKind}{m:Int}{i j:Ti}(hs:au s X.tab=some i)(hd:au d X.tab=some j)(hj:j.desc=.int .u8)(hx:ev Γ x=some (.int k m)):
    Ev X β Γ R H (.convert s d x) (.int .u8 ((UInt8.ofInt m).toNat:Int)):=
  (Ev.pure (v:=.int .u8 (IntKind.u8.wrap m)) oaj).cast (by
    rw [tA]
    congr 1
    simp [UInt8.ofInt,UInt8.toNat_ofNat']
    omega)
theorem jl (a:UInt8):BitVec.ofInt 8 (a.toNat:Int)=a.toBitVec:=by
 have:=tD a
 apply BitVec.eq_of_toNat_eq;rw [BitVec.ofInt_natCast,BitVec.toNat_ofNat]
 exact Nat.mod_eq_of_lt oe
theorem C8 (x:BitVec 8):IntKind.u8.wrap (x.toNat:Int)=(x.toNat:Int):=by
 have:=x.isLt;rw [tA]
 omega
theorem Fk (a b:UInt8):bop .and .u8 (a.toNat:Int) (b.toNat:Int)=((a&&&b).toNat:Int):=by
 show IntKind.u8.wrap ((BitVec.ofInt 8 (a.toNat:Int)&&&BitVec.ofInt 8 (b.toNat:Int)).toNat:Int)=_;rw [jl,jl,C8]
 rfl
theorem IK (a b:UInt8):bop .or .u8 (a.toNat:Int) (b.toNat:Int)=((a|||b).toNat:Int):=by
 show IntKind.u8.wrap ((BitVec.ofInt 8 (a.toNat:Int)|||BitVec.ofInt 8 (b.toNat:Int)).toNat:Int)=_;rw [jl,jl,C8]
 rfl
theorem wZ (a b:UInt8):bop .xor .u8 (a.toNat:Int) (b.toNat:Int)=((a^^^b).toNat:Int):=by
 show IntKind.u8.wrap ((BitVec.ofInt 8 (a.toNat:Int)^^^BitVec.ofInt 8 (b.toNat:Int)).toNat:Int)=_;rw [jl,jl,C8]
 rfl
theorem uN (a b:UInt8):bop .andNot .u8 (a.toNat:Int) (b.toNat:Int)=((a&&& ~~~b).toNat:Int):=by
 show IntKind.u8.wrap ((BitVec.ofInt 8 (a.toNat:Int)&&& ~~~(BitVec.ofInt 8 (b.toNat:Int))).toNat:Int)=_;rw [jl,jl,C8]
 rfl
section
variable {t ty:Nat}{x y:Operand}{a b:UInt8}(hx:ev Γ x=some (.int .u8 (a.toNat:Int)))(hy:ev Γ y=some (.int .u8 (b.toNat:Int)))
include hx hy
theorem uX:Ev X β Γ R H (.binOp .and t x y ty) (.int .u8 ((a&&&b).toNat:Int)):=(Ev.pure (v:=.int .u8 (bop .and .u8 (a.toNat:Int) (b.toNat:Int))) qA).cast (by rw [Fk])
theorem Mr:Ev X β Γ R H (.binOp .or t x y ty) (.int .u8 ((a|||b).toNat:Int)):=(Ev.pure (v:=.int .u8 (bop .or .u8 (a.toNat:Int) (b.toNat:Int))) qA).cast (by rw [IK])
theorem CN:Ev X β Γ R H (.binOp .xor t x y ty) (.int .u8 ((a^^^b).toNat:Int)):=(Ev.pure (v:=.int .u8 (bop .xor .u8 (a.toNat:Int) (b.toNat:Int))) qA).cast (by rw [wZ])
theorem mY:Ev X β Γ R H (.binOp .andNot t x y ty) (.int .u8 ((a&&& ~~~b).toNat:Int)):=(Ev.pure (v:=.int .u8 (bop .andNot .u8 (a.toNat:Int) (b.toNat:Int))) qA).cast (by rw [uN])
end
theorem jw {P:Program}(w:World)(d:Nat){t e:Nat}(A:Option Addr)(n c n' c':Nat)(h:P.underlying t=some (.slice e)):(Op.equalIn (d+1) t (.slice A n c) (.slice none n' c')).run P w=.ok A.isNone w:=by
 cases A<;>simp [Op.equalIn,run_underlying h]
theorem FT {t ty e n c n' c':Nat}{x y:Operand}{A:Option Addr}{i:Ti}(ht:au t X.tab=some i)(hd:i.desc=.slice e)(hx:ev Γ x=some (.slice A n c))(hy:ev Γ y=some (.slice none n' c')):Ev X β Γ R H (.binOp .eql t x y ty) (.bool A.isNone):=by
 intro ρ w hρ hw o ho;apply Y 0x35e;intro e1;rw [hd] at e1;have hg:(eqGuard .eql t x y (.slice A n c) (.slice none n' c')).run X.P w=.ok () w:=qT;have hr:(Op.equal t (.slice A n c) (.slice none n' c')).run X.P w=.ok A.isNone w:=jw w 9999 A n c n' c' e1;have hb:(binOp .eql t (.slice A n c) (.slice none n' c')).run X.P w=.ok (.bool A.isNone) w:=by
  simp only [binOp]
  simp [hr]
 exact Zm 0x840f
def MD (l:List UInt8):ByteArray:=⟨List.toArray l⟩
theorem xk {t ty:Nat}{x y:Operand}{a b:ByteArray}(hx:ev Γ x=some (.string a))(hy:ev Γ y=some (.string b)):Ev X β Γ R H (.binOp .eql t x y ty) (.bool (a.toList==b.toList)):=by
 intro ρ w hρ hw o ho;have hg:(eqGuard .eql t x y (.string a) (.string b)).run X.P w=.ok () w:=qT
 simp [execOp,ho,hρ _ _ hx,hρ _ _ hy,hg,binOp_string_eql]
theorem j8 {s d e c:Nat}{x:Operand}{A:Option Addr}{xs:List UInt8}{i ei j:Ti}(hs:au s X.tab=some i)(hsd:i.desc=.slice e)(he:au e X.tab=some ei)(hed:ei.desc=.int .u8)(hd:au d X.tab=some j)(hj:j.desc=.string)
    (hx:ev Γ x=some (.slice A xs.length c)) (hr:Src R H A (U8 xs)):Ev X β Γ R H (.convert s d x) (.string (MD xs)):=by
 intro ρ w hρ hw o ho;have e1:=(X.ok _ _ hs).und;have e2:=(X.ok _ _ he).und;have e3:=(X.ok _ _ hd).und;rw [hsd] at e1;rw [hed] at e2;rw [hj] at e3;have main:(convert s d (.slice A xs.length c)).run X.P w=.ok (.string (MD xs)) w:=by
  cases A with
  |none=>
   have h0:xs=[]:=by
    cases xs with
    |nil=>rfl
    |cons u us=>
     obtain ⟨a,ha,_⟩:=hr β w hw 0 (.int .u8 (u.toNat:Int)) rfl
     cases ha
   subst h0
   exact run_convert_bytes_nil w s e e1 e2 _ _ d e3
  |some a=>
   have hcells:=hr β w hw;have hl:(loadCells a xs.length).run X.P w=.ok ((xs.map fun u=>(u.toNat:Int)).map (Value.int .u8)).toArray w:=by
    have:=run_loadCells_list (P:=X.P) w a (U8 xs) (fun q u hu=>by
     obtain ⟨a',ha',hc⟩:=hcells q u hu
     cases ha'
     exact hc)
    rw [aH] at this;rw [this]
    simp [U8,Function.comp_def]
   rw [run_convert_bytes_string w s d e _ _ _ e1 e2 e3,run_bytesToString w _ _ _ _ hl,foldl_push_bytes];have:(xs.map fun u=>(u.toNat:Int)).map (fun n=>UInt8.ofNat n.toNat)=xs:=by
    rw [List.map_map]
    conv=>rhs;rw [← List.map_id xs]
    refine List.map_congr_left fun u _=>?_
    simp
   rw [this]
   simp [MD,ByteArray.empty,ByteArray.emptyWithCapacity]
   rfl
 simp [execOp,ho,hρ _ _ hx,main]
def jO (cs:List Value)(off:Nat)(vs:List Value):List Value:=cs.take off++vs++cs.drop (off+vs.length)
def py (place:Nat→Option (Nat×Nat))(cells:List Value):List (Nat×Value)→Option (List Value)
  |[]=>some cells
  |(i,v)::rest=>match place i with
    |none=>none
    |some (off,size)=>match v with
      | .agg cs=>if cs.toList.length=size then (if off+size≤cells.length then py place (jO cells off cs.toList) rest else none) else none
      |u=>if size=1 then (if off+1≤cells.length then py place (cells.set off u) rest else none) else none
def evp (Γ:Env):List (Nat×Operand)→Option (List (Nat×Value))
  |[]=>some []
  |(i,x)::xs=>match ev Γ x,evp Γ xs with
    |some v,some vs=>some ((i,v)::vs)
    |_,_=>none
theorem n5 {ρ:Operand→Value}(h:∀ x u,ev Γ x=some u→ρ x=u):∀ {xs:List (Nat×Operand)} {vs:List (Nat×Value)},evp Γ xs=some vs→(xs.map fun (i,x)=>(i,ρ x))=vs
  |[],vs,e=>by injection e
  |(i,x)::xs,vs,e=>by
    simp only [evp] at e
    split at e
    · rename_i v us h1 h2
      injection e with e
      subst e
      rw [List.map_cons,n5 h h2]
      simp only [h _ _ h1]
    · cases e
theorem wB:∀ (vs:List Value) (cells:List Value) (off j:Nat),off+j+vs.length≤cells.length→
    ((vs.zipIdx j).foldl (fun (cs:Array Value) (p:Value×Nat)=>cs.setIfInBounds (off+p.2) p.1) (List.toArray cells))=List.toArray (jO cells (off+j) vs)
  |[],cells,off,j,_=>by simp [jO]
  |v::vs,cells,off,j,h=>by
    rw [List.zipIdx_cons,List.foldl_cons]
    have h':off+(j+1)+vs.length≤(cells.set (off+j) v).length:=by simp at h ⊢;omega
    have:=wB vs (cells.set (off+j) v) off (j+1) h'
    rw [show (List.toArray cells).setIfInBounds (off+j) v=List.toArray (cells.set (off+j) v) from by apply Array.ext';simp]
    rw [this]
    congr 1
    unfold jO
    simp only [List.length_cons] at h
    apply List.ext_getElem?
    intro q
    simp only [List.getElem?_append,List.getElem?_take,List.getElem?_drop,List.length_append,List.length_take,List.length_set,List.length_cons,List.getElem?_set]
    have e1:min (off+(j+1)) cells.length=off+j+1:=oe
    have e2:min (off+j) cells.length=off+j:=oe
    rw [e1,e2]
    by_cases c1:q<off+j
    · have:off+j≠q:=oe
      simp [c1,this,show q<off+j+1+vs.length by omega,show q<off+j+1 by omega,show q<off+j+(vs.length+1) by omega,show q<off+(j+1) by omega]
    · by_cases c2:q=off+j
      · subst c2
        simp [show off+j<cells.length by omega,show off+j<off+(j+1) by omega,show off+j<off+j+1+vs.length by omega]
      · have c3:off+j≠q:=fun h=>c2 h.symm
        by_cases c4:q<off+j+1+vs.length
        · simp [c1,c4,show ¬ q<off+j+1 by omega,show q<off+j+(vs.length+1) by omega]
          rw [show q-(off+j)=(q-(off+j+1))+1 by omega,List.getElem?_cons_succ]
        · simp [c4,show ¬ q<off+j+(vs.length+1) by omega,show off+j≠off+(j+1)+vs.length+(q-(off+j+1+vs.length)) by omega]
          congr 1
          omega
theorem iz {place:Nat→Option (Nat×Nat)}:∀ (ps:List (Nat×Value)) (cells out:List Value),py place cells ps=some out→Instr.fill place (List.toArray cells) ps=some (List.toArray out)
  |[],cells,out,h=>by
    simp only [py,Option.some.injEq] at h
    subst h
    rfl
  |(i,v)::rest,cells,out,h=>by
    simp only [py] at h
    simp only [Instr.fill]
    cases hp:place i with
    |none=>rw [hp] at h;cases h
    |some os=>
      obtain ⟨off,size⟩:=os
      rw [hp] at h
      simp only at h ⊢
      have one:∀ u:Value,u.cells=#[u]→size=1→off+1≤cells.length→py place (cells.set off u) rest=some out→
          (if u.cells.size≠size||off+u.cells.size>(List.toArray cells).size then none else Instr.fill place (u.cells.zipIdx.foldl (fun cs (c,j)=>cs.setIfInBounds (off+j) c) (List.toArray cells)) rest)=some (List.toArray out):=by
        intro u hu hs ho hf
        subst hs
        have ih:=iz rest _ out hf
        simp only [hu]
        rw [if_neg OO]
        simpa using ih
      cases v with
      |agg cs=>
        simp only at h
        split at h
        · rename_i hl
          split at h
          · rename_i ho
            have ih:=iz rest _ out h
            have hcs:cs.size=size:=obS
            have hvc:(Value.agg cs).cells=cs:=rfl
            simp only [hvc]
            rw [if_neg (by simp [hcs];omega)]
            rw [← ih]
            congr 1
            have:=wB cs.toList cells off 0 (by simp [hcs];omega)
            simp only [Nat.add_zero] at this
            rw [← this,← Array.foldl_toList]
            simp
          · cases h
        · cases h
      |_=>
        simp only at h
        split at h
        · rename_i hs
          split at h
          · rename_i ho
            exact one _ rfl hs ho h
          · cases h
        · cases h
def places (T:List (Nat×Ti)):List Field→Option (List (Nat×Nat))
  |[]=>some []
  |f::fs=>match au f.type T,places T fs with
    |some i,some ps=>some ((f.offset,i.size)::ps)
    |_,_=>none
theorem rR:∀ (fs:List Field) (ps:List (Nat×Nat)),places X.tab fs=some ps→fs.mapM (fun f=>(X.P.info? f.type).map fun i=>(f.offset,i.size))=some ps
  |[],ps,h=>by injection h with h;subst h;rfl
  |f::fs,ps,h=>by
    simp only [places] at h
    split at h
    · rename_i i qs h1 h2
      injection h with h
      subst h
      obtain ⟨_,j,hj,g1,_⟩:=X.ok _ _ h1
      rw [List.mapM_cons,hj,rR fs qs h2]
      simp [g1]
    · cases h
theorem Ev.build {t:Nat}{parts:Array (Nat×Operand)}{i:Ti}{fs:Array Field}{pl:List (Nat×Nat)}{zs cs:List Value}{ps:List (Nat×Operand)}{vs:List (Nat×Value)}(ht:au t X.tab=some i)(hd:i.desc=.struct fs)
    (hpl:places X.tab fs.toList=some pl) (hz:i.zero.cells=List.toArray zs) (hps:parts=List.toArray ps) (hv:evp Γ ps=some vs) (hb:py (pl[·]?) zs vs=some cs):Ev X β Γ R H (.build t parts) (.agg (List.toArray cs)):=by
 intro ρ w hρ hs o ho;obtain ⟨e1,j,hj,_,_,h3⟩:=X.ok _ _ ht;rw [hd] at e1;have hbuilt:X.P.built t (parts.map fun (i,x)=>(i,ρ x)).toList=some (List.toArray cs):=by
  unfold Program.built
  simp only [hj,e1,h3];rw [rR fs.toList pl hpl]
  simp only;subst hps;apply Y 0xa61f;intro hp2;rw [hp2,hz]
  simpa using iz vs zs cs hb
 have:=run_build (P:=X.P) w t _ _ hbuilt
 simp only [execOp,ho,Sem.run_bind,this,Result.andThen_ok,Sem.run_pure]
theorem gM {t:Nat}{parts:Array (Nat×Operand)}{i ei:Ti}{m e:Nat}{zs cs:List Value}{ps:List (Nat×Operand)}{vs:List (Nat×Value)}(ht:au t X.tab=some i)(hd:i.desc=.array m e)(he:au e X.tab=some ei)
    (hz:i.zero.cells=List.toArray zs) (hps:parts=List.toArray ps) (hv:evp Γ ps=some vs) (hb:py (fun q=>some (q*ei.size,ei.size)) zs vs=some cs):Ev X β Γ R H (.build t parts) (.agg (List.toArray cs)):=by
 intro ρ w hρ hs o ho;obtain ⟨e1,j,hj,_,_,h3⟩:=X.ok _ _ ht;rw [hd] at e1;obtain ⟨_,je,hje,g1,_⟩:=X.ok _ _ he;have hbuilt:X.P.built t (parts.map fun (i,x)=>(i,ρ x)).toList=some (List.toArray cs):=by
  unfold Program.built
  simp only [hj,e1,h3,hje];subst hps;apply Y 0xa61f;intro hp2;rw [hp2,hz,g1]
  exact iz vs zs cs hb
 have:=run_build (P:=X.P) w t _ _ hbuilt
 simp only [execOp,ho,Sem.run_bind,this,Result.andThen_ok,Sem.run_pure]
theorem Sat.freeze {w:World}(h:Sat β w R H){j:Nat}{e sz m c:Nat}{A:Option Addr}{xs:List Value}(hj:H[j]?=some (Own e sz A m c xs)){js:List Nat}(hn:js.Nodup)(hjj:js.contains j=false):Sat β w (Rd A xs::R) (Sl.sel H js):=by
 apply Y 0xfb0f;intro hnj;refine h.put (Stp.refl w fun _=>False) (fun _ hk=>hk.elim) _ _ ?_ ?_ ?_ ?_
 ·intro r hr
  rcases List.mem_cons.1 hr with rfl|hr
  ·exact .inr ⟨fun q u hu=>by
    obtain ⟨g,hA,hc,_⟩:=Own.cell (h.own j _ hj) hu;exact ⟨_,hA,by rw [adz];exact hc⟩,fun k hk=>⟨(h.ofp j _ hj k hk.2).1,.inr (.inl ⟨j,_,hj,hk.2⟩)⟩⟩
  exact .inl hr
 ·intro i d hd;obtain ⟨q,_,hq⟩:=aD (List.mem_of_getElem? hd);exact Zm 0x1e1f
 ·intro i i' d d' hd hd' hne k hk hk';obtain ⟨p,q,_,_,hpq,hp,hq⟩:=iM hn i i' d d' hd hd' hne;exact Zm 0x6e0f
 intro r hr i d hd k hk hk';apply Y 0x8ee;intro q hq hqd
 rcases List.mem_cons.1 hr with rfl|hr
 ·exact h.dis j q _ d hj hqd (fun e=>hnj (e▸hq)) k hk.2 hk'
 exact h.sep r hr q d hqd k hk hk'
theorem L.freeze (j:Nat){e sz m c:Nat}{A:Option Addr}{xs:List Value}(hj:H[j]?=some (Own e sz A m c xs))(js:List Nat)(hn:js.Nodup)(hjj:js.contains j=false)(h:L X β n ds ops Q rest Γ (Rd A xs::R) (sel H js)):L X β n ds ops Q rest Γ R H:=
  fun a w hf hs=>h a w hf (hs.freeze hj hn hjj)
theorem QE.freeze {x:Exit}(j:Nat){e sz m c:Nat}{A:Option Addr}{xs:List Value}(hj:H[j]?=some (Own e sz A m c xs))(js:List Nat)(hn:js.Nodup)(hjj:js.contains j=false)(h:QE β n ds Q x Γ (Rd A xs::R) (sel H js)):QE β n ds Q x Γ R H:=
  fun a w hf hs=>h a w hf (hs.freeze hj hn hjj)
theorem C.freeze {x:Code}(j:Nat){e sz m c:Nat}{A:Option Addr}{xs:List Value}(hj:H[j]?=some (Own e sz A m c xs))(js:List Nat)(hn:js.Nodup)(hjj:js.contains j=false)(h:C X β n ds Q x Γ (Rd A xs::R) (sel H js)):C X β n ds Q x Γ R H:=
  fun a w hf hs=>h a w hf (hs.freeze hj hn hjj)
theorem Sat.more {w:World}(h:Sat β w R H){r:Pr}(hr:Has R [] r):Sat β w (r::R) H:=by
 refine h.reads _ fun x hx=>?_
 rcases List.mem_cons.1 hx with rfl|hx
 ·refine .inr ⟨hr.1 β w (by have:=h.sel (js:=[]) Ob;exact this),fun k hk=>?_⟩
  rcases hr.2 k hk with y|⟨i,c,hc,_⟩
  ·exact y
  simp at hc
 exact .inl hx
theorem L.more {r:Pr}(hr:Has R [] r)(h:L X β n ds ops Q rest Γ (r::R) H):L X β n ds ops Q rest Γ R H:=fun a w hf hs=>h a w hf (hs.more hr)
theorem QE.more {x:Exit}{r:Pr}(hr:Has R [] r)(h:QE β n ds Q x Γ (r::R) H):QE β n ds Q x Γ R H:=fun a w hf hs=>h a w hf (hs.more hr)
theorem C.more {x:Code}{r:Pr}(hr:Has R [] r)(h:C X β n ds Q x Γ (r::R) H):C X β n ds Q x Γ R H:=fun a w hf hs=>h a w hf (hs.more hr)
theorem L.copy {d t t2 e ty j m c p q o:Nat}{pos:String}{af:Array Edge}{x y:Operand}{A B:Option Addr}{xs ys:List Value}{i ei:Ti}(ht:au t X.tab=some i)(hdesc:i.desc=.slice e)(he:au e X.tab=some ei)(hsz:ei.size=1)
    {D:Option Addr} {dn dc:Nat} (hx:ev Γ x=some (.slice D dn dc)) (hD:∀ g,A=some ⟨g,0,none⟩→0<ys.length→D=some ⟨g,o,none⟩)
    (hy:ev Γ y=some (.slice B p q)) (hj:H[j]?=some (Own e 1 A m c xs)) (hs:Src R H B ys) (hl:ys.length=min p dn) (h1:∀ v∈ys,v.oneCell'=true) (hfit:o+ys.length≤xs.length) (hd:Nat.blt d n=true)
    (hh:L X β n ds ops Q rest ((d,.int .i64 (ys.length:Int))::Γ) R (H.set j (Own e 1 A m c (xs.take o++ys++xs.drop (o+ys.length))))):
    L X β n ds ops Q (⟨some d,.call ⟨.builtin .copy,#[x,y],#[t,t2]⟩,ty,pos,af,none⟩::rest) Γ R H:=by
 intro a w hf hsat;refine wpList_plain rfl fun K hK=>?_
 obtain ⟨e1,_⟩:=X.ok _ _ ht;rw [hdesc] at e1;obtain ⟨_,jf,hjf,g1,g2,g3⟩:=X.ok _ _ he;apply Y 0x3d0f;intro hown;have hlen:=Own.len hown
 rcases Nat.eq_zero_or_pos ys.length with h0|h0
 ·have hy0:ys=[]:=List.eq_nil_of_length_eq_zero h0;subst hy0;have hmin:Nat.min p dn=0:=(show min p dn=0 by simpa using hl.symm);have hrun:(Builtin.copy_ #[t,t2] ty #[.slice D dn dc,.slice B p q]).run X.P w=.ok (goInt 0) w:=by
   cases D with
   |none=>cases B<;>simp [Builtin.copy_,run_underlying e1,Builtin.lenOf,Builtin.firstCells,sizeOf,typeInfo,hjf,hmin,loadCells,loadCellsFrom]
   |some db=>cases B<;>simp [Builtin.copy_,run_underlying e1,Builtin.lenOf,Builtin.firstCells,sizeOf,typeInfo,hjf,hmin,loadCells,loadCellsFrom,storeCells]
  have hrun':(execOp a.eval ⟨some d,.call ⟨.builtin .copy,#[x,y],#[t,t2]⟩,ty,pos,af,none⟩).run X.P w=.ok (.value (goInt 0)) w:=by
   exact Zm 0xd00f
  apply Y 0x62e;rw [hrun'];refine hK _ _ (hh _ _ (hf.put oP _) ?_);have hsame:H.set j (Own e 1 A m c (xs.take o++[]++xs.drop (o+([]:List Value).length)))=H:=by
   simp only [List.append_nil,List.length_nil,Nat.add_zero,List.take_append_drop]
   apply List.ext_getElem?;intro k;rw [List.getElem?_set]
   split
   ·rename_i hk;subst hk;rw [hj]
    simp [(List.getElem?_eq_some_iff.1 hj).1]
   rfl
  rw [hsame]
  exact hsat
 ·obtain ⟨g,cur,rfl,hg,hmc,hcm,hcs,htake⟩:=cR hown oe;rw [Nat.mul_one] at hlen hcs htake;have hDe:=hD g rfl h0;subst hDe;obtain ⟨u0,hu0⟩:∃ u,ys[0]?=some u:=⟨_,List.getElem?_eq_getElem h0⟩;obtain ⟨b,rfl,_⟩:=hs β w hsat 0 u0 hu0;have hle:m≤cur.size:=oe;have hrun:=run_copy_row (P:=X.P) w t t2 ty e g o dn dc b p q cur e ys e1 (by rw [hjf];simp [g1,hsz]) hg hl (fun r u hu=>by
   obtain ⟨b',hb',hc⟩:=hs β w hsat r u hu
   injection hb' with hb'
   subst hb'
   exact hc) oe h1
  have hrun':(execOp a.eval ⟨some d,.call ⟨.builtin .copy,#[x,y],#[t,t2]⟩,ty,pos,af,none⟩).run X.P w=.ok (.value (goInt ys.length)) (w.setRow g (cur.toList.take o++ys++cur.toList.drop (o+ys.length)).toArray):=by
   exact Zm 0xd00f
  apply Y 0x62e;rw [hrun'];refine hK _ _ (hh _ _ (hf.put oP _) ?_);refine hsat.upd (w':=w.setRow g (cur.toList.take o++ys++cur.toList.drop (o+ys.length)).toArray) (m:=fun b=>b=g) hj ⟨rfl,rfl,rfl,by simp,fun b _ hb=>setRow_other w g b _ hb⟩ (fun b hb _=>⟨_,rfl,hb.symm⟩) (Own e 1 (some ⟨g,0,none⟩) m c (xs.take o++ys++xs.drop (o+ys.length))) ?_ (fun b hb=>⟨?_,.inr hb⟩)
  ·refine ⟨?_,.inr ⟨g,c,_,rfl,Nat.zero_le _,setRow_heap w g cur _ e _ hg,hmc,hcm,?_,?_⟩⟩
   ·simp
    omega
   ·simp
    omega
   rw [← htake,Nat.mul_one]
   apply List.ext_getElem?;intro q;have hcl:cur.toList.length=cur.size:=Ob;apply Y 0xba2f;have e1:min o cur.size=o:=oe;have e2:min o (min m cur.size)=o:=oe
   simp only [e1,e2]
   by_cases c1:q<m
   ·by_cases c2:q<o
    ·simp [c1,c2,show q<o+ys.length by omega]
    by_cases c3:q<o+ys.length
    ·simp [c1,c2,c3]
    simp [c1,c3,show o+ys.length+(q-(o+ys.length))<m by omega]
   have c2:¬ q<o:=oe;have c3:¬ q<o+ys.length:=oe
   simp [c1,c3,show ¬ o+ys.length+(q-(o+ys.length))<m by omega]
  show b<(w.setRow g _).heap.size;rw [setRow_size]
  exact (hsat.ofp j _ hj b hb).1
end
section
variable {X:Cx}{β:Base}{n:Nat}{ds:List Deferred}{ops:Array Oper}{Q:Exit→Act→World→Prop}{Γ:Env}{R H:List Pr}{rest:List Oper}
theorem C.norm {c:Code}{H':List Pr}(hs:List Nat)(hp:Pk H hs H')(hn:hs.Nodup)(h:C X β n ds Q c Γ R H'):C X β n ds Q c Γ R H:=fun a w hf hw=>h a w hf (hw.pk hp hn)
theorem L.norm {H':List Pr}(hs:List Nat)(hp:Pk H hs H')(hn:hs.Nodup)(h:L X β n ds ops Q rest Γ R H'):L X β n ds ops Q rest Γ R H:=fun a w hf hw=>h a w hf (hw.pk hp hn)
theorem QE.norm {x:Exit}{H':List Pr}(hs:List Nat)(hp:Pk H hs H')(hn:hs.Nodup)(h:QE β n ds Q x Γ R H'):QE β n ds Q x Γ R H:=fun a w hf hw=>h a w hf (hw.pk hp hn)
end
abbrev Hd:=Option Addr×Nat
def aB (hs:List Hd)(vss:List (List Value)):List Value:=List.zipWith (fun h v=>.slice h.1 v.length h.2) hs vss
theorem bt {hs:List Hd}{vss:List (List Value)}(h:hs.length=vss.length):(aB hs vss).length=vss.length:=by simp [aB,h]
theorem zF {hs:List Hd}{vss:List (List Value)}(h:hs.length=vss.length){i:Nat}(hi:i<vss.length):(aB hs vss)[i]?=some (.slice (hs.getD i (none,0)).1 (vss.getD i []).length (hs.getD i (none,0)).2):=by
 have h1:i<hs.length:=oe
 simp [aB,List.getElem?_zipWith,h1,hi]
theorem rp (hs:List Hd)(vss:List (List Value)):∀ v∈aB hs vss,v.oneCell'=true:=by
 intro v hv;obtain ⟨i,hi,rfl⟩:=List.getElem_of_mem hv
 simp [aB,Value.oneCell']
theorem rq {hs:List Hd}{vss:List (List Value)}(h:hs.length=vss.length)(g:Hd)(v:List Value):aB hs vss++[.slice g.1 v.length g.2]=aB (hs++[g]) (vss++[v]):=by
 unfold aB;rw [List.zipWith_append h]
 rfl
def EK (h:Hd)(k:Nat):Prop:=∃ a,h.1=some a∧a.block=k
def KidsR (hs:List Hd)(vss:List (List Value)):Pr where
  fp k:=∃ (i:Nat) (h:Hd) (v:List Value),hs[i]?=some h∧vss[i]?=some v∧(Rd h.1 v).fp k
  p w:=∀ (i:Nat) (h:Hd) (v:List Value),hs[i]?=some h→vss[i]?=some v→(Rd h.1 v).p w
  st:=by
    intro w w' hk hp i h v hh hv
    exact (Rd h.1 v).st w w' (fun k hkk=>hk k ⟨i,h,v,hh,hv,hkk⟩) (hp i h v hh hv)
def aw (e:TypeId)(hs:List Hd)(vss:List (List Value)):Pr where
  fp k:=∃ (i:Nat) (h:Hd),hs[i]?=some h∧EK h k
  p w:=hs.length=vss.length∧(∀ (i:Nat) (h:Hd) (v:List Value),hs[i]?=some h→vss[i]?=some v→(Own e 1 h.1 v.length h.2 v).p w)∧
    (∀ (i j:Nat) (g h:Hd),hs[i]?=some g→hs[j]?=some h→i≠j→∀ k,EK g k→¬ EK h k)
  st:=by
    intro w w' hk hp
    refine ⟨hp.1,fun i h v hh hv=>(Own e 1 h.1 v.length h.2 v).st w w' (fun k hkk=>hk k ⟨i,h,hh,hkk⟩) (hp.2.1 i h v hh hv),hp.2.2⟩
section
variable {X:Cx}{β:Base}{n:Nat}{ds:List Deferred}{ops:Array Oper}{Q:Exit→Act→World→Prop}{rest:List Oper}{Γ:Env}{R H:List Pr}
theorem getD_some {α:Type}{l:List α}{i:Nat}{d:α}(h:i<l.length):l[i]?=some (l.getD i d):=by simp [h]
theorem Src.kid (j:Nat){hs:List Hd}{vss:List (List Value)}(hj:R[j]?=some (KidsR hs vss))(hl:hs.length=vss.length)(i:Nat)(hi:i<vss.length):Src R H (hs.getD i (none,0)).1 (vss.getD i []):=by
 intro β w hsat q u hu
 exact (hsat.rd _ (List.mem_of_getElem? hj)) i _ _ (getD_some oe) (getD_some hi) q u hu
theorem Src.okid (j:Nat){e:TypeId}{hs:List Hd}{vss:List (List Value)}(hj:H[j]?=some (aw e hs vss))(hl:hs.length=vss.length)(i:Nat)(hi:i<vss.length):Src R H (hs.getD i (none,0)).1 (vss.getD i []):=by
 intro β w hsat q u hu;have:=(hsat.own j _ hj).2.1 i (hs.getD i (none,0)) (vss.getD i []) (getD_some oe) (getD_some hi);obtain ⟨g,hA,hc,_⟩:=Own.cell this hu;exact Zm 0x9e0f
theorem ck (j:Nat){e:TypeId}{hs:List Hd}{vss:List (List Value)}(hj:H[j]?=some (aw e hs vss)):Has R H (KidsR hs vss):=by
 refine ⟨fun β w hsat i h v hh hv q u hu=>?_,fun k hk=>?_⟩
 ·obtain ⟨g,hA,hc,_⟩:=Own.cell ((hsat.own j _ hj).2.1 i h v hh hv) hu;exact Zm 0x9e0f
 apply Y 0xeb1f;intro i h v hh hv hk
 exact .inr ⟨j,_,hj,i,h,hh,hk.2⟩
theorem Has.kid (j:Nat){hs:List Hd}{vss:List (List Value)}(hj:R[j]?=some (KidsR hs vss))(hl:hs.length=vss.length)(i:Nat)(hi:i<vss.length):Has R H (Rd (hs.getD i (none,0)).1 (vss.getD i [])):=
  ⟨fun β w hsat=>Src.kid (H:=H) j hj hl i hi β w hsat,fun k hk=>.inl ⟨_,List.mem_of_getElem? hj,i,_,_,getD_some oe,getD_some hi,hk⟩⟩
theorem Has.okid (j:Nat){e:TypeId}{hs:List Hd}{vss:List (List Value)}(hj:H[j]?=some (aw e hs vss))(hl:hs.length=vss.length)(i:Nat)(hi:i<vss.length):Has R H (Rd (hs.getD i (none,0)).1 (vss.getD i [])):=
  ⟨fun β w hsat=>Src.okid (R:=R) j hj hl i hi β w hsat,fun k hk=>.inr ⟨j,_,hj,i,_,getD_some oe,hk.2⟩⟩
theorem Has.kids0:Has R H (KidsR [] []):=⟨fun _ _ _ i h v hh=>by simp at hh,fun k ⟨i,h,v,hh,_⟩=>by simp at hh⟩
theorem uV (i j s c:Nat){hs:List Hd}{vss:List (List Value)}{A:Option Addr}{xs:List Value}(hi:R[i]?=some (KidsR hs vss))(hj:R[j]?=some (Rd A xs)):Has R H (KidsR (hs.set s (A,c)) (vss.set s xs)):=by
 refine ⟨fun β w hw q h v hh hv=>?_,fun k ⟨q,h,v,hh,hv,hk⟩=>?_⟩
 ·by_cases hq:s=q
  ·subst hq;rw [List.getElem?_set] at hh hv
   simp only [if_true] at hh hv
   split at hh
   ·split at hv
    ·cases hh
     cases hv
     exact hw.rd _ (List.mem_of_getElem? hj)
    cases hv
   cases hh
  rw [List.getElem?_set_ne hq] at hh hv
  exact hw.rd _ (List.mem_of_getElem? hi) q h v hh hv
 by_cases hq:s=q
 ·subst hq;rw [List.getElem?_set] at hh hv
  simp only [if_true] at hh hv
  split at hh
  ·split at hv
   ·cases hh
    cases hv
    exact .inl ⟨_,List.mem_of_getElem? hj,hk⟩
   cases hv
  cases hh
 rw [List.getElem?_set_ne hq] at hh hv
 exact .inl ⟨_,List.mem_of_getElem? hi,q,h,v,hh,hv,hk⟩
theorem Sat.kids0 {w:World}(h:Sat β w R H)(e:TypeId):Sat β w R (H++[aw e [] []]):=by
 refine h.snoc (Stp.refl w fun _=>False) (fun _ h _=>h) _ ⟨rfl,fun i h v hh=>by simp at hh,fun i j g h hg=>by simp at hg⟩ ?_;rintro k ⟨i,h,hh,_⟩
 simp at hh
theorem C.kids0 {c:Code}(e:TypeId)(h:C X β n ds Q c Γ R (H++[aw e [] []])):C X β n ds Q c Γ R H:=fun a w hf hs=>h a w hf (hs.kids0 e)
theorem Sat.absorb {w:World}(h:Sat β w R H){j q e m c:Nat}{hs:List Hd}{vss:List (List Value)}{A:Option Addr}{xs:List Value}(hj:H[j]?=some (aw e hs vss))(hq:H[q]?=some (Own e 1 A m c xs))
    (js:List Nat) (hn:(j::q::js).Nodup):Sat β w R (aw e (hs++[(A,c)]) (vss++[xs])::Sl.sel H js):=by
 have hjq:j≠q:=fun e=>by subst e;simp at hn
 have hjs:j∉js:=fun e=>by simp [e] at hn
 have hqs:q∉js:=fun e=>by simp [e] at hn
 have nd:js.Nodup:=by
  have:=(List.nodup_cons.1 (List.nodup_cons.1 hn).2).2
  exact this
 have ok:=h.own j _ hj;have oq:=h.own q _ hq;have hm:xs.length=m:=by have:=Own.len oq;omega
 have hap:∀ k,(aw e hs vss).fp k→¬ (Own e 1 A m c xs).fp k:=fun k h1 h2=>h.dis j q _ _ hj hq hjq k h1 h2
 have hfp:∀ k,(aw e (hs++[(A,c)]) (vss++[xs])).fp k→(aw e hs vss).fp k∨(Own e 1 A m c xs).fp k:=by
  apply Y 0x560f;intro k i g hg hk;rw [List.getElem?_append] at hg
  split at hg
  ·exact .inl ⟨i,g,hg,hk⟩
  cases hi:i-hs.length with
  |zero=>rw [hi] at hg;simp at hg;subst hg;exact .inr hk
  |succ i=>rw [hi] at hg;simp at hg
 refine h.put (Stp.refl w fun _=>False) (fun _ hk=>hk.elim) R _ (fun r hr=>.inl hr) ?_ ?_ ?_
 ·intro i d hd
  cases i with
  |zero=>
   simp at hd;subst hd;refine ⟨⟨by simp [ok.1],?_,?_⟩,fun k hk=>?_⟩
   ·intro i g v hg hv;rw [List.getElem?_append] at hg hv
    split at hg
    ·rename_i hlt;rw [if_pos (by rw [← ok.1];exact hlt)] at hv
     exact ok.2.1 i g v hg hv
    rename_i hge;rw [if_neg (by rw [← ok.1];exact hge)] at hv;rw [← ok.1] at hv
    cases hi:i-hs.length with
    |zero=>
     rw [hi] at hg hv
     simp at hg hv;subst hg hv;rw [hm]
     exact oq
    |succ i=>rw [hi] at hg;simp at hg
   ·intro i i' g g' hg hg' hne k hk hk';rw [List.getElem?_append] at hg hg'
    split at hg
    ·split at hg'
     ·exact ok.2.2 i i' g g' hg hg' hne k hk hk'
     cases hi:i'-hs.length with
     |zero=>rw [hi] at hg';simp at hg';subst hg';exact hap k ⟨i,g,hg,hk⟩ hk'
     |succ i=>rw [hi] at hg';simp at hg'
    cases hi:i-hs.length with
    |zero=>
     rw [hi] at hg
     simp at hg;subst hg
     split at hg'
     ·exact hap k ⟨i',g',hg',hk'⟩ hk
     cases hi':i'-hs.length with
     |zero=>omega
     |succ i=>rw [hi'] at hg';simp at hg'
    |succ i=>rw [hi] at hg;simp at hg
   rcases hfp k hk with y|y
   ·exact ⟨(h.ofp j _ hj k y).1,.inr ⟨j,_,hj,y⟩⟩
   exact ⟨(h.ofp q _ hq k y).1,.inr ⟨q,_,hq,y⟩⟩
  |succ i=>
   simp at hd;obtain ⟨p,_,hp⟩:=aD (List.mem_of_getElem? hd);exact ⟨h.own p d hp,fun k hk=>⟨(h.ofp p d hp k hk).1,.inr ⟨p,d,hp,hk⟩⟩⟩
 ·have cross:∀ (d:Pr),d∈Sl.sel H js→∀ k,(aw e (hs++[(A,c)]) (vss++[xs])).fp k→¬ d.fp k:=by
   intro d hd k hk hk';apply Y 0xfd0f;intro p hp hpd
   rcases hfp k hk with y|y
   ·exact h.dis j p _ d hj hpd (fun e=>hjs (e▸hp)) k y hk'
   exact h.dis q p _ d hq hpd (fun e=>hqs (e▸hp)) k y hk'
  intro i i' d d' hd hd' hne k hk hk'
  cases i with
  |zero=>
   simp at hd;subst hd
   cases i' with
   |zero=>exact hne rfl
   |succ i'=>simp at hd';exact cross d' (List.mem_of_getElem? hd') k hk hk'
  |succ i=>
   simp at hd
   cases i' with
   |zero=>simp at hd';subst hd';exact cross d (List.mem_of_getElem? hd) k hk' hk
   |succ i'=>
    simp at hd';obtain ⟨p,q,_,_,hpq,hp,hq⟩:=iM nd i i' d d' hd hd' oe;exact Zm 0x6e0f
 intro r hr i d hd k hk hk'
 cases i with
 |zero=>
  simp at hd;subst hd
  rcases hfp k hk' with y|y
  ·exact h.sep r hr j _ hj k hk y
  exact h.sep r hr q _ hq k hk y
 |succ i=>
  simp at hd;obtain ⟨p,_,hp⟩:=aD (List.mem_of_getElem? hd)
  exact h.sep r hr p d hp k hk hk'
theorem QE.absorb {x:Exit}(j q:Nat){e m c:Nat}{hs:List Hd}{vss:List (List Value)}{A:Option Addr}{xs:List Value}(hj:H[j]?=some (aw e hs vss))(hq:H[q]?=some (Own e 1 A m c xs))(js:List Nat)(hn:(j::q::js).Nodup)
    (h:QE β n ds Q x Γ R (aw e (hs++[(A,c)]) (vss++[xs])::Sl.sel H js)):QE β n ds Q x Γ R H:=fun a w hf hs'=>h a w hf (hs'.absorb hj hq js hn)
theorem mT {t ty k j e i:Nat}{pos:String}{af:Array Edge}{x y:Operand}{v:Value}{ii:Ti}{hs:List Hd}{vss:List (List Value)}(ht:au t X.tab=some ii)(hj:H[j]?=some (aw e hs vss))(hl:hs.length=vss.length)(hi:i<vss.length)
    (hx:ev Γ x=some (ag (hs.getD i (none,0)).1 k)) (hy:ev Γ y=some v) (hv:v.cells=#[v]) (h1:v.oneCell'=true) (hsz:ii.size=1) (hk:k<(vss.getD i []).length)
    (hh:L X β n ds ops Q rest Γ R (H.set j (aw e hs (vss.set i ((vss.getD i []).set k v))))):
    L X β n ds ops Q (⟨none,.store t x y,ty,pos,af,none⟩::rest) Γ R H:=by
 intro a w hf hsat;refine wpList_plain rfl fun K hK=>?_
 apply Y 0x3d0f;intro ok;have hgi:hs[i]?=some (hs.getD i (none,0)):=getD_some oe;apply Y 0xd91f;intro hvi;have oi:=ok.2.1 i _ _ hgi hvi
 generalize hs.getD i (none,0)=hdi at*
 generalize vss.getD i []=vi at*;obtain ⟨g,hA,hc,hfr⟩:=Own.cell oi (List.getElem?_eq_getElem hk);obtain ⟨A,cc⟩:=hdi
 simp only at hA;subst hA;have hx':a.eval x=.pointer (some ⟨g,k,none⟩):=q9;apply Y 0x4ee;intro hS;apply Y 0xb61f;intro hst;apply Y 0xc71f;intro ha0;apply Y 0x62e;have hrun:(execOp a.eval ⟨none,.store t x y,ty,pos,af,none⟩).run X.P w=.ok .skip (w.setCell ⟨g,k,none⟩ v):=by
  exact Zm 0x461f
 rw [hrun];apply Y 0x621f;have hstr:=World.ownsRow.stored (show w.ownsRow 0 e 1 (.slice (some ⟨g,0,none⟩) vi.length cc) vi.length vi from oi) k v;have hgb:EK (some ⟨g,0,none⟩,cc) g:=⟨_,rfl,rfl⟩;refine hsat.upd (w':=w.setCell ⟨g,k,none⟩ v) (m:=fun b=>b=g) hj (Stp.setCell w ⟨g,k,none⟩ v) (fun b hb _=>⟨i,_,hgi,by subst hb;exact hgb⟩) (aw e hs (vss.set i (vi.set k v))) ?_ (fun b hb=>⟨?_,.inr hb⟩)
 ·refine ⟨by simpa using hl,?_,ok.2.2⟩;intro q h u hq hu;rw [List.getElem?_set] at hu
  split at hu
  ·rename_i hiq;subst hiq
   injection hu with hu
   subst hu;rw [hgi] at hq
   injection hq with hq
   subst hq;rw [List.length_set]
   exact hstr.1
  rename_i hiq;refine (Own e 1 h.1 u.length h.2 u).st w _ (fun b hb=>?_) (ok.2.1 q h u hq hu);refine (Stp.setCell w ⟨g,k,none⟩ v).block b ?_ ?_
  ·exact (hsat.ofp j _ hj b ⟨q,h,hq,hb⟩).1
  intro hbg;have hbg':b=g:=hbg;subst hbg'
  exact ok.2.2 i q _ h hgi hq hiq b hgb hb
 rw [World.size_setCell]
 exact (hsat.ofp j _ hj b hb).1
theorem Sat.freezeKids {w:World}(h:Sat β w R H){j e:Nat}{hs:List Hd}{vss:List (List Value)}(hj:H[j]?=some (aw e hs vss)){js:List Nat}(hn:js.Nodup)(hjj:js.contains j=false):Sat β w (KidsR hs vss::R) (Sl.sel H js):=by
 apply Y 0xfb0f;intro hnj;have hk1:∀ k,(KidsR hs vss).fp k→(aw e hs vss).fp k:=by
  rintro k ⟨i,g,v,hg,hv,hk⟩;exact ⟨i,g,hg,hk.2⟩
 refine h.put (Stp.refl w fun _=>False) (fun _ hk=>hk.elim) _ _ ?_ ?_ ?_ ?_
 ·intro r hr
  rcases List.mem_cons.1 hr with rfl|hr
  ·exact .inr ⟨(ck (R:=R) j hj).1 β w h,fun k hk=>⟨(h.ofp j _ hj k (hk1 k hk)).1,.inr (.inl ⟨j,_,hj,hk1 k hk⟩)⟩⟩
  exact .inl hr
 ·intro i d hd;obtain ⟨q,_,hq⟩:=aD (List.mem_of_getElem? hd);exact Zm 0x1e1f
 ·intro i i' d d' hd hd' hne k hk hk';obtain ⟨p,q,_,_,hpq,hp,hq⟩:=iM hn i i' d d' hd hd' hne;exact Zm 0x6e0f
 intro r hr i d hd k hk hk';apply Y 0x8ee;intro q hq hqd
 rcases List.mem_cons.1 hr with rfl|hr
 ·exact h.dis j q _ d hj hqd (fun e=>hnj (e▸hq)) k (hk1 k hk) hk'
 exact h.sep r hr q d hqd k hk hk'
theorem C.freezeKids {x:Code}(j:Nat){e:Nat}{hs:List Hd}{vss:List (List Value)}(hj:H[j]?=some (aw e hs vss))(js:List Nat)(hn:js.Nodup)(hjj:js.contains j=false)(h:C X β n ds Q x Γ (KidsR hs vss::R) (Sl.sel H js)):C X β n ds Q x Γ R H:=
  fun a w hf hs'=>h a w hf (hs'.freezeKids hj hn hjj)
theorem QE.freezeKids {x:Exit}(j:Nat){e:Nat}{hs:List Hd}{vss:List (List Value)}(hj:H[j]?=some (aw e hs vss))(js:List Nat)(hn:js.Nodup)(hjj:js.contains j=false)(h:QE β n ds Q x Γ (KidsR hs vss::R) (Sl.sel H js)):QE β n ds Q x Γ R H:=
  fun a w hf hs'=>h a w hf (hs'.freezeKids hj hn hjj)
end
def B8 (ls:List (List UInt8)):List (List Value):=ls.map U8
theorem b6 (ls:List (List UInt8)):(B8 ls).length=ls.length:=by simp [B8]
theorem bB {ls:List (List UInt8)}(i:Nat):(B8 ls).getD i []=U8 (ls.getD i []):=by
 by_cases h:i<ls.length
 ·simp [B8,h]
 simp [B8,List.getElem?_eq_none (Nat.le_of_not_lt h),U8]
theorem Mv (a b:List (List UInt8)):B8 a++B8 b=B8 (a++b):=by simp [B8]
theorem xn (ls:List (List UInt8))(i:Nat)(l:List UInt8):(B8 ls).set i (U8 l)=B8 (ls.set i l):=by simp [B8,List.map_set]
theorem bm {hs:List Hd}{ls:List (List UInt8)}(h:hs.length=ls.length){i:Nat}(hi:i<ls.length):(aB hs (B8 ls))[i]?=some (.slice (hs.getD i (none,0)).1 (ls.getD i []).length (hs.getD i (none,0)).2):=by
 rw [zF obL obF,bB,aH]
end Go.Sl
