/- A part of the proof that the law returns true for every input: an executor for the model's code, and what functions of the program compute. -/
import Derived.Test.YtcafjpldfnegiaaGreatDoorB01
import Derived.Test.YtcafjpldfnegiaaGreatDoorB12
open Go Go.Proofs Go.Proofs.YtcafjpldfnegiaaGreatDoor
namespace Go.Fw
open Go.ChangeShapes Go.WideShapes Go.ChangeAt Go.RowKit
set_option maxRecDepth 100000
def z7M(P:Program)(fn:Func)(s:ChangeSpec)(c:OpenClaim):Bool:=
 c.wf (OpenSpec.ofChange s)&&true&&true&&
 fn.params.all (P.readableRec ·)&&namedTie P c.named s.vars&&
 (c.stops==[])&&true&&(c.knobs==[])&&true&&
 true&&true&&true&&true&&
 (c.maps==(fn.params.toList++s.plain.varTypes P).any (P.mapsRec ·))&&(c.ifaces==(fn.params.toList++s.plain.varTypes P).any (P.ifacesRec ·))&&(c.mapsOut==P.mapsAmong fn.resultTypes.toList)&&
 (c.loops==(fn.params.toList++s.plain.varTypes P).any (P.loopsFrom ·))&&(c.wideKeys==(fn.params.toList++s.plain.varTypes P++fn.resultTypes.toList).any (P.wideKeysFrom ·))&&
 s.vars.all (P.varReadable ·)&&fn.resultTypes.all (fun t=>P.readableRec t&&decide (t<P.types.size))&&(c.ifacesOut==fn.resultTypes.toList.any (P.ifacesRec ·))&&(c.loopsOut==fn.resultTypes.toList.any (P.loopsFrom ·))&&(c.plainKeys==Rows.wheelOrdersRow.plainKeys)&&c.shortTexts.isNone&&true&&true&&(c.lifted==Rows.wheelOrdersRow.lifted)&&(some Rows.wheelOrdersRow.make==some c.make)&&(c.kinds==(if c.domain.isEmpty then []else fn.params.toList.map fun t=>match P.underlying t with|some (.int k)=>some k|_=>none))&&(c.pinned==c.pinnedBy)&&
 (c.veiled==(fn.params.toList++s.plain.varTypes P++fn.resultTypes.toList).any (P.veiledRec ·))&&c.veiledFits P fn.params.toList (fn.params.toList++s.plain.varTypes P++fn.resultTypes.toList)
theorem zcy {f : FuncId} {fn : Func} {s : ChangeSpec} {c : OpenClaim} (h6 : (c.inPlace == Tryz.prog.inPlace f) = true) (h7 : (c.unfollowed == Tryz.prog.unfollowed f) = true) (h8 : (c.recurses == Tryz.prog.recurses f) = true) (h9 : (c.named == Tryz.prog.varsNamed f) = true)
    (hrest:z7M Tryz.prog fn s c=true):joinedFacts Tryz.prog f fn s c=true:=by
 unfold joinedFacts
 rw[zdV,zhg,zgA,zeZ,←zfE,zj7,←zhA,zfB,zg4,h6,h7,h8,h9]
 exact hrest
end Go.Fw
open Go Go.Proofs Go.Proofs.YtcafjpldfnegiaaGreatDoor
namespace Go.Fw
open Go.ChangeShapes Go.WideShapes Go.ChangeAt Go.RowKit
set_option maxRecDepth 100000
inductive CT where
 |b
 |i (k:IntKind)
 |s
def CT.ok:CT→Value→Prop
 | .b,v=> ∃b,v= .bool b
 | .i k,v=> ∃n,v= .int k n∧(Lit.int k n).wf=true
 | .s,v=> ∃s,v= .string s
def CTs:List CT→List Value→Prop
 | [],l=>l=[]
 |c::cs,l=> ∃v vs,l=v::vs∧c.ok v∧CTs cs vs
theorem CTs.length: ∀{ts:List CT} {l:List Value},CTs ts l→l.length=ts.length
 | [],l,h=>by simp only[CTs]at h;subst h;rfl
 |c::cs,l,h=>by
  simp only[CTs]at h
  obtain⟨v,vs,rfl,_,h2⟩:=h
  simp[CTs.length h2]
theorem CTs.app: ∀{ts us:List CT} {l m:List Value},CTs ts l→CTs us m→CTs (ts++us) (l++m)
 | [],us,l,m,h,k=>by simp only[CTs]at h;subst h;simpa using k
 |c::cs,us,l,m,h,k=>by
  simp only[CTs]at h
  obtain⟨v,vs,rfl,h1,h2⟩:=h
  simp only[List.cons_append,CTs]
  exact⟨v,vs++m,rfl,h1,CTs.app h2 k⟩
def z7U(P:Program)(f:TypeId→Option (List CT)):Nat→List Field→Option (List CT)
 |_,[]=>some []
 |off,fd::fs=>
  if fd.offset=off then
   match f fd.type with
   |some ts=>
    if ts.length=P.cellsOf fd.type then
     match z7U P f (off+ts.length) fs with
     |some r=>some (ts++r)
     |none=>none
    else none
   |none=>none
  else none
def zp9(ts:List CT):Nat→List CT
 |0=>[]
 |n+1=>ts++zp9 ts n
def z2y(P:Program):Nat→TypeId→Option (List CT)
 |0,_=>none
 |m+1,t=>
  match P.underlying t with
  |some .bool=>some [.b]
  |some (.int k)=>some [.i k]
  |some .string=>some [.s]
  |some (.struct fs)=>match z7U P (z2y P m) 0 fs.toList with
   |some ts=>if ts.length=P.cellsOf t then some ts else none
   |none=>none
  |some (.array n e)=>match z2y P m e with
   |some ts=>if ts.length=P.cellsOf e∧n*ts.length=P.cellsOf t then some (zp9 ts n)else none
   |none=>none
  |_=>none
section
variable{H:Type}{enc:TypeId×Value→H}{P:Program}{w:World}{base:Nat}{sp:Nat→Bool}{hd:Bool}
theorem z0L{α β:Type}{f:α→Option β}{a:α}{l:List α}{r:List β}(h:(a::l).mapM f=some r): ∃x xs,f a=some x∧l.mapM f=some xs∧r=x::xs:=by
 rw[List.mapM_cons]at h
 cases hf:f a with
 |none=>simp[hf]at h
 |some x=>
  cases hl:l.mapM f with
  |none=>simp[hf,hl]at h
  |some xs=>simp[hf,hl]at h;exact⟨x,xs,rfl,rfl,h.symm⟩
theorem z9E {f : TypeId → Option (List CT)} {g : TypeId → List Value → Option (DataW H × List MemPlace)} (hfg : ∀ t l x ts, g t l = some x → f t = some ts → CTs ts l) (cs : List Value) :
    ∀(fs:List Field) (off:Nat) (ts:List CT) (xs:List (DataW H×List MemPlace)),z7U P f off fs=some ts→(fs.mapM fun fd=>g fd.type ((cs.drop fd.offset).take (P.cellsOf fd.type)))=some xs→off+ts.length=cs.length→CTs ts (cs.drop off)
 | [],off,ts,xs,h,_,hl=>by
  simp only[z7U]at h;cases h
  simp at hl
  simp only[CTs]
  rw[List.drop_eq_nil_iff];omega
 |fd::fs,off,ts,xs,h,hm,hl=>by
  simp only[z7U]at h
  split at h
  · rename_i ho
    split at h
    · rename_i ts1 h1
      split at h
      · rename_i hlen
        split at h
        · rename_i r hr
          cases h
          obtain⟨x,xs',e1,e2,_⟩:=z0L hm
          have k1:=hfg _ _ _ _ e1 h1
          simp only[List.length_append]at hl
          have k2:=z9E hfg cs fs (off+ts1.length) r xs' hr e2 (by omega)
          have:=CTs.app k1 k2
          rw[ho,←hlen]at this
          rw[←List.drop_drop,List.take_append_drop]at this
          exact this
        · cases h
      · cases h
    · cases h
  · cases h
theorem zc0 {e : TypeId} {ts : List CT} {g : List Value → Option (DataW H × List MemPlace)} (hg : ∀ l x, g l = some x → CTs ts l) (hlen : ts.length = P.cellsOf e) (cs : List Value) :
    ∀(n k:Nat) (xs:List (DataW H×List MemPlace)),((List.range' k n).mapM fun i=>g ((cs.drop (i*P.cellsOf e)).take (P.cellsOf e)))=some xs→(k+n)*ts.length=cs.length→CTs (zp9 ts n) (cs.drop (k*ts.length))
 |0,k,xs,_,hl=>by
  simp only[zp9,CTs]
  rw[List.drop_eq_nil_iff];simp at hl;omega
 |n+1,k,xs,h,hl=>by
  rw[List.range'_succ]at h
  obtain⟨x,xs',e1,e2,_⟩:=z0L h
  have k1:=hg _ _ e1
  have k2:=zc0 hg hlen cs n (k+1) xs' e2 (by rw[←hl];congr 1;omega)
  have:=CTs.app k1 k2
  rw[←hlen,Nat.add_mul,Nat.one_mul,←List.drop_drop,List.take_append_drop]at this
  exact this
theorem z1M: ∀(m fuel:Nat) (t:TypeId) (cs:List Value) (x:DataW H×List MemPlace) (ts:List CT),DataW.trod enc P w base sp hd fuel t cs=some x→z2y P m t=some ts→CTs ts cs
 |0,_,_,_,_,_,_,h=>by simp[z2y]at h
 |m+1,0,_,_,_,_,h,_=>by simp[DataW.trod]at h
 |m+1,fuel+1,t,cs,x,ts,h,hf=>by
  simp only[z2y]at hf
  split at hf
  · rename_i hu
    cases hf
    simp only[DataW.trod,hu]at h
    split at h<;>first|(rename_i he;cases he;done)|skip
    all_goals first|(simp only[CTs,CT.ok];exact⟨_,_,rfl,⟨_,rfl⟩,rfl⟩)|simp_all
  · rename_i k hu
    cases hf
    simp only[DataW.trod,hu]at h
    split at h
    all_goals first|(simp_all;done)|skip
    all_goals (rename_i he;cases he;split at h;rename_i hk;obtain⟨rfl,hw⟩:=hk;simp only[CTs,CT.ok];exact⟨_,_,rfl,⟨_,rfl,hw⟩,rfl⟩;cases h)
  · rename_i hu
    cases hf
    simp only[DataW.trod,hu]at h
    split at h<;>first|(rename_i he;cases he;done)|skip
    all_goals first|(simp only[CTs,CT.ok];exact⟨_,_,rfl,⟨_,rfl⟩,rfl⟩)|simp_all
  · rename_i fs hu
    split at hf
    · rename_i ts' hts
      split at hf
      · rename_i hl
        cases hf
        have h':(if cs.length=P.cellsOf t then(fs.toList.mapM fun f=>DataW.trod enc P w base sp hd fuel f.type ((cs.drop f.offset).take (P.cellsOf f.type))).map fun xs=>(DataW.agg (xs.map (·.1)),xs.flatMap (·.2))else none)=some x:=by
         rw[←h];simp only[DataW.trod,hu]
        split at h'
        · rename_i hc
          cases hm:(fs.toList.mapM fun f=>DataW.trod enc P w base sp hd fuel f.type ((cs.drop f.offset).take (P.cellsOf f.type)))with
          |none=>rw[hm]at h';cases h'
          |some xs=>
           have:=z9E (P:=P) (fun t l x ts a b=>z1M m fuel t l x ts a b) cs _ 0 _ xs hts hm (by omega)
           simpa using this
        · cases h'
      · cases hf
    · cases hf
  · rename_i n e hu
    split at hf
    · rename_i ts' hts
      split at hf
      · rename_i hl
        cases hf
        have h':(if cs.length=P.cellsOf t then((List.range n).mapM fun i=>DataW.trod enc P w base sp hd fuel e ((cs.drop (i*P.cellsOf e)).take (P.cellsOf e))).map fun xs=>(DataW.agg (xs.map (·.1)),xs.flatMap (·.2))else none)=some x:=by
         rw[←h];simp only[DataW.trod,hu]
        split at h'
        · rename_i hc
          cases hm:((List.range n).mapM fun i=>DataW.trod enc P w base sp hd fuel e ((cs.drop (i*P.cellsOf e)).take (P.cellsOf e)))with
          |none=>rw[hm]at h';cases h'
          |some xs=>
           rw[List.range_eq_range']at hm
           have:=zc0 (P:=P) (e:=e) (fun l x a=>z1M m fuel e l x ts' a hts) hl.1 cs n 0 xs hm (by rw[hc,←hl.2];simp)
           simpa using this
        · cases h'
      · cases hf
    · cases hf
  · cases hf
theorem z6g(I:Imm): ∀l:List Value,CV.repL I (l.map .lit) l
 | []=>rfl
 |v::l=>⟨v,l,rfl,rfl,z6g I l⟩
theorem zko(I:Imm)(l:List Value):CV.rep I (.agg (l.map .lit)) (.agg l.toArray):=⟨l.toArray,rfl,z6g I l⟩
end
end Go.Fw
open Go Go.Proofs Go.Proofs.YtcafjpldfnegiaaGreatDoor
namespace Go.Fw
open Go.ChangeShapes Go.WideShapes Go.ChangeAt Go.RowKit
set_option maxRecDepth 100000
def Bk(n:Nat)(cs:List Value):Prop:= ∀s,Value.string s∈cs→s.size≤n
theorem Bk.app{n a b:Nat}{l m:List Value}(h:Bk a l)(k:Bk b m)(ha:a≤n)(hb:b≤n):Bk n (l++m):=fun s hs=>by
 rcases List.mem_append.1 hs with h'|h'
 · exact Nat.le_trans (h s h') ha
 · exact Nat.le_trans (k s h') hb
section
variable{H:Type}{enc:TypeId×Value→H}{P:Program}{w:World}{base:Nat}{sp:Nat→Bool}{hd:Bool}
theorem zat {f : TypeId → Option (List CT)} {g : TypeId → List Value → Option (DataW H × List MemPlace)} (hfg : ∀ t l x ts, g t l = some x → f t = some ts → CTs ts l ∧ Bk (Rows.uptoBulk x.1) l) (cs : List Value) :
    ∀(fs:List Field) (off:Nat) (ts:List CT) (xs:List (DataW H×List MemPlace)),z7U P f off fs=some ts→(fs.mapM fun fd=>g fd.type ((cs.drop fd.offset).take (P.cellsOf fd.type)))=some xs→off+ts.length=cs.length→Bk (Rows.uptoBulkAll (xs.map (·.1))) (cs.drop off)
 | [],off,ts,xs,h,_,hl=>by
  simp only[z7U]at h;cases h
  simp at hl
  rw[List.drop_of_length_le (by omega)]
  intro s hs;cases hs
 |fd::fs,off,ts,xs,h,hm,hl=>by
  simp only[z7U]at h
  split at h
  · rename_i ho
    split at h
    · rename_i ts1 h1
      split at h
      · rename_i hlen
        split at h
        · rename_i r hr
          cases h
          obtain⟨x,xs',e1,e2,rfl⟩:=z0L hm
          obtain⟨_,k1⟩:=hfg _ _ _ _ e1 h1
          simp only[List.length_append]at hl
          have k2:=zat hfg cs fs (off+ts1.length) r xs' hr e2 (by omega)
          have:Bk (Rows.uptoBulkAll ((x::xs').map (·.1))) _:=Bk.app k1 k2 (by simp only[List.map_cons,Rows.uptoBulkAll];omega) (by simp only[List.map_cons,Rows.uptoBulkAll];omega)
          rw[ho,←hlen,←List.drop_drop,List.take_append_drop]at this
          exact this
        · cases h
      · cases h
    · cases h
  · cases h
theorem zcm {e : TypeId} {ts : List CT} {g : List Value → Option (DataW H × List MemPlace)} (hg : ∀ l x, g l = some x → Bk (Rows.uptoBulk x.1) l) (hlen : ts.length = P.cellsOf e) (cs : List Value) :
    ∀(n k:Nat) (xs:List (DataW H×List MemPlace)),((List.range' k n).mapM fun i=>g ((cs.drop (i*P.cellsOf e)).take (P.cellsOf e)))=some xs→(k+n)*ts.length=cs.length→Bk (Rows.uptoBulkAll (xs.map (·.1))) (cs.drop (k*ts.length))
 |0,k,xs,_,hl=>by
  rw[List.drop_of_length_le (by simp at hl;omega)]
  intro s hs;cases hs
 |n+1,k,xs,h,hl=>by
  rw[List.range'_succ]at h
  obtain⟨x,xs',e1,e2,rfl⟩:=z0L h
  have k1:=hg _ _ e1
  have k2:=zcm hg hlen cs n (k+1) xs' e2 (by rw[←hl];congr 1;omega)
  have:Bk (Rows.uptoBulkAll ((x::xs').map (·.1))) _:=Bk.app k1 k2 (by simp only[List.map_cons,Rows.uptoBulkAll];omega) (by simp only[List.map_cons,Rows.uptoBulkAll];omega)
  rw[←hlen,Nat.add_mul,Nat.one_mul,←List.drop_drop,List.take_append_drop]at this
  exact this
theorem z5s: ∀(m fuel:Nat) (t:TypeId) (cs:List Value) (x:DataW H×List MemPlace) (ts:List CT),DataW.trod enc P w base sp hd fuel t cs=some x→z2y P m t=some ts→Bk (Rows.uptoBulk x.1) cs
 |0,_,_,_,_,_,_,h=>by simp[z2y]at h
 |m+1,0,_,_,_,_,h,_=>by simp[DataW.trod]at h
 |m+1,fuel+1,t,cs,x,ts,h,hf=>by
  have hct:=z1M (m+1) (fuel+1) t cs x ts h hf
  simp only[z2y]at hf
  split at hf
  · cases hf
    simp only[CTs,CT.ok]at hct
    obtain⟨_,_,rfl,⟨_,rfl⟩,rfl⟩:=hct
    intro s hs;simp at hs
  · cases hf
    simp only[CTs,CT.ok]at hct
    obtain⟨_,_,rfl,⟨_,rfl,_⟩,rfl⟩:=hct
    intro s hs;simp at hs
  · rename_i hu
    cases hf
    simp only[CTs,CT.ok]at hct
    obtain⟨_,_,rfl,⟨s0,rfl⟩,rfl⟩:=hct
    simp only[DataW.trod,hu]at h
    intro s hs
    simp at hs
    subst hs
    split at h
    · cases h
      simp only[Rows.uptoBulk,Array.length_toList]
      exact Nat.le_succ _
    · cases h
  · rename_i fs hu
    split at hf
    · rename_i ts' hts
      split at hf
      · rename_i hl
        cases hf
        have h':(if cs.length=P.cellsOf t then(fs.toList.mapM fun f=>DataW.trod enc P w base sp hd fuel f.type ((cs.drop f.offset).take (P.cellsOf f.type))).map fun xs=>(DataW.agg (xs.map (·.1)),xs.flatMap (·.2))else none)=some x:=by
         rw[←h];simp only[DataW.trod,hu]
        split at h'
        · rename_i hc
          cases hm:(fs.toList.mapM fun f=>DataW.trod enc P w base sp hd fuel f.type ((cs.drop f.offset).take (P.cellsOf f.type)))with
          |none=>rw[hm]at h';cases h'
          |some xs=>
           rw[hm]at h'
           have:=zat (P:=P) (fun t l x ts a b=>⟨z1M m fuel t l x ts a b,z5s m fuel t l x ts a b⟩) cs _ 0 _ xs hts hm (by omega)
           cases h'
           simp only[Rows.uptoBulk]
           rw[List.drop_zero]at this
           exact fun s hs=>Nat.le_succ_of_le (this s hs)
        · cases h'
      · cases hf
    · cases hf
  · rename_i n e hu
    split at hf
    · rename_i ts' hts
      split at hf
      · rename_i hl
        cases hf
        have h':(if cs.length=P.cellsOf t then((List.range n).mapM fun i=>DataW.trod enc P w base sp hd fuel e ((cs.drop (i*P.cellsOf e)).take (P.cellsOf e))).map fun xs=>(DataW.agg (xs.map (·.1)),xs.flatMap (·.2))else none)=some x:=by
         rw[←h];simp only[DataW.trod,hu]
        split at h'
        · rename_i hc
          cases hm:((List.range n).mapM fun i=>DataW.trod enc P w base sp hd fuel e ((cs.drop (i*P.cellsOf e)).take (P.cellsOf e)))with
          |none=>rw[hm]at h';cases h'
          |some xs=>
           rw[hm]at h'
           rw[List.range_eq_range']at hm
           have:=zcm (P:=P) (e:=e) (ts:=ts') (fun l x a=>z5s m fuel e l x ts' a hts) hl.1 cs n 0 xs hm (by rw[hc,←hl.2];simp)
           cases h'
           simp only[Rows.uptoBulk]
           rw[Nat.zero_mul,List.drop_zero]at this
           exact fun s hs=>Nat.le_succ_of_le (this s hs)
        · cases h'
      · cases hf
    · cases hf
  · cases hf
theorem zaD {t : TypeId} {v : Value} {d : DataW H} {ps : List MemPlace} {r : Reach} {b0 : Nat} (m : Nat) {ts : List CT} (hf : z2y P m t = some ts) (ha : (match P.underlying t with | some dd => z0y dd | none => false) = true)
    (hval:Value.okWide P w r b0 t v) (h:DataW.Trod enc P w base sp hd t v d ps): ∃cs:List Value,v= .agg cs.toArray∧CTs ts cs∧Bk (Rows.uptoBulk d) cs:=by
 obtain⟨fuel,hx⟩:=h
 have h1:=z1M m fuel t _ _ ts hx hf
 have h2:=z5s m fuel t _ _ ts hx hf
 unfold Value.okWide at hval
 cases hu:P.underlying t with
 |none=>rw[hu]at ha;cases ha
 |some dd=>
  rw[hu]at ha hval
  cases dd<;>first|(simp[z0y]at ha;done)|skip
  all_goals
   obtain⟨cs,rfl,_,_⟩:=hval
   exact⟨cs.toList,rfl,h1,h2⟩
end
end Go.Fw
open Go Go.Proofs Go.Proofs.YtcafjpldfnegiaaGreatDoor
namespace Go.Fw
open Go.ChangeShapes Go.WideShapes Go.ChangeAt Go.RowKit
set_option maxRecDepth 100000
theorem zcS {f : FuncId} {fn : Func} {s : ChangeSpec} {c : OpenClaim} (args : Array Value) (ds0 : ∀ H : Type, List (DataW H))
    (hn:c.program=Tryz.pinned.name) (hs:c.sum=Tryz.pinned.sum) (hsp:c.spec=s.name)
    (hstart:c.start= .entering) (hout:c.outside=[]) (hin:c.inits=[]) (hun:c.under=none) (hi4:c.initsInPlace=[]∧c.initsUnfollowed=false∧c.initsRecurse=false∧c.initsNamed=[]∧c.initsPassed=[]) (hnb:c.noBlocks=false) (hlv:c.leaving=false) (hfo:c.followed=none) (hnar:c.narrowed=true) (hstill:c.still=false)
    (hfn:Tryz.prog.funcNamed c.func=some f) (hf:Tryz.prog.funcs[f]?=some fn) (hj:joinedFacts Tryz.prog f fn s c=true)
    (hinst:fn.isInstance Tryz.prog c.origin c.targs) (hwrap:fn.isWrapper Tryz.prog c.wrapper c.mainSum)
    (hni:Tryz.prog.inits.idxOf? f=none) (has:c.assume={}) (hdom:c.domain=[]) (hap:c.apart=false∧c.fresh=true∧c.handsOn=false∧c.again=false) (hlaid:c.laid=z9Q)
    (hreads: ∀(os:Os) (H:Type) (enc:TypeId×Value→H),∃places,DataW.whole enc Tryz.prog ((z1a os).forCall (fun _ _=>0) ⟨#[],args,[]⟩).memory fn.params.toList s.vars false args.toList 8=some (ds0 H,[],places))
    (hw1: ∀os,((z1a os).forCall (fun _ _=>0) ⟨#[],args,[]⟩).variablesB Tryz.prog=true)
    (hw2: ∀os,(((z1a os).forCall (fun _ _=>0) ⟨#[],args,[]⟩).heap.toList.drop Tryz.prog.globals.size).take ((begin Tryz.prog (fun _ _=>0) default).world.heap.size-Tryz.prog.globals.size)=(begin Tryz.prog (fun _ _=>0) default).world.heap.toList.drop Tryz.prog.globals.size)
    (hw3: ∀os,Input.okWideB Tryz.prog ((z1a os).forCall (fun _ _=>0) ⟨#[],args,[]⟩) f ⟨#[],args,[]⟩=true)
    (hsz: ∀(os:Os) (H:Type) (enc:TypeId×Value→H),(OpenSpec.ofChange s).bare.sizedB enc Tryz.prog fn false ((z1a os).forCall (fun _ _=>0) ⟨#[],args,[]⟩).memory args 8=true)
    (hsm: ∀H:Type,Rows.uptoSmall H (ds0 H++[])=true)
    (hcontract: ∀(H:Type) (enc:TypeId×Value→H) (W:World) (base:Nat) (args:Array Value) (ds gs:List (DataW H)) (before:List MemPlace),
     (∀(j:Nat) t v,fn.params[j]?=some t→args[j]?=some v→Value.okWide Tryz.prog W .any base t v)→DataW.Whole enc Tryz.prog fn.params.toList s.vars false W args.toList ds gs before→Rows.uptoSmall H (ds++gs)=true→
     Calls Tryz.prog f args W fun e W'=> ∃v,e= .returned v∧s.post enc Tryz.prog fn false true false false W args v W'):
    c.holds Tryz.pinned (Rows.OpenSpec.upto s):=by
 refine OpenClaim.holds_of_cond f fn hn hs hsp hstart hout hin hun hi4 hnb hlv hfo hnar hstill hfn hf hj hinst hwrap (fun os started H enc _ F=>?_)
 rw[OpenClaim.pre_eq_preRow,has,hap.1,hap.2.1,hap.2.2.1,hap.2.2.2,hlaid,hdom]
 obtain⟨places,hx⟩:=hreads os H enc
 refine returnsInHanded_of_row (C:=Tryz.checked) (s:=Rows.OpenSpec.upto s) zqm started hni hf
  (witness_row_at (enc:=enc) (C:=Tryz.checked) false (z1a os) args rfl (hw1 os) (hw2 os) (hw3 os)
   (OpenSpec.preRow_of_cond 8 hx rfl (fun k hk=>by cases hk;exact hsm H) (hsz os H enc) (zet os _))) ?_
 intro W base args ds gs before hval hW _ hc _ _ _ _
 exact hcontract H enc W base args ds gs before hval hW (hc _ rfl)
end Go.Fw
