/- A part of the proof that the law returns true for every input: an executor for the model's code, and what functions of the program compute. -/
import Derived.Test.YtcafjpldfnegiaaGreatDoorB10
import Derived.Test.YtcafjpldfnegiaaGreatDoorB11
import Derived.Test.YtcafjpldfnegiaaGreatDoorB15
import Derived.Test.YtcafjpldfnegiaaGreatDoorB39
import Derived.Test.YtcafjpldfnegiaaGreatDoorB40
import Derived.Test.YtcafjpldfnegiaaGreatDoorB42
import Derived.KernelRfl
import Derived.OrdersIn
import Derived.RangeFuncCalls
open Go
namespace Go.Fw
set_option maxRecDepth 100000
theorem zpK(a b c:Int):(oV a b c).x=oN a:=by rw[zbY,z9B];rfl
theorem zr5(a b c:Int):(oV a b c).y=oN b:=by rw[zbY,z9B];rfl
theorem zqY(a b c:Int):(oV a b c).z=oN c:=by rw[zbY,z9B];rfl
theorem zpb{x y:K}(h:kN x=kN y):x=y:=by
 have:=z0J x
 rw[h,z0J]at this
 injection this with e
 exact e.symm
theorem z6f(x:K):(kN x).ok=true:=by rw[z1k];exact RN.ofK_ok x
theorem z9n(z:Int):(oN z).ok=true:=by rw[z2a];exact z6f _
theorem z8X(x y:K):rnB (kN x) (kN y)=true↔x=y:=by rw[z3t];exact⟨zpb,fun h=>by rw[h]⟩
theorem z7o:rnB (oN 1) (oN 0)=false:=by
 cases h:rnB (oN 1) (oN 0)
 · rfl
 · rw[z2a,z2a,z8X]at h
   have:(K.ofInt 1).c0=(K.ofInt 0).c0:=by rw[h]
   exact absurd this (by decide)
theorem ze9:rnB (oN 4) (oN 0)=false:=by
 cases h:rnB (oN 4) (oN 0)
 · rfl
 · rw[z2a,z2a,z8X]at h
   have:(K.ofInt 4).c0=(K.ofInt 0).c0:=by rw[h]
   exact absurd this (by decide)
theorem zqd:aP.ok=true:=by
 unfold PN.ok zV aP
 rw[zpK]
 unfold VN.ok ok3
 rw[z9n,z9n,z9n,z9n,ze9];rfl
theorem zqa:cP.ok=true:=by
 unfold PN.ok zV cP
 rw[zpK]
 unfold VN.ok ok3
 rw[z9n,z9n,z6f,z6f,z7o];rfl
theorem zmG:aP.raw 10=true:=PN.raw_iff.2 ⟨z0o.2 ⟨z0K zpW,z0K zqt,z0K zrs⟩,z0K zqc⟩
theorem zpd:cP.raw 1000=true:=PN.raw_iff.2 ⟨z0o.2 ⟨z0K (Nat.le_trans zpQ (by decide)),z0K (Nat.le_trans zqt (by decide)),z2s znX⟩,z2s zqA⟩
theorem PN.raw_mono{p:PN}{n m:Nat}(h:p.raw n=true)(hm:n≤m):p.raw m=true:=by
 obtain⟨a,b⟩:=PN.raw_iff.1 h
 exact PN.raw_iff.2 ⟨VN.raw_mono a hm,RN.raw_mono b hm⟩
theorem zqr:PCall P 79 [cP.c] (.lit (.bool true)):=(z2x cP (PN.raw_mono zpd (by decide))).eqB zqa
theorem zq4:rnB (oN 1) (oN 1)=true:=z3t.2 rfl
end Go.Fw
open Go IntKind
namespace Go.Fw
set_option maxRecDepth 100000
theorem zjD(_g1:rnB (oN (1:Int)) (oN (0:Int))=false)(h1:(rnB cP.n.x (oN (0:Int)))=false)(s11_0:RN.raw 1000000 cP.n.z=true)(s16_0:(-9223372036854775808:Int)≤0∧(0:Int)≤9223372036854775807)(s67_0:(-9223372036854775808:Int)≤4∧(4:Int)≤9223372036854775807):PCall P 77 [cP.c] (.tup [.agg [.lit (.int .i64 4),.lit (.int .i64 3),.lit (.int .i64 0)],RN.c (oN (5:Int)),.lit (.int .i64 0)]):=
 j4 (.r 5 (zqr) (.r 11 (z0c (cP.n.z) s11_0) (.r 16 (z21 ((0:Int)) s16_0) (.b 18 h1 (.r 32 (zqj) (.c (lq 10 10) (.r 48 (zpZ) (.r 49 (zmI) (.r 67 (z21 ((4:Int)) s67_0) (.r 68 (zqS) (.r 70 (zrq) (.c (lq 3 3) (.c (lq 10 10) .nil))))))))))))) (by kernel_rfl)
end Go.Fw
namespace Go.Fw
section
variable{P:Program}{w0:Start}{ops:List Oper}{base:Nat}
theorem zdd {Q : Exit → Act → World → Prop} (hlo : ¬ LetsOut Q) {ops : Array Oper} (hnd : ops.toList.all (fun o => match o.op with | .defer _ => false | _ => true) = true) {l m i : Nat} {K K' : Act → World → Prop} {a : Act} {w : World}
    (hK: ∀a w,K a w→K' a w) (h:wpOp P ops Q i K a w):wpOpIn (Fence.wide.inRound l) m P ops Q i K' a w:=by
 unfold wpOp at h
 unfold wpOpIn
 cases ho:ops[i]? with
 |none=>rw[ho]at h;exact hK _ _ h
 |some o=>
  rw[ho]at h
  dsimp only at h ⊢
  split
  · rename_i hw
    rw[if_pos hw]at h
    have h:=h.resolve_right (fun k=>hlo k.2)
    have hd: ∀c,o.op≠ .defer c:=by
     intro c hc
     have:=List.all_eq_true.1 hnd o (Array.mem_toList_iff.2 (Array.mem_of_getElem? ho))
     rw[hc]at this;cases this
    refine⟨fun _ _=>trivial,?_⟩
    rw[Oper.semAt_eq _ _ _ hd]
    unfold Oper.wp at h
    generalize (execOp a.eval o).run P w=r at*
    have nd:(Fence.wide.inRound l).depth.isSome=true→1≤m:=fun h=>by cases h
    cases r with
    |ok x w'=>
     cases x with
     |value v=>exact hK _ _ h
     |skip=>exact hK _ _ h
     |defer d=>exact hK _ _ h
     |enter f args=>
      refine⟨nd,CallsIn.inRound l (callsIn_wide.2 (Calls.mono h ?_))⟩
      intro e w2 he
      cases e with
      |returned v=>exact hK _ _ he
      |panicked c=>exact he
      |outgrown=>exact he
     |row row args=>exact⟨nd,fun c cs _=>let⟨v,w2,r,st⟩:=h c cs;⟨v,w2,hK _ _ r,stepsIn_wide.2 st⟩⟩
     |_=>exact h.elim
    |halt x w'=>cases x<;>first|exact h|exact h.elim
  · rename_i hw
    rw[if_neg hw]at h
    exact⟨fun _ _=>trivial,hK _ _ h⟩
theorem zae {Q : Exit → Act → World → Prop} (hlo : ¬ LetsOut Q) {ops : Array Oper} (hnd : ops.toList.all (fun o => match o.op with | .defer _ => false | _ => true) = true) {l m : Nat} :
    ∀(is:List Nat) (a:Act) (w:World),wpOps P ops Q is a w→wpOpsIn (Fence.wide.inRound l) m P ops Q is a w
 | [],_,_,h=>h
 |i::is,a,w,h=>by
  rw[wpOpsIn_cons]
  rw[wpOps_cons]at h
  exact zdd hlo hnd (fun a w=>zae hlo hnd is a w) h
theorem z9K {Q : Exit → Act → World → Prop} (hlo : ¬ LetsOut Q) {ops : Array Oper} (hnd : ops.toList.all (fun o => match o.op with | .defer _ => false | _ => true) = true) {l m : Nat} {md : Region.Mode} :
    ∀(fuel:Nat) (li:Array Bool) (a:Act) (w:World),wpAny P md ops Q fuel li a w→wpAnyIn (Fence.wide.inRound l) m P md ops Q fuel li a w
 |0,_,_,_,h=>h
 |fuel+1,_,_,_,h=>⟨h.1,fun i hi=>zdd hlo hnd (fun a w=>z9K hlo hnd fuel _ a w) (h.2 i hi)⟩
theorem zh0(w0:Start)(s':St)(I:Imm)(p:Pl): ¬LetsOut (z1h w0 s' I p):=fun⟨_,_,h⟩=>by
 cases h.1
theorem z7m {ra : Array Oper} {id l0 m : Nat} {draw ask : Bool} {n n' : Nat} {ors ors' : Ors} {s s' : St} {ob : List Prop} {es : List (Nat × Option Eff)} {a : Act} {w : World} {I : Imm} {p : Pl}
    (h:zbA P ra.toList s.hp.length ask (List.range ra.size) n ors {s with hp:=s.hp++List.replicate (Y4 ra.toList ra.size) none} [] []= .ok n' ors' s' ob es)
    (hd:draw=true→(z3Q s.hp.length ra.toList es&&z0i 0 ra.toList&&P.follows .mixedOrders)=true) (hnd:ra.toList.all (fun o=>match o.op with| .defer _=>false|_=>true)=true) (hob: ∀q∈ob,q) (R:SRel w0 s I p a w) (hB:z2r s p):
    (Code.region id ra draw).wpIn (Fence.wide.inRound l0) m P (z1h w0 s' I p) a w:=by
 obtain⟨A,E,he,hc,_,hobs⟩:=z4l _ _ _ _ _ _ _ _ _ _ _ h List.nodup_range
 simp only[List.reverse_nil,List.nil_append]at he
 have R1:SRel w0 {s with hp:=s.hp++List.replicate (Y4 ra.toList ra.size) none} I p a w:=⟨R.tm,R.defers,R.hp.more _⟩
 have hall:Y4 ra.toList ra.size=Y4 ra.toList ra.toList.length:=by simp
 have hsl:z4z ra.toList s.hp.length (List.range ra.size) (s.hp++List.replicate (Y4 ra.toList ra.size) none) p:=by
  intro i hi o ho ha
  have hlt:i<ra.toList.length:=(List.getElem?_eq_some_iff.1 ho).1
  have h1:=z0Q ho ha
  have h2:=z0M (ops:=ra.toList) (show i+1≤ra.toList.length from hlt)
  refine⟨?_,hB _ (by simp)⟩
  rw[List.getElem?_append_right (by omega),List.getElem?_replicate,if_pos (by rw[hall];omega)]
 have hQ : ∀ a' w' I' p', I.le I' → SRel w0 s' I' p' a' w' → z54 ra.toList s.hp.length p p' →
     z1h w0 s' I p .normal a' w':=by
  intro a' w' I' p' k1 k2 k3
  have hpp:p.le p':=by
   intro k x hx
   rw[k3 k]
   · exact hx
   · intro j o hj ha e
     have:p k=none:=hB k (by omega)
     rw[this]at hx;cases hx
  refine⟨rfl,I',p',k1,k2,fun k hk=>?_,hpp⟩
  have hlen:=z2J _ _ _ hc
  simp only[List.length_append,List.length_replicate]at hlen
  rw[k3 k]
  · exact hB k (by omega)
  · intro j o hj ha e
    have hlt:j<ra.toList.length:=(List.getElem?_eq_some_iff.1 hj).1
    have h1:=z0Q hj ha
    have h2:=z0M (ops:=ra.toList) (show j+1≤ra.toList.length from hlt)
    rw[hall]at hlen
    omega
 have hobs': ∀i∈List.range ra.size,∀e,E i=some e→ ∀q∈e.ob,q:=fun i hi e he q hq=>hob q (hobs i hi e he q hq)
 cases draw with
 |false=>
  refine wpIn_region (zae (zh0 _ _ _ _) hnd _ _ _ ?_)
  have:=z3w (P:=P) (w0:=w0) (Q:=z1h w0 s' I p) (List.range ra.size) _ a w I p hc List.nodup_range hobs' R1 hsl hQ
  simpa using this
 |true=>
  have hd':=hd rfl
  simp only[Bool.and_eq_true]at hd'
  obtain⟨⟨hd1,hd2⟩,hd3⟩:=hd'
  refine wpIn_region_any hd3 (z9K (zh0 _ _ _ _) hnd _ _ _ _ ?_)
  rw[he]at hd1
  have hpw:=z3c (z3q _ hd1)
  have hrem:rem ra.toList (Array.replicate ra.size false)=List.range ra.size:=by
   unfold rem
   simp only[Array.length_toList]
   apply List.filter_eq_self.2
   intro i hi
   simp at hi
   simp[hi]
  have R2:SRel w0 {s with hp:=s.hp++List.replicate (Y4 ra.toList ra.size) none} I p a {w with drawn:=w.drawn+1}:=⟨R1.tm,R1.defers,R1.hp.drew⟩
  have:=z60 (P:=P) (w0:=w0) (s':=s') (Q:=z1h w0 s' I p) hd2 (fun i j hij hj=>hpw i j hij (by simpa using hj)) ra.size (Array.replicate ra.size false) _ a {w with drawn:=w.drawn+1} I p
   (by rw[hrem];simp) (by rw[hrem];exact hc) (by rw[hrem];exact hobs') R2 (by rw[hrem];exact hsl) hQ
  simpa using this
end
end Go.Fw
open Go
namespace Go.Fw
set_option maxRecDepth 100000
def z6L(id:Nat):Code→Option (Array Oper)
 | .region i ops _=>if i=id then some ops else none
 | .seq a b=>match z6L id a with|some x=>some x|none=>z6L id b
 | .block _ c=>z6L id c
 | .loop c=>z6L id c
 | .cond _ a b=>match z6L id a with|some x=>some x|none=>z6L id b
 | .rangeFunc _ _ a b=>match z6L id a with|some x=>some x|none=>z6L id b
 |_=>none
def zgO(P:Program)(f:FuncId)(id:Nat):Array Oper:=match P.funcs[f]? with
 |some fn=>match fn.body with|some c=>(z6L id c).getD #[]|none=> #[]
 |none=> #[]
def zlj(P:Program)(ra:Array Oper)(ors:Ors)(s:St):Option (St×List Prop×Bool):=
 match zbA P ra.toList s.hp.length false (List.range ra.size) 0 ors {s with hp:=s.hp++List.replicate (Y4 ra.toList ra.size) none} [] []with
 | .ok _ _ s' ob es=>some (s',ob,z3Q s.hp.length ra.toList es&&z0i 0 ra.toList&&P.follows .mixedOrders)
 | .bad .. =>none
def zpX(p:PN)(x:RN):St:=⟨[.unk,.ptr 0 0,.ptr 1 0,.ptr 2 0,.ptr 3 0]++List.replicate 26 .unk,[some (own (p.n.x.l++(p.n.y.l++(p.n.z.l++p.d.l)))),some (own (RN.zero.l++(RN.zero.l++(RN.zero.l++RN.zero.l)))),some (own [j6 0]),some (own x.l)]⟩
noncomputable def zkk(p:PN)(x:RN):St×List Prop×Bool:=(zlj P (zgO P 91 6) [(0,.r (oN 1).c),(2,.r (z8c x).c),(3,.r (z7F x).c)] (zpX p x)).getD (⟨[],[]⟩,[],false)
noncomputable def zjy(p:PN)(x:RN):St×List Prop×Bool:=(zlj P (zgO P 91 7) [(3,.r (z05 p.n (z7F x)).c),(7,.r (W7 p.d (z7F x)).c)] (zkk p x).1).getD (⟨[],[]⟩,[],false)
end Go.Fw
open Go Go.RowKit
namespace Go.Fw
set_option maxRecDepth 100000
theorem z6p {P : Program} {w0 : Start} {ra : Array Oper} {id l0 m : Nat} {ors : Ors} {s s' : St} {ob : List Prop} {a : Act} {w : World} {I : Imm} {p : Pl}
    (h:zlj P ra ors s=some (s',ob,true)) (hnd:ra.toList.all (fun o=>match o.op with| .defer _=>false|_=>true)=true) (hob: ∀q∈ob,q) (R:SRel w0 s I p a w) (hB:z2r s p):
    (Code.region id ra true).wpIn (Fence.wide.inRound l0) m P (z1h w0 s' I p) a w:=by
 unfold zlj at h
 split at h
 · rename_i h1
   injection h with h
   injection h with e1 h
   injection h with e2 e3
   subst e1 e2
   exact z7m h1 (fun _=>e3) hnd hob R hB
 · cases h
theorem zdK{o:Option (St×List Prop×Bool)}{d v:St×List Prop×Bool}(hv:v=o.getD d)(h:o.isSome=true)(h2:v.2.2=true):o=some (v.1,v.2.1,true):=by
 cases o with
 |none=>cases h
 |some x=>
  rw[hv,show(some x).getD d=x from rfl]at h2 ⊢
  rw[←h2]
theorem zks(p:PN)(x:RN):zlj P (zgO P 91 6) [(0,.r (oN 1).c),(2,.r (z8c x).c),(3,.r (z7F x).c)] (zpX p x)=some ((zkk p x).1,(zkk p x).2.1,true):=zdK (d:=(⟨[],[]⟩,[],false)) (v:=zkk p x) (by kernel_rfl) (by kernel_rfl) (by kernel_rfl)
theorem ziq(p:PN)(x:RN):zlj P (zgO P 91 7) [(3,.r (z05 p.n (z7F x)).c),(7,.r (W7 p.d (z7F x)).c)] (zkk p x).1=some ((zjy p x).1,(zjy p x).2.1,true):=zdK (d:=(⟨[],[]⟩,[],false)) (v:=zjy p x) (by kernel_rfl) (by kernel_rfl) (by kernel_rfl)
theorem zkS(p:PN)(x:RN):(zkk p x).2.1=[PCall P 144 [j6 1] (oN 1).c,PCall P 157 [x.c] (z8c x).c,PCall P 156 [(oN 1).c,(z8c x).c] (z7F x).c,10≤10]:=by kernel_rfl
theorem zj9(p:PN)(x:RN):(zjy p x).2.1=[PCall P 142 [p.n.c,(z7F x).c] (z05 p.n (z7F x)).c,PCall P 136 [p.d.c,(z7F x).c] (W7 p.d (z7F x)).c,40≤40,1≤1]:=by kernel_rfl
theorem znu(p:PN)(x:RN):(zjy p x).1.hp[2]?=some (some (own [j6 0])):=by kernel_rfl
theorem zmO(p:PN)(x:RN):(zjy p x).1.hp[1]?=some (some (own ((z3b p x).n.x.l++((z3b p x).n.y.l++((z3b p x).n.z.l++(z3b p x).d.l))))):=by kernel_rfl
def PN.a(p:PN):Array Value:=p.n.x.a++(p.n.y.a++(p.n.z.a++p.d.a))
theorem l_map(x:RN):x.l=x.a.toList.map .lit:=rfl
theorem zag(p:PN):p.n.x.l++(p.n.y.l++(p.n.z.l++p.d.l))=p.a.toList.map .lit:=by
 unfold PN.a
 rw[Array.toList_append,Array.toList_append,Array.toList_append,List.map_append,List.map_append,List.map_append,Go.Fw.l_map,Go.Fw.l_map,Go.Fw.l_map,Go.Fw.l_map]
theorem zjo{I:Imm}{q:Pl}(l:List Value):MV.repL I q (own (l.map .lit)) l:=by
 unfold own
 rw[MV.repL_map_cv]
 exact z37 I l
end Go.Fw
open Go Go.RowKit
namespace Go.Fw
set_option maxRecDepth 100000
theorem zcp{x y:RN}{n:Nat}(hx:x.raw n=true)(hy:y.raw n=true):(X2 x y).1.raw (8*n+7)=true:=by
 have h1:=z1r hx
 have h2:=z1r hy
 unfold X2
 cases ex:toO x with
 |none=>exact z1q (o:=none) (Nat.zero_le _)
 |some a=>
  cases ey:toO y with
  |none=>exact z1q (o:=none) (Nat.zero_le _)
  |some b=>
   rw[ex]at h1
   rw[ey]at h2
   dsimp only
   split
   · exact z1q (o:=none) (Nat.zero_le _)
   · have:=K.sz_div a b
     refine RN.ofK_raw _ ?_
     have h1:a.sz≤n:=h1
     have h2:b.sz≤n:=h2
     omega
theorem z9f{x:RN}{n:Nat}(hx:x.raw n=true):(z8c x).raw n=true:=by
 unfold z8c
 split
 · exact z5E hx
 · exact z5E (z5E hx)
theorem zcq:(oN 1).raw 1=true:=by rw[z9B];kernel_rfl
theorem zeW{x:RN}(hx:x.raw 1000=true):(z7F x).raw 10000=true:=RN.raw_mono (zcp (RN.raw_mono zcq (by decide)) (z9f hx)) (by decide)
theorem zpf{p:PN}{x:RN}(hp:p.raw 1000=true)(hx:x.raw 1000=true):(∀q∈(zkk p x).2.1,q)∧ ∀q∈(zjy p x).2.1,q:=by
 obtain⟨hn,hd⟩:=PN.raw_iff.1 hp
 have k:=RN.raw_mono (zeW hx) (show 10000≤1000000 by decide)
 have x1:=RN.raw_mono hx (show 1000≤1000000 by decide)
 rw[zkS,zj9]
 constructor
 · intro q hq
   simp only[List.mem_cons,List.not_mem_nil,or_false]at hq
   rcases hq with rfl|rfl|rfl|rfl
   · exact z21 1 (by decide)
   · exact zho x x1
   · exact z3i _ _ (RN.raw_mono zcq (by decide)) (z9f x1)
   · decide
 · intro q hq
   simp only[List.mem_cons,List.not_mem_nil,or_false]at hq
   rcases hq with rfl|rfl|rfl|rfl
   · exact zfL _ _ (VN.raw_mono hn (by decide)) k
   · exact z0g _ _ (RN.raw_mono hd (by decide)) k
   · decide
   · decide
def z8a(b0 b1 b2 b3:Nat):Pl:=fun k=>if k=0 then some (b0,40)else if k=1 then some (b1,40)else if k=2 then some (b2,1)else if k=3 then some (b3,10)else none
theorem z4I{b0 b1 b2 b3 i b κ:Nat}(h:z8a b0 b1 b2 b3 i=some (b,κ)):i=0∧b=b0∨i=1∧b=b1∨i=2∧b=b2∨i=3∧b=b3:=by
 unfold z8a at h
 split at h
 · cases h;exact .inl ⟨by assumption,rfl⟩
 · split at h
   · cases h;exact .inr (.inl ⟨by assumption,rfl⟩)
   · split at h
     · cases h;exact .inr (.inr (.inl ⟨by assumption,rfl⟩))
     · split at h
       · cases h;exact .inr (.inr (.inr ⟨by assumption,rfl⟩))
       · cases h
theorem zqW{I:Imm}{q:Pl}: ∀(n:Nat) (l:List Value),l.length=n→MV.repL I q (List.replicate n .unk) l
 |0,l,h=>List.eq_nil_of_length_eq_zero h
 |n+1,[],h=>by cases h
 |n+1,x::xs,h=>⟨x,xs,rfl,trivial,zqW n xs (by simpa using h)⟩
theorem PN.a_size(p:PN):p.a.size=40:=by
 unfold PN.a
 rw[Array.size_append,Array.size_append,Array.size_append];rfl
theorem zhe{I:Imm}{q:Pl}{c v:Array Value}{l:List CV}(hl:l=v.toList.map .lit)(hs:c.size=v.size)(h:MV.repL I q (own l) (c.toList.take (own l).length)):c=v:=by
 subst hl
 rw[List.take_of_length_le (by unfold own;simp;omega)]at h
 unfold own at h
 rw[MV.repL_map_cv]at h
 exact Array.ext' (z1K h)
theorem zd5 (p : PN) (x : RN) (hp : p.raw 1000 = true) (hx : x.raw 1000 = true) {l m : Nat} (W : World) (b0 b1 b2 bx : Nat) (h01 : b0 < b1) (h12 : b1 < b2) (h2x : b2 < bx)
    (H0:W.heap[b0]?=some (.cells p.a 99 (0,0))) (H1:W.heap[b1]?=some (.cells PN.zero.a 99 (0,0))) (H2:W.heap[b2]?=some (.cells #[.int .i64 0] 24 (0,0))) (Hx:W.heap[bx]?=some (.cells x.a 39 (0,0)))
    (a:Act) (t:Value) (ts:List Value) (ha:a.tmps.toList=t:: .pointer (some ⟨b0,0,none⟩):: .pointer (some ⟨b1,0,none⟩):: .pointer (some ⟨b2,0,none⟩):: .pointer (some ⟨bx,0,none⟩)::ts) (hts:ts.length=26) (hd:a.defers=[]):
    (Code.region 6 (zgO P 91 6) true).wpIn (Fence.wide.inRound l) m P (fun e a1 W1=>e= .normal∧(Code.region 7 (zgO P 91 7) true).wpIn (Fence.wide.inRound l) m P (fun e a2 W2=>e= .normal∧a2.defers=[]∧
     Below b0 W W2∧(∀B,KeepsFrom B W W2)∧(∃T,W2.heap[b1]?=some (.cells (z3b p x).a T (0,0)))∧ ∃T,W2.heap[b2]?=some (.cells #[.int .i64 0] T (0,0))) a1 W1) a W:=by
 obtain⟨o6,o7⟩:=zpf hp hx
 have hlt:=(Array.getElem?_eq_some_iff.1 Hx).1
 have own: ∀(v:Array Value) {c:List CV},c=v.toList.map .lit→MV.repL (fun _=>none) (z8a b0 b1 b2 bx) (own c) (v.toList.take (Go.Fw.own c).length):=by
  intro v c hc
  rw[hc,List.take_of_length_le (by unfold Go.Fw.own;simp)]
  exact zjo _
 have R:SRel ⟨W,fun _=>none,z8a b0 b1 b2 bx⟩ (zpX p x) (fun _=>none) (z8a b0 b1 b2 bx) a W:=by
  refine⟨?_,hd,⟨rfl,rfl,rfl,Nat.le_refl _,fun _ _=>rfl⟩,(fun b cs hb=>by cases hb),(fun b hb=>(hb rfl).elim),?_,?_⟩
  · rw[ha]
    exact⟨_,_,rfl,trivial,_,_,rfl,⟨b0,40,rfl,rfl⟩,_,_,rfl,⟨b1,40,rfl,rfl⟩,_,_,rfl,⟨b2,1,rfl,rfl⟩,_,_,rfl,⟨bx,10,rfl,rfl⟩,zqW 26 ts hts⟩
  · intro i cells hi
    match i,hi with
    |0,hi=>cases hi;exact⟨b0,40,_,_,rfl,H0,PN.a_size p,own p.a (zag p),.inr ⟨0,40,rfl⟩,rfl⟩
    |1,hi=>cases hi;exact⟨b1,40,_,_,rfl,H1,PN.a_size .zero,own PN.zero.a (zag .zero),.inr ⟨1,40,rfl⟩,rfl⟩
    |2,hi=>cases hi;exact⟨b2,1,_,_,rfl,H2,rfl,own #[.int .i64 0] rfl,.inr ⟨2,1,rfl⟩,rfl⟩
    |3,hi=>cases hi;exact⟨bx,10,_,_,rfl,Hx,rfl,own x.a rfl,.inr ⟨3,10,rfl⟩,rfl⟩
    |k+4,hi=>cases hi
  · intro i j ci cj b κ b' κ' _ _ hne h1 h2
    rcases z4I h1 with⟨e,rfl⟩|⟨e,rfl⟩|⟨e,rfl⟩|⟨e,rfl⟩<;>rcases z4I h2 with⟨e',rfl⟩|⟨e',rfl⟩|⟨e',rfl⟩|⟨e',rfl⟩<;>omega
 have B:z2r (zpX p x) (z8a b0 b1 b2 bx):=by
  intro k hk
  have:4≤k:=hk
  unfold z8a
  rw[if_neg (by omega),if_neg (by omega),if_neg (by omega),if_neg (by omega)]
 refine wpIn_mono (z6p (zks p x) (by kernel_rfl) o6 R B) ?_
 rintro e a1 W1 ⟨rfl,I1,p1,hI1,R1,B1,hp1⟩
 refine⟨rfl,wpIn_mono (z6p (ziq p x) (by kernel_rfl) o7 R1 B1) ?_⟩
 rintro e a2 W2 ⟨rfl,I2,p2,hI2,R2,B2,hp2⟩
 have hle:(z8a b0 b1 b2 bx).le p2:=fun k v hk=>hp2 k v (hp1 k v hk)
 have blw:=R2.hp.below
 have kept: ∀k,k<W.heap.size→k≠b0→k≠b1→k≠b2→k≠bx→W2.heap[k]?=W.heap[k]?:=by
  intro k hk n0 n1 n2 n3
  refine blw.block k ?_
  rintro(h|⟨i,κ,h⟩)
  · have:W.heap.size≤k:=h
    omega
  · rcases z4I h with⟨_,e⟩|⟨_,e⟩|⟨_,e⟩|⟨_,e⟩<;>contradiction
 refine⟨rfl,R2.defers,⟨blw.os,blw.tape,blw.output,blw.size,fun k hk=>kept k (by omega) (by omega) (by omega) (by omega) (by omega)⟩,fun B=>⟨blw.size,fun k o _ hk ho=>?_⟩,?_,?_⟩
 · refine(kept k (Array.getElem?_eq_some_iff.1 hk).1 ?_ ?_ ?_ ?_).trans hk
   · rintro rfl;rw[H0]at hk;cases hk;cases ho
   · rintro rfl;rw[H1]at hk;cases hk;cases ho
   · rintro rfl;rw[H2]at hk;cases hk;cases ho
   · rintro rfl;rw[Hx]at hk;cases hk;cases ho
 · obtain⟨b,κ,c,T,k1,k2,k3,k4,_⟩:=R2.hp.live 1 _ (zmO p x)
   rw[hle 1 (b1,40) rfl]at k1
   injection k1 with k1
   injection k1 with k1 k1'
   subst k1 k1'
   refine⟨T,?_⟩
   rw[k2,zhe (v:=(z3b p x).a) (zag _) (k3.trans (PN.a_size _).symm) k4]
 · obtain⟨b,κ,c,T,k1,k2,k3,k4,_⟩:=R2.hp.live 2 _ (znu p x)
   rw[hle 2 (b2,1) rfl]at k1
   injection k1 with k1
   injection k1 with k1 k1'
   subst k1 k1'
   refine⟨T,?_⟩
   rw[k2,zhe (v:= #[.int .i64 0]) rfl k3 k4]
end Go.Fw
open Go Go.RowKit Go.Shelf Go.Proofs
namespace Go.Fw
attribute [local go_sem] Oper.semAt_some
set_option maxRecDepth 100000
set_option maxHeartbeats 1000000
theorem zfX (F : Fence) (n : Nat) (h : F.fn 168) (hro : F.round = none) (a : Array Value) (w : World) :
    CallsIn F n Tryz.prog 168 #[.agg a] w fun e w'=>e= .returned (.func (.func 221) #[] #[.pointer (some ⟨w.heap.size,0,none⟩)])∧w'=w.alloc (.cells a 51):=by
 refine callsIn_of_wp Tryz.func168 rfl h ?_ hro
 simp only[Tryz.ntmps168,List.size_toArray,List.length_cons,List.length_nil,Nat.reduceAdd,Nat.reduceSub,Array.replicate_succ,Array.replicate_zero,List.push_toArray,List.append_toArray,List.nil_append,List.cons_append]
 gi_wp2
 go_ret
 exact⟨rfl,rfl⟩
theorem z5w{x:RN}{v:Array Value}{w:World}{b k:Nat}(h:w.heap[b]?=some (.cells v 51 (0,0)))(hv:(v.toList.drop k).take 10=x.a.toList):(Instr.loadAt 39 (.pointer (some ⟨b,k,none⟩))).run Tryz.prog w= .ok (.agg x.a) w:=
 z40 Tryz.underlying39 h (by rw[z5n,hv]) (by rw[z5n];rfl)
theorem z9p {α : Type} (enc : α → Array Value) (u0 u1 u2 : α) (F : Fence) (n : Nat) (h : F.fn 221) (hro : F.round = none) (hn : 1 ≤ n) (Bn n₀ : Nat) (x y z : RN) (w : World) (hBn : Bn < w.heap.size) (hn0 : Bn < n₀)
    (hc:w.heap[Bn]?=some (.cells (x.a++(y.a++z.a)) 51 (0,0)))
    (e0:enc u0= #[.agg x.a]) (e1:enc u1= #[.agg y.a]) (e2:enc u2= #[.agg z.a]):
    SeqStopsK F n Tryz.prog 221 #[.pointer (some ⟨Bn,0,none⟩)] enc (Below n₀) (fun ys=>ys=[u0,u1,u2]) (fun pre=>pre<+:[u0,u1,u2]) 3 w:=fun l J Jx W hW hJ hJx hY h0=>by
 refine callsIn_of_wp Tryz.func221 rfl h ?_ hro
 simp only[Tryz.ntmps221,List.size_toArray,List.length_cons,List.length_nil,Nat.reduceAdd,Nat.reduceSub,Array.replicate_succ,Array.replicate_zero,List.push_toArray,List.append_toArray,List.nil_append,List.cons_append]
 have hb:=(hW.block Bn hBn).trans hc
 have l0:(Instr.loadAt 39 (.pointer (some ⟨Bn,0,none⟩))).run Tryz.prog W= .ok (.agg x.a) W:=z5w (x:=x) hb (by simp[RN.a])
 obtain⟨fn,tmps,assign,body,hy,hR⟩:=hY [] u0 W h0 (by simp)
 rw[e0]at hy
 gi_wp2_with (refine z0a rfl rfl rfl l0 ?_)
 refine hR.mono ?_
 rintro e W3 (⟨rfl,hJ3,hk3⟩|⟨rfl,hJx3⟩)
 · have hb3:=(hk3.block Bn hn0).trans hb
   have l1:(Instr.loadAt 39 (.pointer (some ⟨Bn,10,none⟩))).run Tryz.prog W3= .ok (.agg y.a) W3:=z5w (x:=y) hb3 (by simp[RN.a])
   obtain⟨fn,tmps,assign,body,hy,hR⟩:=hY _ u1 W3 hJ3 (by simp)
   rw[e1]at hy
   gi_wp2_with (refine z3g rfl rfl rfl l1 ?_)
   refine hR.mono ?_
   rintro e W4 (⟨rfl,hJ4,hk4⟩|⟨rfl,hJx4⟩)
   · have hb4:=(hk4.block Bn hn0).trans hb3
     have l2:(Instr.loadAt 39 (.pointer (some ⟨Bn,20,none⟩))).run Tryz.prog W4= .ok (.agg z.a) W4:=z5w (x:=z) hb4 (by simp[RN.a])
     obtain⟨fn,tmps,assign,body,hy,hR⟩:=hY _ u2 W4 hJ4 (by simp)
     rw[e2]at hy
     gi_wp2_with (refine z3g rfl rfl rfl l2 ?_)
     refine hR.mono ?_
     rintro e W5 (⟨rfl,hJ5,hk5⟩|⟨rfl,hJx5⟩)
     · gi_wp2
       go_end0
       exact⟨⟨_,rfl⟩,.inl ⟨_,rfl,hJ5⟩⟩
     · gi_wp2
       go_end0
       exact⟨⟨_,rfl⟩,.inr ⟨_,by simp,hJx5⟩⟩
   · gi_wp2
     refine⟨fun _ h=>(by cases h),?_⟩
     gi_wp2
     go_end0
     exact⟨⟨_,rfl⟩,.inr ⟨_,by simp,hJx4⟩⟩
 · gi_wp2
   refine⟨fun _ h=>(by cases h),?_⟩
   gi_wp2
   go_end0
   exact⟨⟨_,rfl⟩,.inr ⟨_,by simp,hJx3⟩⟩
end Go.Fw
