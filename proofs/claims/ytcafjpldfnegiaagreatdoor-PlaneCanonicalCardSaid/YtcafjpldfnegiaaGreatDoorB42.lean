/- A part of the proof that the law returns true for every input: an executor for the model's code, and what functions of the program compute. -/
import Derived.Test.YtcafjpldfnegiaaGreatDoorB11
import Derived.Test.YtcafjpldfnegiaaGreatDoorB15
import Derived.Test.YtcafjpldfnegiaaGreatDoorB28
import Derived.Test.YtcafjpldfnegiaaGreatDoorB39
import Derived.Test.YtcafjpldfnegiaaGreatDoorB40
import Derived.Test.YtcafjpldfnegiaaGreatDoorB41
import Derived.KernelRfl
open Go Go.RowKit Go.Shelf Go.Proofs
namespace Go.Fw
attribute [local go_sem] Oper.semAt_some
set_option maxRecDepth 100000
set_option maxHeartbeats 1000000
def RN.a(x:RN):Array Value:= #[.bool x.b0,.string x.s0,.bool x.b1,.string x.s1,.bool x.b2,.string x.s2,.bool x.b3,.string x.s3,.bool x.b4,.string x.s4]
theorem repL_lits'(Im:Imm)(l:List Value):CV.repL Im (l.map .lit) l:=by
 induction l with
 |nil=>rfl
 |cons x xs ih=>exact⟨x,xs,rfl,rfl,ih⟩
theorem repL_lits_eq{Im:Imm}: ∀{l k:List Value},CV.repL Im (l.map .lit) k→k=l
 | [],_,h=>h
 |_::_,_,⟨_,_,e,h1,h2⟩=>by rw[e,show _=_ from h1,repL_lits_eq h2]
theorem PCall.num{f:FuncId}{x:RN}{v:Value}(h:PCall P f [.agg x.l] (.lit v))(w:World):Calls P f #[.agg x.a] w fun e w'=>e= .returned v∧Below w.heap.size w w':=by
 refine(h (fun _=>none) w #[.agg x.a] (fun b cs hb=>by cases hb) ⟨_,_,rfl,⟨_,rfl,?_⟩,rfl⟩).mono ?_
 · exact repL_lits' _ [.bool x.b0,.string x.s0,.bool x.b1,.string x.s1,.bool x.b2,.string x.s2,.bool x.b3,.string x.s3,.bool x.b4,.string x.s4]
 · rintro e w' ⟨y,v',I,rfl,rfl,hr,_,_,hb,_⟩
   exact⟨by rw[show y=v from hr],hb⟩
theorem keeps_below{W W':World}(h:Below W.heap.size W W')(B:Nat):KeepsFrom B W W':=⟨h.size,fun _ _ _ hk _=>(h.block _ (Array.getElem?_eq_some_iff.1 hk).1).trans hk⟩
theorem cells_own{β:Type}(n B:Nat)(c:β→Array Value)(T:TypeId):OwnFrom n (fun(s:β) W=>W.heap[B]?=some (.cells (c s) T (0,0))):=fun _ _ _ _ hs hg hr=>
 (hg.block B (Array.getElem?_eq_some_iff.1 hs).1 (fun e=>by obtain⟨_,o,ho,hc⟩:=hr B e.symm;rw[hs]at ho;cases ho;cases hc)).trans hs
abbrev RNS:={x:RN//x.raw 1000000=true}
abbrev enR(p:Nat×RNS):Array Value:= #[.int .i64 p.1,.agg p.2.1.a]
theorem cells39:Tryz.prog.cellsOf 39=10:=by kernel_rfl
theorem cells51:Tryz.prog.cellsOf 51=30:=by kernel_rfl
theorem info39: ∃i,Tryz.prog.info? 39=some i:=Option.isSome_iff_exists.1 (by kernel_rfl)
theorem RN.a_size(x:RN):x.a.size=10:=rfl
theorem RN.a_one(x:RN): ∀v∈x.a.toList,v.oneCell'=true:=by
 intro v hv
 simp only[RN.a,List.mem_cons,List.not_mem_nil,or_false]at hv
 rcases hv with rfl|rfl|rfl|rfl|rfl|rfl|rfl|rfl|rfl|rfl<;>rfl
theorem store_num(x:RN)(w:World)(c:Array Value)(hc:c.size=10):(Instr.storeAt 39 (.pointer (some ⟨w.heap.size,0,none⟩)) (.agg x.a)).run Tryz.prog (w.alloc (.cells c 39))= .ok () (w.alloc (.cells x.a 39)):=by
 obtain⟨i,hi⟩:=info39
 exact run_storeNew hi (by rw[cells39];rfl) hc x.a_one
theorem load_num{x:RN}{w:World}{b:Nat}(h:w.heap[b]?=some (.cells x.a 39 (0,0))):(Instr.loadAt 39 (.pointer (some ⟨b,0,none⟩))).run Tryz.prog w= .ok (.agg x.a) w:=
 run_load Tryz.underlying39 h (by rw[cells39];rfl) (by rw[cells39];rfl)
theorem load_vec{v:Array Value}(hv:v.size=30){w:World}{b:Nat}(h:w.heap[b]?=some (.cells v 51 (0,0))):(Instr.loadAt 51 (.pointer (some ⟨b,0,none⟩))).run Tryz.prog w= .ok (.agg v) w:=
 run_load Tryz.underlying51 h (by rw[cells51,List.drop_zero,List.take_of_length_le (by simp;omega)]) (by rw[cells51,hv])
theorem vval_in (F : Fence) (n : Nat) (h1 : F.fn 148) (h2 : F.fn 212) (h3 : F.fn 247) (h4 : F.fn 154) (hro : F.round = none) (hn : 6 ≤ n)
    (hV: ∀(m:Nat) (x:RNS) (W:World),CallsIn F m Tryz.prog 154 #[.agg x.1.a] W fun e W'=>e= .returned (.bool x.1.ok)∧Below W.heap.size W W')
    (x0:Bool) (x1:ByteArray) (x2:Bool) (x3:ByteArray) (x4:Bool) (x5:ByteArray) (x6:Bool) (x7:ByteArray) (x8:Bool) (x9:ByteArray) (y0:Bool) (y1:ByteArray) (y2:Bool) (y3:ByteArray) (y4:Bool) (y5:ByteArray) (y6:Bool) (y7:ByteArray) (y8:Bool) (y9:ByteArray) (z0:Bool) (z1:ByteArray) (z2:Bool) (z3:ByteArray) (z4:Bool) (z5:ByteArray) (z6:Bool) (z7:ByteArray) (z8:Bool) (z9:ByteArray) (hx:RN.raw 1000000 ⟨x0,x1,x2,x3,x4,x5,x6,x7,x8,x9⟩=true) (hy:RN.raw 1000000 ⟨y0,y1,y2,y3,y4,y5,y6,y7,y8,y9⟩=true) (hz:RN.raw 1000000 ⟨z0,z1,z2,z3,z4,z5,z6,z7,z8,z9⟩=true) (v:Array Value) (hv:v.toList=[.bool x0,.string x1,.bool x2,.string x3,.bool x4,.string x5,.bool x6,.string x7,.bool x8,.string x9,.bool y0,.string y1,.bool y2,.string y3,.bool y4,.string y5,.bool y6,.string y7,.bool y8,.string y9,.bool z0,.string z1,.bool z2,.string z3,.bool z4,.string z5,.bool z6,.string z7,.bool z8,.string z9]) (w:World):
    CallsIn F n Tryz.prog 148 #[.agg v] w fun e W'=>e= .returned (.bool (ok3 ⟨x0,x1,x2,x3,x4,x5,x6,x7,x8,x9⟩ ⟨y0,y1,y2,y3,y4,y5,y6,y7,y8,y9⟩ ⟨z0,z1,z2,z3,z4,z5,z6,z7,z8,z9⟩))∧Below w.heap.size w W':=by
 have h1n:1≤n:=by omega
 refine callsIn_of_wp_marks Tryz.func148 rfl h1 ?_ hro
 simp only[Tryz.ntmps148,List.size_toArray,List.length_cons,List.length_nil,Nat.reduceAdd,Nat.reduceSub,Array.replicate_succ,Array.replicate_zero,List.push_toArray,List.append_toArray,List.nil_append,List.cons_append]
 have hvs:v.size=30:=by rw[←Array.length_toList,hv];rfl
 have hb:((w.alloc (.cells v 51)).alloc (.cells #[.bool false] 4)).heap[w.heap.size]?=some (.cells v 51 (0,0)):=
  (Below.heap_alloc _ _ _ (by simp)).trans (World.alloc_heap_new w _)
 have hl:=load_vec hvs hb
 gi_wp2_with (first|(gi_at_call 212;refine(num_in F (n-1) h2 hro _ _).mono ?_;rintro e w' ⟨rfl,rfl⟩)|refine wpListIn_loadA rfl rfl rfl hl ?_)
 clear hb hl
 have bR:=(Boxed.new (w.alloc (.cells v 51)) 4 (.bool false)).alloc (.cells v 51)
 rw[World.size_alloc]at bR
 have hB0:Below w.heap.size w (((w.alloc (.cells v 51)).alloc (.cells #[.bool false] 4)).alloc (.cells v 51)):=(((Below.refl _ w).alloc (Nat.le_refl _) _).alloc (by simp) _).alloc (by simp;omega) _
 have hsz:(((w.alloc (.cells v 51)).alloc (.cells #[.bool false] 4)).alloc (.cells v 51)).heap.size=w.heap.size+3:=by simp
 have bV:(((w.alloc (.cells v 51)).alloc (.cells #[.bool false] 4)).alloc (.cells v 51)).heap[w.heap.size+1+1]?=some (.cells v 51 (0,0)):=by
  have:=World.alloc_heap_new ((w.alloc (.cells v 51)).alloc (.cells #[.bool false] 4)) (.cells v 51)
  rwa[World.size_alloc,World.size_alloc]at this
 obtain⟨W0,hW0⟩: ∃W0,(((w.alloc (.cells v 51)).alloc (.cells #[.bool false] 4)).alloc (.cells v 51))=W0:=⟨_,rfl⟩
 rw[hW0]at bR bV hB0 hsz ⊢
 clear hW0
 have bV:W0.heap[w.heap.size+1+1]?=some (.cells #[.bool x0,.string x1,.bool x2,.string x3,.bool x4,.string x5,.bool x6,.string x7,.bool x8,.string x9,.bool y0,.string y1,.bool y2,.string y3,.bool y4,.string y5,.bool y6,.string y7,.bool y8,.string y9,.bool z0,.string z1,.bool z2,.string z3,.bool z4,.string z5,.bool z6,.string z7,.bool z8,.string z9] 51 (0,0)):=by rw[bV,←hv]
 refine wpIn_rangeFunc_ownH hro h1n (gf:=247) (lb:= #[.pointer (some ⟨w.heap.size+1+1,0,none⟩)]) rfl h3 (enters_of Tryz.func247 (by kernel_rfl) rfl)
  (num_stops enR (0,⟨_,hx⟩) (1,⟨_,hy⟩) (2,⟨_,hz⟩) F (n-1) h3 hro (by omega) (w.heap.size+1+1) w.heap.size x0 x1 x2 x3 x4 x5 x6 x7 x8 x9 y0 y1 y2 y3 y4 y5 y6 y7 y8 y9 z0 z1 z2 z3 z4 z5 z6 z7 z8 z9 W0 (by omega) bV rfl rfl rfl) belowK_t (belowK_b (by omega)) (Below.refl _ _) (fun _=>rfl)
  (fun pre W=>((∀p∈pre,p.2.1.ok=true)∧Boxed W (w.heap.size+1) 4 (.bool false))∧Below w.heap.size w W)
  (fun c pre W=>((c= .ret∧ ∃p∈pre,p.2.1.ok=false)∧Boxed W (w.heap.size+1) 4 (.bool false))∧Below w.heap.size w W)
  (OwnFrom.and (OwnFrom.and (ownFrom_pure _ _) (Own.from (boxed_own _ _ _) _)) (ownFrom_below (Nat.le_refl _) (by omega)))
  (fun c=>OwnFrom.and (OwnFrom.and (ownFrom_pure _ _) (Own.from (boxed_own _ _ _) _)) (ownFrom_below (Nat.le_refl _) (by omega)))
  ⟨⟨by simp,bR⟩,hB0⟩
  (fun x a' W=> ∃Bx,w.heap.size+1<Bx∧W.heap[Bx]?=some (.cells x.2.1.a 39 (0,0))∧a'={tmps:= #[.agg v,.pointer (some ⟨w.heap.size,0,none⟩),.pointer (some ⟨w.heap.size+1,0,none⟩),undef,.pointer (some ⟨Bx,0,none⟩),.agg v,.func (.func 247) #[] #[.pointer (some ⟨w.heap.size+1+1,0,none⟩)],.int .i64 x.1,.agg x.2.1.a,undef,undef,undef],defers:=[]})
  (fun x a' _ X Y row hs hg hr=>by obtain⟨Bx,e1,e2,e3⟩:=hs;exact⟨Bx,e1,cells_own _ Bx (fun(_:Unit)=>x.2.1.a) 39 () X Y row e2 hg hr,e3⟩)
  ?assign ?body ?done ?stop
 case assign=>
  rintro l pre x W K ⟨⟨hp,bR1⟩,hB1⟩ hK
  dsimp only[enR]
  have hst:=store_num x.2.1 W #[.bool false,.string ⟨#[]⟩,.bool false,.string ⟨#[]⟩,.bool false,.string ⟨#[]⟩,.bool false,.string ⟨#[]⟩,.bool false,.string ⟨#[]⟩] rfl
  gi_wp2_with (refine wpListIn_storeA rfl rfl rfl rfl hst ?_)
  exact hK _ _ ((KeepsOthers.alloc _ _).from _) ((Below.refl _ W).alloc hB1.size _) ⟨⟨hp,bR1.alloc _⟩,hB1.alloc hB1.size _⟩ ⟨W.heap.size,bR1.lt,World.alloc_heap_new W _,rfl⟩
 case body=>
  rintro l pre x a' W hl ⟨r,hr⟩ ⟨⟨hp,bR1⟩,hB1⟩ ⟨Bx,hBx,bX,rfl⟩ hlt
  have hld:=load_num bX
  have h1':1≤n-1-1:=by omega
  have cR: ∀W2,Below W.heap.size W W2→Boxed W2 (w.heap.size+1) 4 (.bool false):=fun W2 h=>(h.block _ bR1.lt).trans bR1
  gi_wp2_with (first|(gi_at_call 154;refine(CallsIn.inRound l (hV _ x.2 _)).mono ?_;rintro e W2 ⟨rfl,hBW⟩;have bR2:=cR _ hBW;have c2:=bR2.cell;have f2:=bR2.frozen)|refine wpListIn_loadA rfl rfl rfl hld ?_)
  · rename_i hk
    have hk':x.2.1.ok=false:=by simpa using hk
    exact⟨(keeps_below hBW _).trans ((KeepsOthers.setCell _ _ _).from _),⟨⟨rfl,x,List.mem_append.2 (.inr (by simp)),hk'⟩,bR2.set _⟩,(hB1.trans (hBW.mono hB1.size)).setCell (p:=⟨w.heap.size+1,0,none⟩) (by simp) _⟩
  · rename_i hk
    have hk':x.2.1.ok=true:=by simpa using hk
    exact⟨keeps_below hBW _,hBW.mono hB1.size,⟨fun p hp'=>(List.mem_append.1 hp').elim (hp p) (fun e=>by simp at e;subst e;exact hk'),bR2⟩,hB1.trans (hBW.mono hB1.size)⟩
 case done=>
  rintro D zs W hD rfl ⟨⟨hp,bR1⟩,hB1⟩ hK
  have cR:=bR1.cell
  have fR:=bR1.frozen
  gi_wp2
  have hK':=(KeepsOthers.setCell W ⟨w.heap.size+1,0,none⟩ (.bool true)).same D _ hK rfl
  refine⟨by simp,.inl ⟨_,_,rfl,run_takeDeferred hK',?_⟩⟩
  have hc5:=cell_kept (bR1.set (.bool true)).cell (grownBy_putObj' _ D (.deferred none)) (fun r e=>by cases e;exact⟨_,hK',rfl⟩)
  refine⟨.bool true,?_,?_,(hB1.setCell (p:=⟨w.heap.size+1,0,none⟩) (by simp) _).trans (belowK_b (w:=w) (Nat.le_refl _) _ D _ _ (by omega) hK' rfl rfl)⟩
  · simp[results,Tryz.f148,go_sem,hc5]
  · have q0:=hp _ (List.mem_cons_self ..)
    have q1:=hp _ (List.mem_cons_of_mem _ (List.mem_cons_self ..))
    have q2:=hp _ (List.mem_cons_of_mem _ (List.mem_cons_of_mem _ (List.mem_cons_self ..)))
    unfold ok3
    rw[q0,q1,q2];rfl
 case stop=>
  rintro D c pre W hD hpre ⟨⟨⟨rfl,x,hx,hy⟩,bR1⟩,hB1⟩ hK
  gi_wp2
  refine⟨by simp,.inl ⟨_,_,rfl,run_takeDeferred hK,?_⟩⟩
  have hc5:=cell_kept bR1.cell (grownBy_putObj' _ D (.deferred none)) (fun r e=>by cases e;exact⟨_,hK,rfl⟩)
  refine⟨.bool false,?_,?_,hB1.trans (belowK_b (w:=w) (Nat.le_refl _) W D _ _ (by omega) hK rfl rfl)⟩
  · simp[results,Tryz.f148,go_sem,hc5]
  · have hm:=hpre.subset hx
    simp only[List.mem_cons,List.not_mem_nil,or_false]at hm
    unfold ok3
    rcases hm with rfl|rfl|rfl<;>rw[hy]<;>simp
theorem VVal_r(x y z:RN)(h:raw3 1000000 x y z=true):PCall P 148 [vecR x y z] (.lit (.bool (ok3 x y z))):=by
 obtain⟨hx,hy,hz⟩:=raw3_iff.1 h
 intro Im w vs hIm hvs
 obtain⟨y0,ys,e1,⟨arr,rfl,hr⟩,e2⟩:=hvs
 have e3:vs= #[.agg arr]:=by
  apply Array.ext'
  rw[e1,e2]
 subst e3
 have ha:arr.toList=(x.a.toList++(y.a.toList++z.a.toList)):=repL_lits_eq hr
 obtain⟨x0,x1,x2,x3,x4,x5,x6,x7,x8,x9⟩:=x
 obtain⟨y0,y1,y2,y3,y4,y5,y6,y7,y8,y9⟩:=y
 obtain⟨z0,z1,z2,z3,z4,z5,z6,z7,z8,z9⟩:=z
 refine(callsIn_wide.1 (vval_in Fence.wide 6 trivial trivial trivial trivial rfl (Nat.le_refl _) (fun m x W=>callsIn_wide.2 (PCall.num (FVal_raw x.1 x.2) W)) _ _ _ _ _ _ _ _ _ _ _ _ _ _ _ _ _ _ _ _ _ _ _ _ _ _ _ _ _ _ hx hy hz arr ha w)).mono ?_
 rintro e w' ⟨rfl,hB⟩
 exact⟨_,_,Im,rfl,rfl,rfl,Im.le_refl,(fun b cs hb=>by obtain⟨c,T,fz,k1,k2⟩:=hIm b cs hb;exact⟨c,T,fz,(hB.block b (Array.getElem?_eq_some_iff.1 k1).1).trans k1,k2⟩),hB,fun b hb=> .inl hb⟩
end Go.Fw
open Go
namespace Go.Fw
set_option maxRecDepth 100000
theorem VVal(v:VN)(h:v.raw 1000000=true):PCall P 148 [v.c] (.lit (.bool v.ok)):=VVal_r v.x v.y v.z h
theorem VValK(x y z:K)(hx:x.sz≤1000000)(hy:y.sz≤1000000)(hz:z.sz≤1000000):PCall P 148 [vecC x y z] (.lit (.bool true)):=by
 have h:=VVal (ofV (some ⟨x,y,z⟩)) (ofV_raw (by show max x.sz (max y.sz z.sz)≤1000000;omega))
 rw[toV_ok (toV_ofV (some ⟨x,y,z⟩))]at h
 exact h
end Go.Fw
open Go IntKind
namespace Go.Fw
set_option maxRecDepth 100000
theorem veB_p1(f:Nat)(v w:VN)(g:v.ok=false)(s5_0:VN.raw 1000000 v=true):PCall P 205 [.agg [CV.lit (Value.func (Fn.func f) #[] #[])],v.c,w.c] zeroVec:=
 pcallT (.r 5 ((VVal (v) s5_0).eqB g) (.c (lq 30 30) .nil)) (by kernel_rfl)
theorem veC_p1(f:Nat)(v w:VN)(g:v.ok=true)(g2:w.ok=false)(s5_0:VN.raw 1000000 v=true)(s9_0:VN.raw 1000000 w=true):PCall P 205 [.agg [CV.lit (Value.func (Fn.func f) #[] #[])],v.c,w.c] zeroVec:=
 pcallT (.r 5 ((VVal (v) s5_0).eqB g) (.r 9 ((VVal (w) s9_0).eqB g2) (.c (lq 30 30) .nil))) (by kernel_rfl)
theorem veS_p1(x y z x' y' z':K)(s5_0:x.sz≤1000000)(s5_1:y.sz≤1000000)(s5_2:z.sz≤1000000)(s9_0:x'.sz≤1000000)(s9_1:y'.sz≤1000000)(s9_2:z'.sz≤1000000)(s19_0:x.sz+x'.sz+2<1073741824)(s26_0:y.sz+y'.sz+2<1073741824)(s33_0:z.sz+z'.sz+2<1073741824):PCall P 205 [.agg [CV.lit (Value.func (Fn.func 135) #[] #[])],vecC x y z,vecC x' y' z'] (vecC (x-x') (y-y') (z-z')):=
 pcallT (.r 5 (VValK (x) (y) (z) s5_0 s5_1 s5_2) (.r 9 (VValK (x') (y') (z') s9_0 s9_1 s9_2) (.r 19 (FSub_K (x) (x') s19_0) (.r 26 (FSub_K (y) (y') s26_0) (.r 33 (FSub_K (z) (z') s33_0) (.c (lq 30 30) .nil)))))) (by kernel_rfl)
theorem veM_p1(x y z x' y' z':K)(s5_0:x.sz≤1000000)(s5_1:y.sz≤1000000)(s5_2:z.sz≤1000000)(s9_0:x'.sz≤1000000)(s9_1:y'.sz≤1000000)(s9_2:z'.sz≤1000000)(s19_0:x.sz+x'.sz+2<1073741824)(s26_0:y.sz+y'.sz+2<1073741824)(s33_0:z.sz+z'.sz+2<1073741824):PCall P 205 [.agg [CV.lit (Value.func (Fn.func 136) #[] #[])],vecC x y z,vecC x' y' z'] (vecC (x*x') (y*y') (z*z')):=
 pcallT (.r 5 (VValK (x) (y) (z) s5_0 s5_1 s5_2) (.r 9 (VValK (x') (y') (z') s9_0 s9_1 s9_2) (.r 19 (FMul_K (x) (x') s19_0) (.r 26 (FMul_K (y) (y') s26_0) (.r 33 (FMul_K (z) (z') s33_0) (.c (lq 30 30) .nil)))))) (by kernel_rfl)
theorem vxO_p1(a b c:Int)(s2_0:(-9223372036854775808:Int)≤a∧a≤9223372036854775807)(s4_0:(-9223372036854775808:Int)≤b∧b≤9223372036854775807)(s6_0:(-9223372036854775808:Int)≤c∧c≤9223372036854775807):PCall P 139 [ci64 a,ci64 b,ci64 c] (vecC (K.ofInt a) (K.ofInt b) (K.ofInt c)):=
 pcallT (.r 2 (FOf_spec (a) s2_0) (.r 4 (FOf_spec (b) s4_0) (.r 6 (FOf_spec (c) s6_0) (.c (lq 30 30) .nil)))) (by kernel_rfl)
end Go.Fw
open Go
namespace Go.Fw
set_option maxRecDepth 100000
abbrev opC(f:Nat):CV:= .agg [.lit (.func (.func f) #[] #[])]
def V3.pmul(a b:V3):V3:=⟨a.x*b.x,a.y*b.y,a.z*b.z⟩
noncomputable def wMul(v w:VN):VN:=ofV (o2 V3.pmul (toV v) (toV w))
noncomputable def oV(a b c:Int):VN:=ofV (toV (ofV (some ⟨K.ofInt a,K.ofInt b,K.ofInt c⟩)))
theorem oV_eq(a b c:Int):oV a b c=ofV (some ⟨K.ofInt a,K.ofInt b,K.ofInt c⟩):=by unfold oV;rw[toV_ofV]
theorem on_of (f : Nat) (g : V3 → V3 → V3) (v w : VN) (hv : v.raw 1000000 = true) (hw : w.raw 1000000 = true)
    (h: ∀a b:V3,a.x.sz≤1000000→a.y.sz≤1000000→a.z.sz≤1000000→b.x.sz≤1000000→b.y.sz≤1000000→b.z.sz≤1000000→PCall P 205 [opC f,a.c,b.c] (g a b).c):
    PCall P 205 [opC f,v.c,w.c] (ofV (o2 g (toV v) (toV w))).c:=by
 cases ev:toV v with
 |none=>exact veB_p1 f v w (toV_none ev) hv
 |some a=>
  cases ew:toV w with
  |none=>exact veC_p1 f v w (toV_ok ev) (toV_none ew) hv hw
  |some b=>
   obtain⟨x,y,z⟩:=sz_toV ev hv
   obtain⟨x',y',z'⟩:=sz_toV ew hw
   rw[c_ofV ev,c_ofV ew]
   exact h a b x y z x' y' z'
theorem OnS_r(v w:VN)(hv:v.raw 1000000=true)(hw:w.raw 1000000=true):PCall P 205 [opC 135,v.c,w.c] (wSub v w).c:=
 on_of 135 V3.sub v w hv hw fun a b x y z x' y' z'=>veS_p1 _ _ _ _ _ _ x y z x' y' z' (by omega) (by omega) (by omega)
theorem OnM_r(v w:VN)(hv:v.raw 1000000=true)(hw:w.raw 1000000=true):PCall P 205 [opC 136,v.c,w.c] (wMul v w).c:=
 on_of 136 V3.pmul v w hv hw fun a b x y z x' y' z'=>veM_p1 _ _ _ _ _ _ x y z x' y' z' (by omega) (by omega) (by omega)
theorem OnMk_r(v:VN)(k:RN)(hv:v.raw 1000000=true)(hk:k.raw 1000000=true):PCall P 205 [opC 136,v.c,vecR k k k] (wMul v ⟨k,k,k⟩).c:=
 OnM_r v ⟨k,k,k⟩ hv (raw3_iff.2 ⟨hk,hk,hk⟩)
theorem VOf_r (a b c : Int) (ha : -9223372036854775808 ≤ a ∧ a ≤ 9223372036854775807) (hb : -9223372036854775808 ≤ b ∧ b ≤ 9223372036854775807) (hc : -9223372036854775808 ≤ c ∧ c ≤ 9223372036854775807) :
    PCall P 139 [ci64 a,ci64 b,ci64 c] (oV a b c).c:=by rw[oV_eq];exact vxO_p1 a b c ha hb hc
end Go.Fw
open Go IntKind
namespace Go.Fw
set_option maxRecDepth 100000
theorem veSb_p1(v w:VN)(s6_0:VN.raw 1000000 v=true)(s6_1:VN.raw 1000000 w=true):PCall P 171 [v.c,w.c] (vecR (wSub v w).x (wSub v w).y (wSub v w).z):=
 pcallT (.r 6 (OnS_r (v) (w) s6_0 s6_1) (.c (lq 30 30) .nil)) (by kernel_rfl)
theorem veDt_p1(v w:VN)(s6_0:VN.raw 1000000 v=true)(s6_1:VN.raw 1000000 w=true)(s13_0:RN.raw 1000000 (wMul v w).x=true)(s13_1:RN.raw 1000000 (wMul v w).y=true)(s16_0:RN.raw 1000000 (nAdd (wMul v w).x (wMul v w).y)=true)(s16_1:RN.raw 1000000 (wMul v w).z=true):PCall P 149 [v.c,w.c] (RN.c (nAdd (nAdd (wMul v w).x (wMul v w).y) (wMul v w).z)):=
 pcallT (.r 6 (OnM_r (v) (w) s6_0 s6_1) (.c (lq 30 30) (.r 13 (FAdd_r ((wMul v w).x) ((wMul v w).y) s13_0 s13_1) (.r 16 (FAdd_r (nAdd (wMul v w).x (wMul v w).y) ((wMul v w).z) s16_0 s16_1) (.c (lq 10 10) .nil))))) (by kernel_rfl)
end Go.Fw
open Go IntKind
namespace Go.Fw
set_option maxRecDepth 100000
theorem veSc_p1(v:VN)(k:RN)(s9_0:VN.raw 1000000 v=true)(s9_1:RN.raw 1000000 k=true):PCall P 142 [v.c,k.c] (vecR (wMul v {x:=k,y:=k,z:=k}).x (wMul v {x:=k,y:=k,z:=k}).y (wMul v {x:=k,y:=k,z:=k}).z):=
 pcallT (.r 9 (OnMk_r (v) (k) s9_0 s9_1) (.c (lq 30 30) .nil)) (by kernel_rfl)
theorem veZ_p1(v:VN)(s3_0 s3_1 s3_2:(-9223372036854775808:Int)≤0∧(0:Int)≤9223372036854775807):PCall P 163 [v.c] (.lit (.bool (rnB v.x (oV (0:Int) (0:Int) (0:Int)).x&&(rnB v.y (oV (0:Int) (0:Int) (0:Int)).y&&(rnB v.z (oV (0:Int) (0:Int) (0:Int)).z&&true))))):=
 pcallT (.r 3 (VOf_r ((0:Int)) ((0:Int)) ((0:Int)) s3_0 s3_1 s3_2) .nil) (by kernel_rfl)
end Go.Fw
open Go
namespace Go.Fw
set_option maxRecDepth 100000
theorem VSub_r(v w:VN)(hv:v.raw 1000000=true)(hw:w.raw 1000000=true):PCall P 171 [v.c,w.c] (wSub v w).c:=veSb_p1 v w hv hw
theorem wMul_scale(v:VN)(k:RN):wMul v ⟨k,k,k⟩=wScale v k:=by
 unfold wMul wScale
 cases ev:toV v with
 |none=>rfl
 |some a=>
  have e:toV ⟨k,k,k⟩=(toO k).map fun c=>⟨c,c,c⟩:=by
   unfold toV
   cases ek:toO k<;>rfl
  rw[e]
  cases ek:toO k<;>rfl
theorem VScale_r(v:VN)(k:RN)(hv:v.raw 1000000=true)(hk:k.raw 1000000=true):PCall P 142 [v.c,k.c] (wScale v k).c:=by
 rw[←wMul_scale]
 exact veSc_p1 v k hv hk
theorem wDot_parts(v w:VN):nAdd (nAdd (wMul v w).x (wMul v w).y) (wMul v w).z=wDot v w:=by
 unfold wDot wMul
 cases ev:toV v with
 |none=>show nAdd (nAdd .zero .zero) .zero= .zero;unfold nAdd;rw[toO_zero];rfl
 |some a=>
  cases ew:toV w with
  |none=>show nAdd (nAdd .zero .zero) .zero= .zero;unfold nAdd;rw[toO_zero];rfl
  |some b=>
   show nAdd (nAdd (.ofK (a.x*b.x)) (.ofK (a.y*b.y))) (.ofK (a.z*b.z))= .ofK (a.x*b.x+a.y*b.y+a.z*b.z)
   unfold nAdd
   simp only[toO_ofK,toO_ofO]
   rfl
theorem VDot_r(v w:VN)(hv:v.raw 1000=true)(hw:w.raw 1000=true):PCall P 149 [v.c,w.c] (wDot v w).c:=by
 have hm:(wMul v w).raw 10000=true:=by
  refine ofV_raw ?_
  cases ev:toV v with
  |none=>exact Nat.zero_le _
  |some a=>
   cases ew:toV w with
   |none=>exact Nat.zero_le _
   |some b=>
    obtain⟨x,y,z⟩:=sz_toV ev hv
    obtain⟨x',y',z'⟩:=sz_toV ew hw
    have m1:=K.sz_mul a.x b.x
    have m2:=K.sz_mul a.y b.y
    have m3:=K.sz_mul a.z b.z
    show max (a.x*b.x).sz (max (a.y*b.y).sz (a.z*b.z).sz)≤10000
    omega
 obtain⟨h1,h2,h3⟩:=raw3_iff.1 hm
 have h:=veDt_p1 v w (VN.raw_mono hv (by decide)) (VN.raw_mono hw (by decide)) (RN.raw_mono h1 (by decide)) (RN.raw_mono h2 (by decide)) (RN.raw_mono (raw_add h1 h2) (by decide)) (RN.raw_mono h3 (by decide))
 rwa[wDot_parts]at h
noncomputable def zV(v:VN):Bool:=rnB v.x (oV 0 0 0).x&&(rnB v.y (oV 0 0 0).y&&(rnB v.z (oV 0 0 0).z&&true))
theorem VZero_r(v:VN):PCall P 163 [v.c] (.lit (.bool (zV v))):=veZ_p1 v (by decide) (by decide) (by decide)
end Go.Fw
open Go
namespace Go.Fw
set_option maxRecDepth 100000
def plR(x y z d:RN):CV:= .agg (x.l++(y.l++(z.l++d.l)))
def zeroPl:CV:=plR .zero .zero .zero .zero
structure PN where
 n:VN
 d:RN
def PN.c(p:PN):CV:=plR p.n.x p.n.y p.n.z p.d
def PN.zero:PN:=⟨.zero,.zero⟩
def PN.raw(k:Nat)(p:PN):Bool:=p.n.raw k&&p.d.raw k
theorem PN.raw_iff{k:Nat}{p:PN}:p.raw k=true↔p.n.raw k=true∧p.d.raw k=true:=by unfold PN.raw;simp
theorem V4Of_r (a b c : Int) (ha : -9223372036854775808 ≤ a ∧ a ≤ 9223372036854775807) (hb : -9223372036854775808 ≤ b ∧ b ≤ 9223372036854775807) (hc : -9223372036854775808 ≤ c ∧ c ≤ 9223372036854775807) :
    PCall P 63 [ci64 a,ci64 b,ci64 c] (oV a b c).c:=by rw[oV_eq];exact v4OK_p1 a b c ha hb hc
end Go.Fw
open Go
namespace Go.Fw
set_option maxRecDepth 100000
theorem sgn_zero{x:K}:K.sgn x=0↔x=0:=Sg.zero x
noncomputable def nDivE(x y:RN):RN×Int:=match toO x,toO y with
 |some a,some b=>if K.sgn b=0 then(.zero,10)else(.ofK (K.div a b),0)
 |_,_=>(.zero,1)
theorem FDiv_r(x y:RN)(hx:x.raw 1000000=true)(hy:y.raw 1000000=true):PCall P 147 [x.c,y.c] (.tup [(nDivE x y).1.c,ci64 (nDivE x y).2]):=by
 unfold nDivE
 cases ex:toO x with
 |none=>exact fDiB_p1 x y (toO_none ex) hx
 |some k=>
  cases ey:toO y with
  |none=>exact fDiC_p1 x y (toO_l ex).1 (toO_none ey) hx hy
  |some l=>
   have a:=raw_of ex hx
   have b:=raw_of ey hy
   rw[c_of (toO_l ex).2,c_of (toO_l ey).2]
   dsimp only
   by_cases h0:K.sgn l=0
   · rw[if_pos h0,sgn_zero.1 h0]
     exact FDiv_0 k (by simp only[Smk];omega)
   · rw[if_neg h0]
     exact FDiv_K k l (fun h=>h0 (sgn_zero.2 h)) (by omega)
noncomputable def nAbs(x:RN):RN:=if nSgn x<0 then nNeg x else nNeg (nNeg x)
end Go.Fw
open Go IntKind
namespace Go.Fw
set_option maxRecDepth 100000
theorem faA_p1(x:RN)(h1:decide (nSgn x<0)=true)(s3_0 s7_0:RN.raw 1000000 x=true):PCall P 157 [x.c] (RN.c (nNeg x)):=
 pcallT (.r 3 (FSign_r (x) s3_0) (.b 5 h1 (.r 7 (FNeg_r (x) s7_0) (.c (lq 10 10) .nil)))) (by kernel_rfl)
theorem faA_p2(x:RN)(h1:decide (nSgn x<0)=false)(s3_0 s7_0:RN.raw 1000000 x=true)(s8_0:RN.raw 1000000 (nNeg x)=true):PCall P 157 [x.c] (RN.c (nNeg (nNeg x))):=
 pcallT (.r 3 (FSign_r (x) s3_0) (.b 5 h1 (.r 7 (FNeg_r (x) s7_0) (.r 8 (FNeg_r (nNeg x) s8_0) (.c (lq 10 10) .nil))))) (by kernel_rfl)
theorem faQ_p1(x y:RN)(s5_0:RN.raw 1000000 x=true)(s5_1:RN.raw 1000000 y=true):PCall P 156 [x.c,y.c] (RN.c (nDivE x y).fst):=
 pcallT (.r 5 (FDiv_r (x) (y) s5_0 s5_1) (.c (lq 10 10) (.c (lq 10 10) .nil))) (by kernel_rfl)
theorem plV_p1(p:PN)(h1:(p.n.ok)=true)(h2:(zV p.n)=true)(s4_0:VN.raw 1000000 p.n=true):PCall P 79 [p.c] (.lit (.bool false)):=
 pcallT (.r 4 ((VVal (p.n) s4_0).eqB h1) (.r 8 ((VZero_r (p.n)).eqB h2) .nil)) (by kernel_rfl)
theorem plV_p2(p:PN)(h1:(p.n.ok)=true)(h2:(zV p.n)=false)(h3:(p.d.ok)=true)(s4_0:VN.raw 1000000 p.n=true)(s14_0:RN.raw 1000000 p.d=true):PCall P 79 [p.c] (.lit (.bool true)):=
 pcallT (.r 4 ((VVal (p.n) s4_0).eqB h1) (.r 8 ((VZero_r (p.n)).eqB h2) (.r 14 ((FVal_c (p.d) s14_0).eqB h3) .nil))) (by kernel_rfl)
theorem plV_p3(p:PN)(h1:(p.n.ok)=true)(h2:(zV p.n)=false)(h3:(p.d.ok)=false)(s4_0:VN.raw 1000000 p.n=true)(s14_0:RN.raw 1000000 p.d=true):PCall P 79 [p.c] (.lit (.bool false)):=
 pcallT (.r 4 ((VVal (p.n) s4_0).eqB h1) (.r 8 ((VZero_r (p.n)).eqB h2) (.r 14 ((FVal_c (p.d) s14_0).eqB h3) .nil))) (by kernel_rfl)
theorem plV_p4(p:PN)(h1:(p.n.ok)=false)(s4_0:VN.raw 1000000 p.n=true):PCall P 79 [p.c] (.lit (.bool false)):=
 pcallT (.r 4 ((VVal (p.n) s4_0).eqB h1) .nil) (by kernel_rfl)
end Go.Fw
open Go
namespace Go.Fw
set_option maxRecDepth 100000
theorem FAbs_r(x:RN)(hx:x.raw 1000000=true):PCall P 157 [x.c] (nAbs x).c:=by
 unfold nAbs
 by_cases h:nSgn x<0
 · rw[if_pos h];exact faA_p1 x (decide_eq_true h) hx hx
 · rw[if_neg h];exact faA_p2 x (decide_eq_false h) hx hx (raw_neg hx)
theorem FQuo_r(x y:RN)(hx:x.raw 1000000=true)(hy:y.raw 1000000=true):PCall P 156 [x.c,y.c] (nDivE x y).1.c:=faQ_p1 x y hx hy
noncomputable def PN.ok(p:PN):Bool:=p.n.ok&&(!zV p.n&&p.d.ok)
theorem PVal_r(p:PN)(hp:p.raw 1000000=true):PCall P 79 [p.c] (.lit (.bool p.ok)):=by
 obtain⟨hn,hd⟩:=PN.raw_iff.1 hp
 unfold PN.ok
 cases e1:p.n.ok
 · exact plV_p4 p e1 hn
 · cases e2:zV p.n
   · cases e3:p.d.ok
     · exact plV_p3 p e1 e2 e3 hn hd
     · exact plV_p2 p e1 e2 e3 hn hd
   · exact plV_p1 p e1 e2 hn
noncomputable def oN(n:Int):RN:=ofO (toO (ofO (some (K.ofInt n))))
theorem oN_eq(n:Int):oN n= .ofK (K.ofInt n):=by unfold oN;rw[toO_ofO];rfl
theorem FOf_r(n:Int)(h: -9223372036854775808≤n∧n≤9223372036854775807):PCall P 144 [ci64 n] (oN n).c:=by rw[oN_eq];exact FOf_spec n h
noncomputable def canK(x:RN):RN:=(nDivE (oN 1) (nAbs x)).1
noncomputable def canBy(p:PN)(x:RN):PN:=⟨wScale p.n (canK x),nMul p.d (canK x)⟩
end Go.Fw
open Go IntKind
namespace Go.Fw
set_option maxRecDepth 100000
theorem fSb_p1(x y:RN)(s5_0:RN.raw 1000000 y=true)(s6_0:RN.raw 1000000 x=true)(s6_1:RN.raw 1000000 (nNeg y)=true):PCall P 135 [x.c,y.c] (RN.c (nAdd x (nNeg y))):=
 pcallT (.r 5 (FNeg_r (y) s5_0) (.r 6 (FAdd_r (x) (nNeg y) s6_0 s6_1) (.c (lq 10 10) .nil))) (by kernel_rfl)
theorem gcd43_p1:PCall P 164 [ci64 4,ci64 3] (.lit (.int .i64 1)):=
 pcallT (.c (nz 3) (.c (nz 1) .nil)) (by kernel_rfl)
theorem i64a_p1:PCall P 217 [.agg [.lit (.bool false),.lit (.string {data:= #[(3:UInt8)]})]] (.tup [.lit (.int .i64 3),.lit (.bool true)]):=
 pcallT (.r 4 (Valid_spec (false) ({data:= #[(3:UInt8)]})) (.c (nn 8) (.c (bq 0 1) .nil))) (by kernel_rfl)
theorem i64b_p1:PCall P 217 [.agg [.lit (.bool false),.lit (.string {data:= #[(4:UInt8)]})]] (.tup [.lit (.int .i64 4),.lit (.bool true)]):=
 pcallT (.r 4 (Valid_spec (false) ({data:= #[(4:UInt8)]})) (.c (nn 8) (.c (bq 0 1) .nil))) (by kernel_rfl)
end Go.Fw
open Go
namespace Go.Fw
set_option maxRecDepth 100000
noncomputable def kN(x:K):RN:=ofO (toO (ofO (some x)))
theorem kN_eq(x:K):kN x= .ofK x:=by unfold kN;rw[toO_ofO];rfl
theorem WCosN(i:Int):PCall P 33 [ci64 i] (kN (cosK i)).c:=by rw[kN_eq];exact WCos_spec i
theorem WSinN(i:Int):PCall P 35 [ci64 i] (kN (sinK i)).c:=by rw[kN_eq];exact WSin_spec i
theorem toO_kN(x:K):toO (kN x)=some x:=by rw[kN_eq];exact toO_ofK x
theorem nMul_k(x y:K):nMul (kN x) (kN y)=kN (x*y):=by unfold nMul;rw[toO_kN,toO_kN,kN_eq];rfl
theorem nAdd_k(x y:K):nAdd (kN x) (kN y)=kN (x+y):=by unfold nAdd;rw[toO_kN,toO_kN,kN_eq];rfl
theorem nSub_k(x y:K):nSub (kN x) (kN y)=kN (x-y):=by unfold nSub;rw[toO_kN,toO_kN,kN_eq];rfl
theorem nNeg_k(x:K):nNeg (kN x)=kN (-x):=by unfold nNeg;rw[toO_kN,kN_eq];rfl
theorem nSgn_k(x:K):nSgn (kN x)=K.sgn x:=by unfold nSgn;rw[toO_kN]
theorem oN_k(n:Int):oN n=kN (K.ofInt n):=by rw[oN_eq,kN_eq]
theorem nDiv_k(x y:K)(h:K.sgn y≠0):(nDivE (kN x) (kN y)).1=kN (K.div x y):=by
 unfold nDivE
 rw[toO_kN,toO_kN]
 dsimp only
 rw[if_neg h,kN_eq]
end Go.Fw
open Go
namespace Go.Fw
set_option maxRecDepth 100000
theorem FSub_r(x y:RN)(hx:x.raw 1000000=true)(hy:y.raw 1000000=true):PCall P 135 [x.c,y.c] (nSub x y).c:=by
 have h:=fSb_p1 x y hy hx (raw_neg hy)
 have e:nAdd x (nNeg y)=nSub x y:=by unfold nAdd nSub;rw[toO_nNeg,sub_o]
 rw[e]at h
 exact h
def k34:K:=⟨3,0,0,0,4,by decide,by decide⟩
def k54:K:=⟨5,0,0,0,4,by decide,by decide⟩
theorem I64a:PCall P 217 [.agg [.lit (.bool (kN k34).b0),.lit (.string (kN k34).s0)]] (.tup [ci64 3,.lit (.bool true)]):=by
 rw[kN_eq,show(RN.ofK k34).s0=⟨#[3]⟩ by kernel_rfl]
 exact i64a_p1
theorem I64b:PCall P 217 [.agg [.lit (.bool (kN k34).b4),.lit (.string (kN k34).s4)]] (.tup [ci64 4,.lit (.bool true)]):=by
 rw[kN_eq,show(RN.ofK k34).s4=⟨#[4]⟩ by kernel_rfl]
 exact i64b_p1
end Go.Fw
open Go IntKind
namespace Go.Fw
set_option maxRecDepth 100000
theorem pos0_p1(x y:RN)(g1:(nSgn (nSub (nMul x (kN (sinK (0:Int)))) (nMul y (kN (cosK (0:Int)))))==0)=true)(g2:decide (nSgn (nAdd (nMul x (kN (cosK (0:Int)))) (nMul y (kN (sinK (0:Int)))))>0)=true)(s21_0:RN.raw 1000000 x=true)(s21_1:RN.raw 1000000 (kN (sinK (0:Int)))=true)(s24_0:RN.raw 1000000 y=true)(s24_1:RN.raw 1000000 (kN (cosK (0:Int)))=true)(s25_0:RN.raw 1000000 (nMul x (kN (sinK (0:Int))))=true)(s25_1:RN.raw 1000000 (nMul y (kN (cosK (0:Int))))=true)(s30_0:RN.raw 1000000 x=true)(s30_1:RN.raw 1000000 (kN (cosK (0:Int)))=true)(s33_0:RN.raw 1000000 y=true)(s33_1:RN.raw 1000000 (kN (sinK (0:Int)))=true)(s34_0:RN.raw 1000000 (nMul x (kN (cosK (0:Int))))=true)(s34_1:RN.raw 1000000 (nMul y (kN (sinK (0:Int))))=true)(s38_0:RN.raw 1000000 (nSub (nMul x (kN (sinK (0:Int)))) (nMul y (kN (cosK (0:Int)))))=true)(s42_0:RN.raw 1000000 (nAdd (nMul x (kN (cosK (0:Int)))) (nMul y (kN (sinK (0:Int)))))=true):PCall P 158 [x.c,y.c] (.tup [.lit (.int .i64 0),RN.c (nAdd (nMul x (kN (cosK (0:Int)))) (nMul y (kN (sinK (0:Int))))),.lit (.bool true)]):=
 pcallT (.r 12 (WCosN ((0:Int))) (.r 14 (WSinN ((0:Int))) (.c (lq 10 10) (.c (lq 10 10) (.r 21 (FMul_r (x) (kN (sinK (0:Int))) s21_0 s21_1) (.r 24 (FMul_r (y) (kN (cosK (0:Int))) s24_0 s24_1) (.r 25 (FSub_r (nMul x (kN (sinK (0:Int)))) (nMul y (kN (cosK (0:Int)))) s25_0 s25_1) (.c (lq 10 10) (.r 30 (FMul_r (x) (kN (cosK (0:Int))) s30_0 s30_1) (.r 33 (FMul_r (y) (kN (sinK (0:Int))) s33_0 s33_1) (.r 34 (FAdd_r (nMul x (kN (cosK (0:Int)))) (nMul y (kN (sinK (0:Int)))) s34_0 s34_1) (.c (lq 10 10) (.r 38 (FSign_r (nSub (nMul x (kN (sinK (0:Int)))) (nMul y (kN (cosK (0:Int))))) s38_0) (.b 40 g1 (.r 42 (FSign_r (nAdd (nMul x (kN (cosK (0:Int)))) (nMul y (kN (sinK (0:Int))))) s42_0) (.b 45 g2 (.c (lq 10 10) .nil))))))))))))))))) (by kernel_rfl)
theorem ratK_p1(x:K)(h1:((bytesOf x.c1.natAbs).toList==[])=true)(h2:((bytesOf x.c2.natAbs).toList==[])=true)(s3_0:Smk x):PCall P 218 [numC x] (.lit (.bool ((bytesOf x.c3.natAbs).toList==[]))):=
 pcallT (.r 3 (FValid_K (x) s3_0) (.c (bq 1 4) (.b 11 h1 (.c (bq 2 4) (.b 18 h2 (.c (bq 3 4) .nil)))))) (by kernel_rfl)
theorem vs0_p1:PCall P 81 [.agg [ci64 4,ci64 3,ci64 0]] (.lit (.bool true)):=
 pcallT (.r 29 (gcd43_p1) .nil) (by kernel_rfl)
end Go.Fw
open Go
namespace Go.Fw
set_option maxRecDepth 100000
theorem rdigits3:FCall P 195 [cstr (bytesOf 3)] (.sl 0 0 1 1) [ci64 3]:=digits_fresh (bytesOf 3) (by decide)
theorem rdigits5:FCall P 195 [cstr (bytesOf 5)] (.sl 0 0 1 1) [ci64 5]:=digits_fresh (bytesOf 5) (by decide)
theorem p3S:PCall P 183 [.agg [.lit (.bool false),cstr (bytesOf 3)]] (ci64 1):=RSign_spec 3
theorem p5S:PCall P 183 [.agg [.lit (.bool false),cstr (bytesOf 5)]] (ci64 1):=RSign_spec 5
theorem p3G:PCall P 184 [.agg [.lit (.bool false),cstr (bytesOf 3)],.agg [.lit (.bool false),cstr (bytesOf 4)]] (.agg [.lit (.bool false),cstr (bytesOf 1)]):=RGcd_s 3 4 (by decide) (by decide)
theorem p5G:PCall P 184 [.agg [.lit (.bool false),cstr (bytesOf 5)],.agg [.lit (.bool false),cstr (bytesOf 4)]] (.agg [.lit (.bool false),cstr (bytesOf 1)]):=RGcd_s 5 4 (by decide) (by decide)
theorem p3A:PCall P 186 [.agg [.lit (.bool false),cstr (bytesOf 3)]] (.agg [.lit (.bool false),cstr (bytesOf 3)]):=RAbs_spec 3
theorem p5A:PCall P 186 [.agg [.lit (.bool false),cstr (bytesOf 5)]] (.agg [.lit (.bool false),cstr (bytesOf 5)]):=RAbs_spec 5
theorem p3O:PCall P 185 [.agg [.lit (.bool false),cstr (bytesOf 3)],.agg [.lit (.bool false),cstr (bytesOf 1)]] (.agg [.lit (.bool false),cstr (bytesOf 3)]):=ROver_s 3 1 (by decide) (by decide) (by decide) (by decide)
theorem p5O:PCall P 185 [.agg [.lit (.bool false),cstr (bytesOf 5)],.agg [.lit (.bool false),cstr (bytesOf 1)]] (.agg [.lit (.bool false),cstr (bytesOf 5)]):=ROver_s 5 1 (by decide) (by decide) (by decide) (by decide)
end Go.Fw
open Go IntKind
namespace Go.Fw
set_option maxRecDepth 100000
theorem RPr3_p1:PCall P 187 [.agg [.lit (.bool false),cstr (bytesOf 3)]] (.lit (.string (Utf8.encode (51:Int)++{data:= #[]}))):=
 pcallT (.c (rValid_spec (false) (bytesOf 3)) (.c (rdigits3) (.c (bq 0 1) (.c (nz 10) (.c (bq 0 1) (.c (lq 1 1) (.c (nz 10) (.c (rtrim1) (.c (show BlksCv [some [.cv (.lit (.int .i64 0))],some [.cv (.lit (.int .i64 0))]]from(by simp[BlksCv,BlkCv])) (.c (show(1:Int)≤9223372036854775807 from by decide) (.o 3 (.r (.lit (.bool true))) (.o 14 (.f (.sl 0 0 1 1) [ci64 3]) (.o 56 (.m [2] (.sl 0 0 0 1) [some [.cv (ci64 0)]]) .nil))))))))))))) (by kernel_rfl)
theorem RPr5_p1:PCall P 187 [.agg [.lit (.bool false),cstr (bytesOf 5)]] (.lit (.string (Utf8.encode (53:Int)++{data:= #[]}))):=
 pcallT (.c (rValid_spec (false) (bytesOf 5)) (.c (rdigits5) (.c (bq 0 1) (.c (nz 10) (.c (bq 0 1) (.c (lq 1 1) (.c (nz 10) (.c (rtrim1) (.c (show BlksCv [some [.cv (.lit (.int .i64 0))],some [.cv (.lit (.int .i64 0))]]from(by simp[BlksCv,BlkCv])) (.c (show(1:Int)≤9223372036854775807 from by decide) (.o 3 (.r (.lit (.bool true))) (.o 14 (.f (.sl 0 0 1 1) [ci64 5]) (.o 56 (.m [2] (.sl 0 0 0 1) [some [.cv (ci64 0)]]) .nil))))))))))))) (by kernel_rfl)
theorem pR0_p1:PCall P 188 [ci64 0] (.lit (.string {data:= #[]})):=
 pcallT (.c (bq 0 4) .nil) (by kernel_rfl)
end Go.Fw
open Go
namespace Go.Fw
set_option maxRecDepth 100000
theorem p3P:PCall P 187 [.agg [.lit (.bool false),cstr (bytesOf 3)]] (cstr ⟨#[51]⟩):=RPr3_p1.eq (by kernel_rfl)
theorem p5P:PCall P 187 [.agg [.lit (.bool false),cstr (bytesOf 5)]] (cstr ⟨#[53]⟩):=RPr5_p1.eq (by kernel_rfl)
theorem sz34:k34.sz≤1000:=of_decide_eq_true (by kernel_rfl)
theorem sz54:k54.sz≤1000:=of_decide_eq_true (by kernel_rfl)
theorem p34V:PCall P 124 [n5C 3 0 0 0 4] (.lit (.bool true)):=RVal_K k34 (by have:=sz34;omega)
theorem p54V:PCall P 124 [n5C 5 0 0 0 4] (.lit (.bool true)):=RVal_K k54 (by have:=sz54;omega)
end Go.Fw
