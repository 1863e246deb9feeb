/- A part of the proof that the law returns true for every input: an executor for the model's code, and what functions of the program compute. -/
import Derived.Test.YtcafjpldfnegiaaGreatDoorB10
import Derived.Test.YtcafjpldfnegiaaGreatDoorB11
import Derived.Test.YtcafjpldfnegiaaGreatDoorB15
import Derived.Test.YtcafjpldfnegiaaGreatDoorB28
import Derived.Test.YtcafjpldfnegiaaGreatDoorB39
import Derived.Test.YtcafjpldfnegiaaGreatDoorB40
import Derived.Test.YtcafjpldfnegiaaGreatDoorB41
import Derived.Test.YtcafjpldfnegiaaGreatDoorB42
import Derived.KernelRfl
import Derived.OrdersIn
import Derived.RangeFuncCalls
open Go Go.RowKit Go.Shelf Go.Proofs
namespace Go.Fw
attribute [local go_sem] Oper.semAt_some
set_option maxRecDepth 100000
set_option maxHeartbeats 1000000
def RN.a(x:RN):Array Value:= #[.bool x.b0,.string x.s0,.bool x.b1,.string x.s1,.bool x.b2,.string x.s2,.bool x.b3,.string x.s3,.bool x.b4,.string x.s4]
theorem zbS(Im:Imm)(l:List Value):CV.repL Im (l.map .lit) l:=by
 induction l with
 |nil=>rfl
 |cons x xs ih=>exact⟨x,xs,rfl,rfl,ih⟩
theorem z55{Im:Imm}: ∀{l k:List Value},CV.repL Im (l.map .lit) k→k=l
 | [],_,h=>h
 |_::_,_,⟨_,_,e,h1,h2⟩=>by rw[e,show _=_ from h1,z55 h2]
theorem PCall.num{f:FuncId}{x:RN}{v:Value}(h:PCall P f [.agg x.l] (.lit v))(w:World):Calls P f #[.agg x.a] w fun e w'=>e= .returned v∧Below w.heap.size w w':=by
 refine(h (fun _=>none) w #[.agg x.a] (fun b cs hb=>by cases hb) ⟨_,_,rfl,⟨_,rfl,?_⟩,rfl⟩).mono ?_
 · exact zbS _ [.bool x.b0,.string x.s0,.bool x.b1,.string x.s1,.bool x.b2,.string x.s2,.bool x.b3,.string x.s3,.bool x.b4,.string x.s4]
 · rintro e w' ⟨y,v',I,rfl,rfl,hr,_,_,hb,_⟩
   exact⟨by rw[show y=v from hr],hb⟩
theorem z62{W W':World}(h:Below W.heap.size W W')(B:Nat):KeepsFrom B W W':=⟨h.size,fun _ _ _ hk _=>(h.block _ (Array.getElem?_eq_some_iff.1 hk).1).trans hk⟩
theorem zd9{β:Type}(n B:Nat)(c:β→Array Value)(T:TypeId):OwnFrom n (fun(s:β) W=>W.heap[B]?=some (.cells (c s) T (0,0))):=fun _ _ _ _ hs hg hr=>
 (hg.block B (Array.getElem?_eq_some_iff.1 hs).1 (fun e=>by obtain⟨_,o,ho,hc⟩:=hr B e.symm;rw[hs]at ho;cases ho;cases hc)).trans hs
abbrev RNS:={x:RN//x.raw 1000000=true}
abbrev enR(p:Nat×RNS):Array Value:= #[.int .i64 p.1,.agg p.2.1.a]
theorem z9O:Tryz.prog.cellsOf 39=10:=by kernel_rfl
theorem zed:Tryz.prog.cellsOf 51=30:=by kernel_rfl
theorem zpF: ∃i,Tryz.prog.info? 39=some i:=Option.isSome_iff_exists.1 (by kernel_rfl)
theorem RN.a_one(x:RN): ∀v∈x.a.toList,v.oneCell'=true:=by
 intro v hv
 simp only[RN.a,List.mem_cons,List.not_mem_nil,or_false]at hv
 rcases hv with rfl|rfl|rfl|rfl|rfl|rfl|rfl|rfl|rfl|rfl<;>rfl
theorem zdH(x:RN)(w:World)(c:Array Value)(hc:c.size=10):(Instr.storeAt 39 (.pointer (some ⟨w.heap.size,0,none⟩)) (.agg x.a)).run Tryz.prog (w.alloc (.cells c 39))= .ok () (w.alloc (.cells x.a 39)):=by
 obtain⟨i,hi⟩:=zpF
 exact z8C hi (by rw[z9O];rfl) hc x.a_one
theorem zf6{x:RN}{w:World}{b:Nat}(h:w.heap[b]?=some (.cells x.a 39 (0,0))):(Instr.loadAt 39 (.pointer (some ⟨b,0,none⟩))).run Tryz.prog w= .ok (.agg x.a) w:=
 zaw Tryz.underlying39 h (by rw[z9O];rfl) (by rw[z9O];rfl)
theorem zgC{v:Array Value}(hv:v.size=30){w:World}{b:Nat}(h:w.heap[b]?=some (.cells v 51 (0,0))):(Instr.loadAt 51 (.pointer (some ⟨b,0,none⟩))).run Tryz.prog w= .ok (.agg v) w:=
 zaw Tryz.underlying51 h (by rw[zed,List.drop_zero,List.take_of_length_le (by simp;omega)]) (by rw[zed,hv])
theorem zlB (F : Fence) (n : Nat) (h1 : F.fn 148) (h2 : F.fn 212) (h3 : F.fn 247) (h4 : F.fn 154) (hro : F.round = none) (hn : 6 ≤ n)
    (hV: ∀(m:Nat) (x:RNS) (W:World),CallsIn F m Tryz.prog 154 #[.agg x.1.a] W fun e W'=>e= .returned (.bool x.1.ok)∧Below W.heap.size W W')
    (x0:Bool) (x1:ByteArray) (x2:Bool) (x3:ByteArray) (x4:Bool) (x5:ByteArray) (x6:Bool) (x7:ByteArray) (x8:Bool) (x9:ByteArray) (y0:Bool) (y1:ByteArray) (y2:Bool) (y3:ByteArray) (y4:Bool) (y5:ByteArray) (y6:Bool) (y7:ByteArray) (y8:Bool) (y9:ByteArray) (z0:Bool) (z1:ByteArray) (z2:Bool) (z3:ByteArray) (z4:Bool) (z5:ByteArray) (z6:Bool) (z7:ByteArray) (z8:Bool) (z9:ByteArray) (hx:RN.raw 1000000 ⟨x0,x1,x2,x3,x4,x5,x6,x7,x8,x9⟩=true) (hy:RN.raw 1000000 ⟨y0,y1,y2,y3,y4,y5,y6,y7,y8,y9⟩=true) (hz:RN.raw 1000000 ⟨z0,z1,z2,z3,z4,z5,z6,z7,z8,z9⟩=true) (v:Array Value) (hv:v.toList=[.bool x0,.string x1,.bool x2,.string x3,.bool x4,.string x5,.bool x6,.string x7,.bool x8,.string x9,.bool y0,.string y1,.bool y2,.string y3,.bool y4,.string y5,.bool y6,.string y7,.bool y8,.string y9,.bool z0,.string z1,.bool z2,.string z3,.bool z4,.string z5,.bool z6,.string z7,.bool z8,.string z9]) (w:World):
    CallsIn F n Tryz.prog 148 #[.agg v] w fun e W'=>e= .returned (.bool (ok3 ⟨x0,x1,x2,x3,x4,x5,x6,x7,x8,x9⟩ ⟨y0,y1,y2,y3,y4,y5,y6,y7,y8,y9⟩ ⟨z0,z1,z2,z3,z4,z5,z6,z7,z8,z9⟩))∧Below w.heap.size w W':=by
 have h1n:1≤n:=by omega
 refine callsIn_of_wp_marks Tryz.func148 rfl h1 ?_ hro
 simp only[Tryz.ntmps148,List.size_toArray,List.length_cons,List.length_nil,Nat.reduceAdd,Nat.reduceSub,Array.replicate_succ,Array.replicate_zero,List.push_toArray,List.append_toArray,List.nil_append,List.cons_append]
 have hvs:v.size=30:=by rw[←Array.length_toList,hv];rfl
 have hb:((w.alloc (.cells v 51)).alloc (.cells #[.bool false] 4)).heap[w.heap.size]?=some (.cells v 51 (0,0)):=
  (Below.heap_alloc _ _ _ (by simp)).trans (World.alloc_heap_new w _)
 have hl:=zgC hvs hb
 gi_wp2_with (first|(gi_at_call 212;refine(zqw F (n-1) h2 hro _ _).mono ?_;rintro e w' ⟨rfl,rfl⟩)|refine z3i rfl rfl rfl hl ?_)
 clear hb hl
 have bR:=(Boxed.new (w.alloc (.cells v 51)) 4 (.bool false)).alloc (.cells v 51)
 rw[World.size_alloc]at bR
 have hB0:Below w.heap.size w (((w.alloc (.cells v 51)).alloc (.cells #[.bool false] 4)).alloc (.cells v 51)):=(((Below.refl _ w).alloc (Nat.le_refl _) _).alloc (by simp) _).alloc (by simp;omega) _
 have hsz:(((w.alloc (.cells v 51)).alloc (.cells #[.bool false] 4)).alloc (.cells v 51)).heap.size=w.heap.size+3:=by simp
 have bV:(((w.alloc (.cells v 51)).alloc (.cells #[.bool false] 4)).alloc (.cells v 51)).heap[w.heap.size+1+1]?=some (.cells v 51 (0,0)):=by
  have:=World.alloc_heap_new ((w.alloc (.cells v 51)).alloc (.cells #[.bool false] 4)) (.cells v 51)
  rwa[World.size_alloc,World.size_alloc]at this
 obtain⟨W0,hW0⟩: ∃W0,(((w.alloc (.cells v 51)).alloc (.cells #[.bool false] 4)).alloc (.cells v 51))=W0:=⟨_,rfl⟩
 rw[hW0]at bR bV hB0 hsz ⊢
 clear hW0
 have bV:W0.heap[w.heap.size+1+1]?=some (.cells #[.bool x0,.string x1,.bool x2,.string x3,.bool x4,.string x5,.bool x6,.string x7,.bool x8,.string x9,.bool y0,.string y1,.bool y2,.string y3,.bool y4,.string y5,.bool y6,.string y7,.bool y8,.string y9,.bool z0,.string z1,.bool z2,.string z3,.bool z4,.string z5,.bool z6,.string z7,.bool z8,.string z9] 51 (0,0)):=by rw[bV,←hv]
 refine wpIn_rangeFunc_ownH hro h1n (gf:=247) (lb:= #[.pointer (some ⟨w.heap.size+1+1,0,none⟩)]) rfl h3 (enters_of Tryz.func247 (by kernel_rfl) rfl)
  (zcQ enR (0,⟨_,hx⟩) (1,⟨_,hy⟩) (2,⟨_,hz⟩) F (n-1) h3 hro (by omega) (w.heap.size+1+1) w.heap.size x0 x1 x2 x3 x4 x5 x6 x7 x8 x9 y0 y1 y2 y3 y4 y5 y6 y7 y8 y9 z0 z1 z2 z3 z4 z5 z6 z7 z8 z9 W0 (by omega) bV rfl rfl rfl) belowK_t (belowK_b (by omega)) (Below.refl _ _) (fun _=>rfl)
  (fun pre W=>((∀p∈pre,p.2.1.ok=true)∧Boxed W (w.heap.size+1) 4 (.bool false))∧Below w.heap.size w W)
  (fun c pre W=>((c= .ret∧ ∃p∈pre,p.2.1.ok=false)∧Boxed W (w.heap.size+1) 4 (.bool false))∧Below w.heap.size w W)
  (OwnFrom.and (OwnFrom.and (ownFrom_pure _ _) (Own.from (boxed_own _ _ _) _)) (ownFrom_below (Nat.le_refl _) (by omega)))
  (fun c=>OwnFrom.and (OwnFrom.and (ownFrom_pure _ _) (Own.from (boxed_own _ _ _) _)) (ownFrom_below (Nat.le_refl _) (by omega)))
  ⟨⟨by simp,bR⟩,hB0⟩
  (fun x a' W=> ∃Bx,w.heap.size+1<Bx∧W.heap[Bx]?=some (.cells x.2.1.a 39 (0,0))∧a'={tmps:= #[.agg v,.pointer (some ⟨w.heap.size,0,none⟩),.pointer (some ⟨w.heap.size+1,0,none⟩),undef,.pointer (some ⟨Bx,0,none⟩),.agg v,.func (.func 247) #[] #[.pointer (some ⟨w.heap.size+1+1,0,none⟩)],.int .i64 x.1,.agg x.2.1.a,undef,undef,undef],defers:=[]})
  (fun x a' _ X Y row hs hg hr=>by obtain⟨Bx,e1,e2,e3⟩:=hs;exact⟨Bx,e1,zd9 _ Bx (fun(_:Unit)=>x.2.1.a) 39 () X Y row e2 hg hr,e3⟩)
  ?assign ?body ?done ?stop
 case assign=>
  rintro l pre x W K ⟨⟨hp,bR1⟩,hB1⟩ hK
  dsimp only[enR]
  have hst:=zdH x.2.1 W #[.bool false,.string ⟨#[]⟩,.bool false,.string ⟨#[]⟩,.bool false,.string ⟨#[]⟩,.bool false,.string ⟨#[]⟩,.bool false,.string ⟨#[]⟩] rfl
  gi_wp2_with (refine z68 rfl rfl rfl rfl hst ?_)
  exact hK _ _ ((KeepsOthers.alloc _ _).from _) ((Below.refl _ W).alloc hB1.size _) ⟨⟨hp,bR1.alloc _⟩,hB1.alloc hB1.size _⟩ ⟨W.heap.size,bR1.lt,World.alloc_heap_new W _,rfl⟩
 case body=>
  rintro l pre x a' W hl ⟨r,hr⟩ ⟨⟨hp,bR1⟩,hB1⟩ ⟨Bx,hBx,bX,rfl⟩ hlt
  have hld:=zf6 bX
  have h1':1≤n-1-1:=by omega
  have cR: ∀W2,Below W.heap.size W W2→Boxed W2 (w.heap.size+1) 4 (.bool false):=fun W2 h=>(h.block _ bR1.lt).trans bR1
  gi_wp2_with (first|(gi_at_call 154;refine(CallsIn.inRound l (hV _ x.2 _)).mono ?_;rintro e W2 ⟨rfl,hBW⟩;have bR2:=cR _ hBW;have c2:=bR2.cell;have f2:=bR2.frozen)|refine z3i rfl rfl rfl hld ?_)
  · rename_i hk
    have hk':x.2.1.ok=false:=by simpa using hk
    exact⟨(z62 hBW _).trans ((KeepsOthers.setCell _ _ _).from _),⟨⟨rfl,x,List.mem_append.2 (.inr (by simp)),hk'⟩,bR2.set _⟩,(hB1.trans (hBW.mono hB1.size)).setCell (p:=⟨w.heap.size+1,0,none⟩) (by simp) _⟩
  · rename_i hk
    have hk':x.2.1.ok=true:=by simpa using hk
    exact⟨z62 hBW _,hBW.mono hB1.size,⟨fun p hp'=>(List.mem_append.1 hp').elim (hp p) (fun e=>by simp at e;subst e;exact hk'),bR2⟩,hB1.trans (hBW.mono hB1.size)⟩
 case done=>
  rintro D zs W hD rfl ⟨⟨hp,bR1⟩,hB1⟩ hK
  have cR:=bR1.cell
  have fR:=bR1.frozen
  gi_wp2
  have hK':=(KeepsOthers.setCell W ⟨w.heap.size+1,0,none⟩ (.bool true)).same D _ hK rfl
  refine⟨by simp,.inl ⟨_,_,rfl,run_takeDeferred hK',?_⟩⟩
  have hc5:=cell_kept (bR1.set (.bool true)).cell (grownBy_putObj' _ D (.deferred none)) (fun r e=>by cases e;exact⟨_,hK',rfl⟩)
  refine⟨.bool true,?_,?_,(hB1.setCell (p:=⟨w.heap.size+1,0,none⟩) (by simp) _).trans (belowK_b (w:=w) (Nat.le_refl _) _ D _ _ (by omega) hK' rfl rfl)⟩
  · simp[results,Tryz.f148,go_sem,hc5]
  · have q0:=hp _ (List.mem_cons_self ..)
    have q1:=hp _ (List.mem_cons_of_mem _ (List.mem_cons_self ..))
    have q2:=hp _ (List.mem_cons_of_mem _ (List.mem_cons_of_mem _ (List.mem_cons_self ..)))
    unfold ok3
    rw[q0,q1,q2];rfl
 case stop=>
  rintro D c pre W hD hpre ⟨⟨⟨rfl,x,hx,hy⟩,bR1⟩,hB1⟩ hK
  gi_wp2
  refine⟨by simp,.inl ⟨_,_,rfl,run_takeDeferred hK,?_⟩⟩
  have hc5:=cell_kept bR1.cell (grownBy_putObj' _ D (.deferred none)) (fun r e=>by cases e;exact⟨_,hK,rfl⟩)
  refine⟨.bool false,?_,?_,hB1.trans (belowK_b (w:=w) (Nat.le_refl _) W D _ _ (by omega) hK rfl rfl)⟩
  · simp[results,Tryz.f148,go_sem,hc5]
  · have hm:=hpre.subset hx
    simp only[List.mem_cons,List.not_mem_nil,or_false]at hm
    unfold ok3
    rcases hm with rfl|rfl|rfl<;>rw[hy]<;>simp
theorem zoi(x y z:RN)(h:zqV 1000000 x y z=true):PCall P 148 [z39 x y z] (.lit (.bool (ok3 x y z))):=by
 obtain⟨hx,hy,hz⟩:=z0s.1 h
 intro Im w vs hIm hvs
 obtain⟨y0,ys,e1,⟨arr,rfl,hr⟩,e2⟩:=hvs
 have e3:vs= #[.agg arr]:=by
  apply Array.ext'
  rw[e1,e2]
 subst e3
 have ha:arr.toList=(x.a.toList++(y.a.toList++z.a.toList)):=z55 hr
 obtain⟨x0,x1,x2,x3,x4,x5,x6,x7,x8,x9⟩:=x
 obtain⟨y0,y1,y2,y3,y4,y5,y6,y7,y8,y9⟩:=y
 obtain⟨z0,z1,z2,z3,z4,z5,z6,z7,z8,z9⟩:=z
 refine(callsIn_wide.1 (zlB Fence.wide 6 trivial trivial trivial trivial rfl (Nat.le_refl _) (fun m x W=>callsIn_wide.2 (PCall.num (zab x.1 x.2) W)) _ _ _ _ _ _ _ _ _ _ _ _ _ _ _ _ _ _ _ _ _ _ _ _ _ _ _ _ _ _ hx hy hz arr ha w)).mono ?_
 rintro e w' ⟨rfl,hB⟩
 exact⟨_,_,Im,rfl,rfl,rfl,Im.le_refl,(fun b cs hb=>by obtain⟨c,T,fz,k1,k2⟩:=hIm b cs hb;exact⟨c,T,fz,(hB.block b (Array.getElem?_eq_some_iff.1 k1).1).trans k1,k2⟩),hB,fun b hb=> .inl hb⟩
end Go.Fw
open Go
namespace Go.Fw
set_option maxRecDepth 100000
theorem zfC(v:VN)(h:v.raw 1000000=true):PCall P 148 [v.c] (.lit (.bool v.ok)):=zoi v.x v.y v.z h
theorem zbk(x y z:K)(hx:x.sz≤1000000)(hy:y.sz≤1000000)(hz:z.sz≤1000000):PCall P 148 [z4H x y z] (.lit (.bool true)):=by
 have h:=zfC (ofV (some ⟨x,y,z⟩)) (z82 (by show max x.sz (max y.sz z.sz)≤1000000;omega))
 rw[z4S (zeE (some ⟨x,y,z⟩))]at h
 exact h
end Go.Fw
open Go IntKind
namespace Go.Fw
set_option maxRecDepth 100000
theorem zpy(f:Nat)(v w:VN)(g:v.ok=false)(s5_0:VN.raw 1000000 v=true):PCall P 205 [.agg [CV.lit (Value.func (Fn.func f) #[] #[])],v.c,w.c] z0I:=
 j3 (.r 5 ((zfC (v) s5_0).eqB g) (.c (lq 30 30) .nil)) (by kernel_rfl)
theorem zoo(f:Nat)(v w:VN)(g:v.ok=true)(g2:w.ok=false)(s5_0:VN.raw 1000000 v=true)(s9_0:VN.raw 1000000 w=true):PCall P 205 [.agg [CV.lit (Value.func (Fn.func f) #[] #[])],v.c,w.c] z0I:=
 j3 (.r 5 ((zfC (v) s5_0).eqB g) (.r 9 ((zfC (w) s9_0).eqB g2) (.c (lq 30 30) .nil))) (by kernel_rfl)
theorem zmV(x y z x' y' z':K)(s5_0:x.sz≤1000000)(s5_1:y.sz≤1000000)(s5_2:z.sz≤1000000)(s9_0:x'.sz≤1000000)(s9_1:y'.sz≤1000000)(s9_2:z'.sz≤1000000)(s19_0:x.sz+x'.sz+2<1073741824)(s26_0:y.sz+y'.sz+2<1073741824)(s33_0:z.sz+z'.sz+2<1073741824):PCall P 205 [.agg [CV.lit (Value.func (Fn.func 137) #[] #[])],z4H x y z,z4H x' y' z'] (z4H (x+x') (y+y') (z+z')):=
 j3 (.r 5 (zbk (x) (y) (z) s5_0 s5_1 s5_2) (.r 9 (zbk (x') (y') (z') s9_0 s9_1 s9_2) (.r 19 (z73 (x) (x') s19_0) (.r 26 (z73 (y) (y') s26_0) (.r 33 (z73 (z) (z') s33_0) (.c (lq 30 30) .nil)))))) (by kernel_rfl)
theorem zpQ(x y z x' y' z':K)(s5_0:x.sz≤1000000)(s5_1:y.sz≤1000000)(s5_2:z.sz≤1000000)(s9_0:x'.sz≤1000000)(s9_1:y'.sz≤1000000)(s9_2:z'.sz≤1000000)(s19_0:x.sz+x'.sz+2<1073741824)(s26_0:y.sz+y'.sz+2<1073741824)(s33_0:z.sz+z'.sz+2<1073741824):PCall P 205 [.agg [CV.lit (Value.func (Fn.func 136) #[] #[])],z4H x y z,z4H x' y' z'] (z4H (x*x') (y*y') (z*z')):=
 j3 (.r 5 (zbk (x) (y) (z) s5_0 s5_1 s5_2) (.r 9 (zbk (x') (y') (z') s9_0 s9_1 s9_2) (.r 19 (z6R (x) (x') s19_0) (.r 26 (z6R (y) (y') s26_0) (.r 33 (z6R (z) (z') s33_0) (.c (lq 30 30) .nil)))))) (by kernel_rfl)
theorem zny(v w:VN)(g:v.ok=false)(s4_0:VN.raw 1000000 v=true):PCall P 170 [v.c,w.c] z0I:=
 j3 (.r 4 ((zfC (v) s4_0).eqB g) (.c (lq 30 30) .nil)) (by kernel_rfl)
theorem zqn(v w:VN)(g:v.ok=true)(g2:w.ok=false)(s4_0:VN.raw 1000000 v=true)(s8_0:VN.raw 1000000 w=true):PCall P 170 [v.c,w.c] z0I:=
 j3 (.r 4 ((zfC (v) s4_0).eqB g) (.r 8 ((zfC (w) s8_0).eqB g2) (.c (lq 30 30) .nil))) (by kernel_rfl)
theorem zoV(a b c d:K)(s7_0:a.sz+d.sz+2<1073741824)(s10_0:b.sz+c.sz+2<1073741824)(s11_0:(a*d).sz+(b*c).sz+2<1073741824):PCall P 222 [Q1 a,Q1 b,Q1 c,Q1 d] (Q1 (a*d-b*c)):=
 j3 (.r 7 (z6R (a) (d) s7_0) (.r 10 (z6R (b) (c) s10_0) (.r 11 (zop (a*d) (b*c) s11_0) (.c (lq 10 10) .nil)))) (by kernel_rfl)
theorem zpV(a b c:Int)(s2_0:(-9223372036854775808:Int)≤a∧a≤9223372036854775807)(s4_0:(-9223372036854775808:Int)≤b∧b≤9223372036854775807)(s6_0:(-9223372036854775808:Int)≤c∧c≤9223372036854775807):PCall P 139 [j5 a,j5 b,j5 c] (z4H (K.ofInt a) (K.ofInt b) (K.ofInt c)):=
 j3 (.r 2 (z0B (a) s2_0) (.r 4 (z0B (b) s4_0) (.r 6 (z0B (c) s6_0) (.c (lq 30 30) .nil)))) (by kernel_rfl)
end Go.Fw
open Go
namespace Go.Fw
set_option maxRecDepth 100000
abbrev opC(f:Nat):CV:= .agg [.lit (.func (.func f) #[] #[])]
def V3.pmul(a b:V3):V3:=⟨a.x*b.x,a.y*b.y,a.z*b.z⟩
noncomputable def z5g(v w:VN):VN:=ofV (o2 V3.pmul (toV v) (toV w))
noncomputable def oV(a b c:Int):VN:=ofV (toV (ofV (some ⟨K.ofInt a,K.ofInt b,K.ofInt c⟩)))
theorem zeb(a b c:Int):oV a b c=ofV (some ⟨K.ofInt a,K.ofInt b,K.ofInt c⟩):=by unfold oV;rw[zeE]
theorem znp (f : Nat) (g : V3 → V3 → V3) (v w : VN) (hv : v.raw 1000000 = true) (hw : w.raw 1000000 = true)
    (h: ∀a b:V3,a.x.sz≤1000000→a.y.sz≤1000000→a.z.sz≤1000000→b.x.sz≤1000000→b.y.sz≤1000000→b.z.sz≤1000000→PCall P 205 [opC f,a.c,b.c] (g a b).c):
    PCall P 205 [opC f,v.c,w.c] (ofV (o2 g (toV v) (toV w))).c:=by
 cases ev:toV v with
 |none=>exact zpy f v w (z0q ev) hv
 |some a=>
  cases ew:toV w with
  |none=>exact zoo f v w (z4S ev) (z0q ew) hv hw
  |some b=>
   obtain⟨x,y,z⟩:=z0u ev hv
   obtain⟨x',y',z'⟩:=z0u ew hw
   rw[z4N ev,z4N ew]
   exact h a b x y z x' y' z'
theorem zr2(v w:VN)(hv:v.raw 1000000=true)(hw:w.raw 1000000=true):PCall P 205 [opC 137,v.c,w.c] (z05 v w).c:=
 znp 137 V3.add v w hv hw fun a b x y z x' y' z'=>zmV _ _ _ _ _ _ x y z x' y' z' (by omega) (by omega) (by omega)
theorem zp2(v w:VN)(hv:v.raw 1000000=true)(hw:w.raw 1000000=true):PCall P 205 [opC 136,v.c,w.c] (z5g v w).c:=
 znp 136 V3.pmul v w hv hw fun a b x y z x' y' z'=>zpQ _ _ _ _ _ _ x y z x' y' z' (by omega) (by omega) (by omega)
theorem zmB(v:VN)(k:RN)(hv:v.raw 1000000=true)(hk:k.raw 1000000=true):PCall P 205 [opC 136,v.c,z39 k k k] (z5g v ⟨k,k,k⟩).c:=
 zp2 v ⟨k,k,k⟩ hv (z0s.2 ⟨hk,hk,hk⟩)
theorem zr3 (a b c : Int) (ha : -9223372036854775808 ≤ a ∧ a ≤ 9223372036854775807) (hb : -9223372036854775808 ≤ b ∧ b ≤ 9223372036854775807) (hc : -9223372036854775808 ≤ c ∧ c ≤ 9223372036854775807) :
    PCall P 139 [j5 a,j5 b,j5 c] (oV a b c).c:=by rw[zeb];exact zpV a b c ha hb hc
theorem zrs(a b c d:K)(ha:a.sz≤100000)(hb:b.sz≤100000)(hc:c.sz≤100000)(hd:d.sz≤100000):PCall P 222 [Q1 a,Q1 b,Q1 c,Q1 d] (Q1 (a*d-b*c)):=by
 have m1:=K.sz_mul a d
 have m2:=K.sz_mul b c
 exact zoV a b c d (by omega) (by omega) (by omega)
end Go.Fw
open Go IntKind
namespace Go.Fw
set_option maxRecDepth 100000
theorem zlu(v w:VN)(s6_0:VN.raw 1000000 v=true)(s6_1:VN.raw 1000000 w=true):PCall P 141 [v.c,w.c] (z39 (z05 v w).x (z05 v w).y (z05 v w).z):=
 j3 (.r 6 (zr2 (v) (w) s6_0 s6_1) (.c (lq 30 30) .nil)) (by kernel_rfl)
theorem zkx(v w:VN)(s6_0:VN.raw 1000000 v=true)(s6_1:VN.raw 1000000 w=true)(s13_0:RN.raw 1000000 (z5g v w).x=true)(s13_1:RN.raw 1000000 (z5g v w).y=true)(s16_0:RN.raw 1000000 (z4U (z5g v w).x (z5g v w).y)=true)(s16_1:RN.raw 1000000 (z5g v w).z=true):PCall P 149 [v.c,w.c] (RN.c (z4U (z4U (z5g v w).x (z5g v w).y) (z5g v w).z)):=
 j3 (.r 6 (zp2 (v) (w) s6_0 s6_1) (.c (lq 30 30) (.r 13 (zdI ((z5g v w).x) ((z5g v w).y) s13_0 s13_1) (.r 16 (zdI (z4U (z5g v w).x (z5g v w).y) ((z5g v w).z) s16_0 s16_1) (.c (lq 10 10) .nil))))) (by kernel_rfl)
theorem znT(x y z x' y' z':K)(s4_0:x.sz≤1000000)(s4_1:y.sz≤1000000)(s4_2:z.sz≤1000000)(s8_0:x'.sz≤1000000)(s8_1:y'.sz≤1000000)(s8_2:z'.sz≤1000000)(s20_0:y.sz≤100000)(s20_1:z.sz≤100000)(s20_2:y'.sz≤100000)(s20_3:z'.sz≤100000)(s29_0:z.sz≤100000)(s29_1:x.sz≤100000)(s29_2:z'.sz≤100000)(s29_3:x'.sz≤100000)(s38_0:x.sz≤100000)(s38_1:y.sz≤100000)(s38_2:x'.sz≤100000)(s38_3:y'.sz≤100000):PCall P 170 [z4H x y z,z4H x' y' z'] (z4H (y*z'-z*y') (z*x'-x*z') (x*y'-y*x')):=
 j3 (.r 4 (zbk (x) (y) (z) s4_0 s4_1 s4_2) (.r 8 (zbk (x') (y') (z') s8_0 s8_1 s8_2) (.r 20 (zrs (y) (z) (y') (z') s20_0 s20_1 s20_2 s20_3) (.r 29 (zrs (z) (x) (z') (x') s29_0 s29_1 s29_2 s29_3) (.r 38 (zrs (x) (y) (x') (y') s38_0 s38_1 s38_2 s38_3) (.c (lq 30 30) .nil)))))) (by kernel_rfl)
end Go.Fw
open Go IntKind
namespace Go.Fw
set_option maxRecDepth 100000
theorem zjV(v:VN)(k:RN)(s9_0:VN.raw 1000000 v=true)(s9_1:RN.raw 1000000 k=true):PCall P 142 [v.c,k.c] (z39 (z5g v {x:=k,y:=k,z:=k}).x (z5g v {x:=k,y:=k,z:=k}).y (z5g v {x:=k,y:=k,z:=k}).z):=
 j3 (.r 9 (zmB (v) (k) s9_0 s9_1) (.c (lq 30 30) .nil)) (by kernel_rfl)
end Go.Fw
open Go
namespace Go.Fw
set_option maxRecDepth 100000
theorem zaL(v w:VN)(hv:v.raw 1000000=true)(hw:w.raw 1000000=true):PCall P 141 [v.c,w.c] (z05 v w).c:=zlu v w hv hw
theorem zbO(v:VN)(k:RN):z5g v ⟨k,k,k⟩=J2 v k:=by
 unfold z5g J2
 cases ev:toV v with
 |none=>rfl
 |some a=>
  have e:toV ⟨k,k,k⟩=(toO k).map fun c=>⟨c,c,c⟩:=by
   unfold toV
   cases ek:toO k<;>rfl
  rw[e]
  cases ek:toO k<;>rfl
theorem z5q(v:VN)(k:RN)(hv:v.raw 1000000=true)(hk:k.raw 1000000=true):PCall P 142 [v.c,k.c] (J2 v k).c:=by
 rw[←zbO]
 exact zjV v k hv hk
theorem zbD(v w:VN):z4U (z4U (z5g v w).x (z5g v w).y) (z5g v w).z=z38 v w:=by
 unfold z38 z5g
 cases ev:toV v with
 |none=>show z4U (z4U .zero .zero) .zero= .zero;unfold z4U;rw[z3H];rfl
 |some a=>
  cases ew:toV w with
  |none=>show z4U (z4U .zero .zero) .zero= .zero;unfold z4U;rw[z3H];rfl
  |some b=>
   show z4U (z4U (.ofK (a.x*b.x)) (.ofK (a.y*b.y))) (.ofK (a.z*b.z))= .ofK (a.x*b.x+a.y*b.y+a.z*b.z)
   unfold z4U
   simp only[z7i,z7I]
   rfl
theorem zgq(v w:VN)(hv:v.raw 1000=true)(hw:w.raw 1000=true):PCall P 170 [v.c,w.c] (z1A v w).c:=by
 have hv':=VN.raw_mono hv (show 1000≤1000000 by decide)
 have hw':=VN.raw_mono hw (show 1000≤1000000 by decide)
 unfold z1A
 cases ev:toV v with
 |none=>exact zny v w (z0q ev) hv'
 |some a=>
  cases ew:toV w with
  |none=>exact zqn v w (z4S ev) (z0q ew) hv' hw'
  |some b=>
   obtain⟨x,y,z⟩:=z0u ev hv
   obtain⟨x',y',z'⟩:=z0u ew hw
   rw[z4N ev,z4N ew]
   refine znT _ _ _ _ _ _ ?_ ?_ ?_ ?_ ?_ ?_ ?_ ?_ ?_ ?_ ?_ ?_ ?_ ?_ ?_ ?_ ?_ ?_<;>omega
noncomputable def zV(v:VN):Bool:=rnB v.x (oV 0 0 0).x&&(rnB v.y (oV 0 0 0).y&&(rnB v.z (oV 0 0 0).z&&true))
end Go.Fw
open Go
namespace Go.Fw
set_option maxRecDepth 100000
def plR(x y z d:RN):CV:= .agg (x.l++(y.l++(z.l++d.l)))
structure PN where
 n:VN
 d:RN
def PN.c(p:PN):CV:=plR p.n.x p.n.y p.n.z p.d
def PN.zero:PN:=⟨.zero,.zero⟩
def PN.raw(k:Nat)(p:PN):Bool:=p.n.raw k&&p.d.raw k
theorem PN.raw_iff{k:Nat}{p:PN}:p.raw k=true↔p.n.raw k=true∧p.d.raw k=true:=by unfold PN.raw;simp
theorem V4Of_r (a b c : Int) (ha : -9223372036854775808 ≤ a ∧ a ≤ 9223372036854775807) (hb : -9223372036854775808 ≤ b ∧ b ≤ 9223372036854775807) (hc : -9223372036854775808 ≤ c ∧ c ≤ 9223372036854775807) :
    PCall P 63 [j5 a,j5 b,j5 c] (oV a b c).c:=by rw[zeb];exact zi2 a b c ha hb hc
end Go.Fw
open Go
namespace Go.Fw
set_option maxRecDepth 100000
theorem sgn_zero{x:K}:K.sgn x=0↔x=0:=Sg.zero x
noncomputable def z17(x y:RN):RN×Int:=match toO x,toO y with
 |some a,some b=>if K.sgn b=0 then(.zero,10)else(.ofK (K.div a b),0)
 |_,_=>(.zero,1)
theorem ze0(x y:RN)(hx:x.raw 1000000=true)(hy:y.raw 1000000=true):PCall P 147 [x.c,y.c] (.tup [(z17 x y).1.c,j5 (z17 x y).2]):=by
 unfold z17
 cases ex:toO x with
 |none=>exact ziN x y (z0f ex) hx
 |some k=>
  cases ey:toO y with
  |none=>exact zj4 x y (z19 ex).1 (z0f ey) hx hy
  |some l=>
   have a:=z1a ex hx
   have b:=z1a ey hy
   rw[zbB (z19 ex).2,zbB (z19 ey).2]
   dsimp only
   by_cases h0:K.sgn l=0
   · rw[if_pos h0,sgn_zero.1 h0]
     exact zpR k (by simp only[Smk];omega)
   · rw[if_neg h0]
     exact zh9 k l (fun h=>h0 (sgn_zero.2 h)) (by omega)
noncomputable def z0P(x:RN):RN:=if z50 x<0 then z4f x else z4f (z4f x)
end Go.Fw
open Go IntKind
namespace Go.Fw
set_option maxRecDepth 100000
theorem zol(x:RN)(h1:decide (z50 x<0)=true)(s3_0 s7_0:RN.raw 1000000 x=true):PCall P 157 [x.c] (RN.c (z4f x)):=
 j3 (.r 3 (z6y (x) s3_0) (.b 5 h1 (.r 7 (zak (x) s7_0) (.c (lq 10 10) .nil)))) (by kernel_rfl)
theorem zpX(x:RN)(h1:decide (z50 x<0)=false)(s3_0 s7_0:RN.raw 1000000 x=true)(s8_0:RN.raw 1000000 (z4f x)=true):PCall P 157 [x.c] (RN.c (z4f (z4f x))):=
 j3 (.r 3 (z6y (x) s3_0) (.b 5 h1 (.r 7 (zak (x) s7_0) (.r 8 (zak (z4f x) s8_0) (.c (lq 10 10) .nil))))) (by kernel_rfl)
end Go.Fw
open Go
namespace Go.Fw
set_option maxRecDepth 100000
theorem zaG(x:RN)(hx:x.raw 1000000=true):PCall P 157 [x.c] (z0P x).c:=by
 unfold z0P
 by_cases h:z50 x<0
 · rw[if_pos h];exact zol x (decide_eq_true h) hx hx
 · rw[if_neg h];exact zpX x (decide_eq_false h) hx hx (z4B hx)
noncomputable def PN.ok(p:PN):Bool:=p.n.ok&&(!zV p.n&&p.d.ok)
noncomputable def oN(n:Int):RN:=ofO (toO (ofO (some (K.ofInt n))))
theorem z9T(n:Int):oN n= .ofK (K.ofInt n):=by unfold oN;rw[z7I];rfl
theorem zgn(n:Int)(h: -9223372036854775808≤n∧n≤9223372036854775807):PCall P 144 [j5 n] (oN n).c:=by rw[z9T];exact z0B n h
end Go.Fw
open Go IntKind
namespace Go.Fw
set_option maxRecDepth 100000
theorem zoJ(x y:RN)(s5_0:RN.raw 1000000 y=true)(s6_0:RN.raw 1000000 x=true)(s6_1:RN.raw 1000000 (z4f y)=true):PCall P 135 [x.c,y.c] (RN.c (z4U x (z4f y))):=
 j3 (.r 5 (zak (y) s5_0) (.r 6 (zdI (x) (z4f y) s6_0 s6_1) (.c (lq 10 10) .nil))) (by kernel_rfl)
end Go.Fw
open Go
namespace Go.Fw
set_option maxRecDepth 100000
noncomputable def kN(x:K):RN:=ofO (toO (ofO (some x)))
theorem z1Q(x:K):kN x= .ofK x:=by unfold kN;rw[z7I];rfl
theorem zr6(i:Int):PCall P 33 [j5 i] (kN (z5v i)).c:=by rw[z1Q];exact z92 i
theorem zr9(i:Int):PCall P 35 [j5 i] (kN (z9m i)).c:=by rw[z1Q];exact zch i
theorem z1Y(x:K):toO (kN x)=some x:=by rw[z1Q];exact z7i x
theorem zhl(x y:K):z3j (kN x) (kN y)=kN (x-y):=by unfold z3j;rw[z1Y,z1Y,z1Q];rfl
theorem zeB(x:K):z4f (kN x)=kN (-x):=by unfold z4f;rw[z1Y,z1Q];rfl
theorem zaT(x:K):z50 (kN x)=K.sgn x:=by unfold z50;rw[z1Y]
theorem zhD(n:Int):oN n=kN (K.ofInt n):=by rw[z9T,z1Q]
theorem z6L(x y:K)(h:K.sgn y≠0):(z17 (kN x) (kN y)).1=kN (K.div x y):=by
 unfold z17
 rw[z1Y,z1Y]
 dsimp only
 rw[if_neg h,z1Q]
end Go.Fw
open Go
namespace Go.Fw
set_option maxRecDepth 100000
theorem zd5(x y:RN)(hx:x.raw 1000000=true)(hy:y.raw 1000000=true):PCall P 135 [x.c,y.c] (z3j x y).c:=by
 have h:=zoJ x y hy hx (z4B hy)
 have e:z4U x (z4f y)=z3j x y:=by unfold z4U z3j;rw[zaH,zo2]
 rw[e]at h
 exact h
end Go.Fw
open Go
namespace Go.Fw
set_option maxRecDepth 100000
theorem z40{x:K}{n:Nat}(h:x.sz≤n):(kN x).raw n=true:=by rw[z1Q];exact RN.ofK_raw x h
theorem z6i{z:Int}{n:Nat}(h:(K.ofInt z).sz≤n):(oN z).raw n=true:=by rw[zhD];exact z40 h
end Go.Fw
open Go
namespace Go.Fw
set_option maxRecDepth 100000
theorem zrK(a b c:Int):(oV a b c).x=oN a:=by rw[zeb,z9T];rfl
theorem zrH(a b c:Int):(oV a b c).y=oN b:=by rw[zeb,z9T];rfl
theorem zrL(a b c:Int):(oV a b c).z=oN c:=by rw[zeb,z9T];rfl
theorem zmm(x:K):(kN x).ok=true:=by rw[z1Q];exact RN.ofK_ok x
theorem PN.raw_mono{p:PN}{n m:Nat}(h:p.raw n=true)(hm:n≤m):p.raw m=true:=by
 obtain⟨a,b⟩:=PN.raw_iff.1 h
 exact PN.raw_iff.2 ⟨VN.raw_mono a hm,RN.raw_mono b hm⟩
end Go.Fw
open Go Go.RowKit
namespace Go.Fw
set_option maxRecDepth 100000
def PN.a(p:PN):Array Value:=p.n.x.a++(p.n.y.a++(p.n.z.a++p.d.a))
end Go.Fw
open Go Go.RowKit
namespace Go.Fw
set_option maxRecDepth 100000
theorem z2F{x:RN}{n:Nat}(hx:x.raw n=true):(z0P x).raw n=true:=by
 unfold z0P
 split
 · exact z4B hx
 · exact z4B (z4B hx)
theorem zjz:(oN 1).raw 1=true:=by rw[z9T];kernel_rfl
end Go.Fw
open Go
namespace Go.Fw
set_option maxRecDepth 100000
theorem z9p(x y z:K):toV ⟨kN x,kN y,kN z⟩=some ⟨x,y,z⟩:=by
 unfold toV
 rw[z1Y,z1Y,z1Y]
theorem zfx(x y z k:K):J2 ⟨kN x,kN y,kN z⟩ (kN k)=⟨kN (x*k),kN (y*k),kN (z*k)⟩:=by
 unfold J2
 rw[z9p,z1Y,z1Q,z1Q,z1Q]
 rfl
theorem zeX(n:Int)(h: -9223372036854775808≤n∧n≤9223372036854775807):PCall P 40 [j5 n] (oN n).c:=by rw[z9T];exact z3X n h
end Go.Fw
open Go IntKind
namespace Go.Fw
set_option maxRecDepth 100000
theorem zhm(n:Nat)(es:List CV){R:CV→Prop}(hR:Ok P 61 (loopHead P 61 0) ⟨J1 18 [(3,.cv (CV.lit (Value.slice none 0 0))),(6,.cv (.lst n es)),(7,.cv (.lit (.int .i64 (n:Int)))),(8,.cv (.lit (.int .i64 0)))],[]⟩ (.of R)):Y6 P 61 [.lst n es] R:=
 Y0 (keep:=[3,6,7,8]) (σ:=[]) (.o 5 .stop .nil) (by kernel_rfl) rfl hR .nil
theorem zhE(n:Nat)(es:List CV){R:CV→Prop}(hR:Ok P 88 (loopHead P 88 0) ⟨J1 18 [(3,.cv (CV.lit (Value.slice none 0 0))),(6,.cv (.lst n es)),(7,.cv (.lit (.int .i64 (n:Int)))),(8,.cv (.lit (.int .i64 0)))],[]⟩ (.of R)):Y6 P 88 [.lst n es] R:=
 Y0 (keep:=[3,6,7,8]) (σ:=[]) (.o 5 .stop .nil) (by kernel_rfl) rfl hR .nil
theorem zjS(n:Nat)(es:List CV)(k mi mo:Int)(h1:decide (k<(n:Int))=true)(o1:(0:Int)≤k∧k<(n:Int))(o2:List.take 2 (List.drop (k.toNat*2) es)=[.lit (.int .i64 mi),.lit (.int .i64 mo)]){R:Goal}(hn:j8 R.n [2]=true)(hR:Ok P 61 (loopHead P 61 0) ⟨J1 18 [(3,.sl 0 0 1 2),(6,.cv (.lst n es)),(7,.cv (.lit (.int .i64 (n:Int)))),(8,.cv (.lit (.int .i64 (i64.wrap (k+1)))))],[some [.cv (.lit (.int .i64 mi)),.cv (.lit (.int .i64 mo))]]⟩ R):Ok P 61 (loopHead P 61 0) ⟨J1 18 [(3,.cv (CV.lit (Value.slice none 0 0))),(6,.cv (.lst n es)),(7,.cv (j5 (n:Int))),(8,.cv (j5 k))],[]⟩ R:=
 z0n (keep:=[3,6,7,8]) (σ:=[2]) (.b 2 h1 (.c o1 (.c o2 (.c (eqn 2) (.c (lq 2 2) (.c (lq 16 1099511627776) (.c (lq 1 1099511627776) (.c (show 0<1 from by decide) (.c (eqn 2) (.o 4 (.r (.agg [.lit (.int .i64 mi),.lit (.int .i64 mo)])) (.o 14 .stop .nil))))))))))) (by kernel_rfl) rfl hn hR (.cons (by simp[CvL]) .nil)
theorem zkv(n:Nat)(es:List CV)(k _mi _mo:Int)(h1:decide (k<(n:Int))=false){R:Goal}(hR:R.c (CV.lit (Value.slice none 0 0))):Ok P 61 (loopHead P 61 0) ⟨J1 18 [(3,.cv (CV.lit (Value.slice none 0 0))),(6,.cv (.lst n es)),(7,.cv (j5 (n:Int))),(8,.cv (j5 k))],[]⟩ R:=
 okT (.b 2 h1 .nil) (by kernel_rfl) hR
theorem zkN(n c:Nat)(es out:List CV)(k mi mo:Int)(h1:decide (k<(n:Int))=true)(o1:(0:Int)≤k∧k<(n:Int))(o2:List.take 2 (List.drop (k.toNat*2) es)=[.lit (.int .i64 mi),.lit (.int .i64 mo)])(o5:(c+1)*16≤1099511627776)(o6:c+1≤1099511627776)(o7:(own out).length=c*2)(o8:z6T [.cv (.lit (.int .i64 mi)),.cv (.lit (.int .i64 mo))])(o10:CvL (own out++[.cv (.lit (.int .i64 mi)),.cv (.lit (.int .i64 mo))])){R:Goal}(hn:j8 R.n [3]=true)(hR:Ok P 61 (loopHead P 61 0) ⟨J1 18 [(3,.sl 0 0 (c+1) 2),(6,.cv (.lst n es)),(7,.cv (.lit (.int .i64 (n:Int)))),(8,.cv (.lit (.int .i64 (i64.wrap (k+1)))))],[some (own out++[.cv (.lit (.int .i64 mi)),.cv (.lit (.int .i64 mo))])]⟩ R):Ok P 61 (loopHead P 61 0) ⟨J1 18 [(3,.sl 0 0 c 2),(6,.cv (.lst n es)),(7,.cv (j5 (n:Int))),(8,.cv (j5 k))],[some (own out)]⟩ R:=
 z0n (keep:=[3,6,7,8]) (σ:=[3]) (.b 2 h1 (.c o1 (.c o2 (.c (eqn 2) (.c (lq 2 2) (.c o5 (.c o6 (.c o7 (.c o8 (.c (eqn 2) (.o 4 (.r (.agg [.lit (.int .i64 mi),.lit (.int .i64 mo)])) (.o 14 .stop .nil)))))))))))) (by kernel_rfl) rfl hn hR (.cons o10 .nil)
theorem zlS(n c:Nat)(es out:List CV)(k _mi _mo:Int)(h1:decide (k<(n:Int))=false)(o1:List.take (c*2) (List.drop 0 (own out))=List.map MV.cv out){R:Goal}(hR:R.c (.lst c out)):Ok P 61 (loopHead P 61 0) ⟨J1 18 [(3,.sl 0 0 c 2),(6,.cv (.lst n es)),(7,.cv (j5 (n:Int))),(8,.cv (j5 k))],[some (own out)]⟩ R:=
 okT (.b 2 h1 (.c o1 (.o 5 (.r (CV.lit undef) [out]) .nil))) (by kernel_rfl) hR
theorem zjM(n:Nat)(es:List CV)(k mi mo:Int)(h1:decide (k<(n:Int))=true)(o1:(0:Int)≤k∧k<(n:Int))(o2:List.take 2 (List.drop (k.toNat*2) es)=[.lit (.int .i64 mi),.lit (.int .i64 mo)]){R:Goal}(hn:j8 R.n [2]=true)(hR:Ok P 88 (loopHead P 88 0) ⟨J1 18 [(3,.sl 0 0 1 2),(6,.cv (.lst n es)),(7,.cv (.lit (.int .i64 (n:Int)))),(8,.cv (.lit (.int .i64 (i64.wrap (k+1)))))],[some [.cv (.lit (.int .i64 mi)),.cv (.lit (.int .i64 mo))]]⟩ R):Ok P 88 (loopHead P 88 0) ⟨J1 18 [(3,.cv (CV.lit (Value.slice none 0 0))),(6,.cv (.lst n es)),(7,.cv (j5 (n:Int))),(8,.cv (j5 k))],[]⟩ R:=
 z0n (keep:=[3,6,7,8]) (σ:=[2]) (.b 2 h1 (.c o1 (.c o2 (.c (eqn 2) (.c (lq 2 2) (.c (lq 16 1099511627776) (.c (lq 1 1099511627776) (.c (show 0<1 from by decide) (.c (eqn 2) (.o 4 (.r (.agg [.lit (.int .i64 mi),.lit (.int .i64 mo)])) (.o 14 .stop .nil))))))))))) (by kernel_rfl) rfl hn hR (.cons (by simp[CvL]) .nil)
theorem ziC(n:Nat)(es:List CV)(k _mi _mo:Int)(h1:decide (k<(n:Int))=false){R:Goal}(hR:R.c (CV.lit (Value.slice none 0 0))):Ok P 88 (loopHead P 88 0) ⟨J1 18 [(3,.cv (CV.lit (Value.slice none 0 0))),(6,.cv (.lst n es)),(7,.cv (j5 (n:Int))),(8,.cv (j5 k))],[]⟩ R:=
 okT (.b 2 h1 .nil) (by kernel_rfl) hR
theorem zkK(n c:Nat)(es out:List CV)(k mi mo:Int)(h1:decide (k<(n:Int))=true)(o1:(0:Int)≤k∧k<(n:Int))(o2:List.take 2 (List.drop (k.toNat*2) es)=[.lit (.int .i64 mi),.lit (.int .i64 mo)])(o5:(c+1)*16≤1099511627776)(o6:c+1≤1099511627776)(o7:(own out).length=c*2)(o8:z6T [.cv (.lit (.int .i64 mi)),.cv (.lit (.int .i64 mo))])(o10:CvL (own out++[.cv (.lit (.int .i64 mi)),.cv (.lit (.int .i64 mo))])){R:Goal}(hn:j8 R.n [3]=true)(hR:Ok P 88 (loopHead P 88 0) ⟨J1 18 [(3,.sl 0 0 (c+1) 2),(6,.cv (.lst n es)),(7,.cv (.lit (.int .i64 (n:Int)))),(8,.cv (.lit (.int .i64 (i64.wrap (k+1)))))],[some (own out++[.cv (.lit (.int .i64 mi)),.cv (.lit (.int .i64 mo))])]⟩ R):Ok P 88 (loopHead P 88 0) ⟨J1 18 [(3,.sl 0 0 c 2),(6,.cv (.lst n es)),(7,.cv (j5 (n:Int))),(8,.cv (j5 k))],[some (own out)]⟩ R:=
 z0n (keep:=[3,6,7,8]) (σ:=[3]) (.b 2 h1 (.c o1 (.c o2 (.c (eqn 2) (.c (lq 2 2) (.c o5 (.c o6 (.c o7 (.c o8 (.c (eqn 2) (.o 4 (.r (.agg [.lit (.int .i64 mi),.lit (.int .i64 mo)])) (.o 14 .stop .nil)))))))))))) (by kernel_rfl) rfl hn hR (.cons o10 .nil)
theorem zkX(n c:Nat)(es out:List CV)(k _mi _mo:Int)(h1:decide (k<(n:Int))=false)(o1:List.take (c*2) (List.drop 0 (own out))=List.map MV.cv out){R:Goal}(hR:R.c (.lst c out)):Ok P 88 (loopHead P 88 0) ⟨J1 18 [(3,.sl 0 0 c 2),(6,.cv (.lst n es)),(7,.cv (j5 (n:Int))),(8,.cv (j5 k))],[some (own out)]⟩ R:=
 okT (.b 2 h1 (.c o1 (.o 5 (.r (CV.lit undef) [out]) .nil))) (by kernel_rfl) hR
theorem zqx(n:Nat)(es:List CV){R:CV→Prop}(hR:Ok P 118 (loopHead P 118 0) ⟨J1 27 [(0,.cv (.lst n es)),(3,.cv (.lit (.int .i64 0)))],[]⟩ (.of R)):Y6 P 118 [.lst n es] R:=
 Y0 (keep:=[0,3]) (σ:=[]) (.o 2 .stop .nil) (by kernel_rfl) rfl hR .nil
theorem zkC(n:Nat)(es:List CV)(i _mi mo:Int)(h1:decide (i<(n:Int))=true)(h2:decide (mo<(-10000:Int))=true)(o1:(0:Int)≤i∧i<(n:Int))(o2:es[i.toNat*2+1]?=some (.lit (.int .i64 mo))){R:Goal}(hR:R.c (.lit (.bool false))):Ok P 118 (loopHead P 118 0) ⟨J1 27 [(0,.cv (.lst n es)),(3,.cv (j5 i))],[]⟩ R:=
 okT (.b 5 h1 (.c o1 (.l 10 o2 (.c (eqn 1) (.b 12 h2 .nil))))) (by kernel_rfl) hR
theorem zlM(n:Nat)(es:List CV)(i _mi mo:Int)(h1:decide (i<(n:Int))=true)(h2:decide (mo<(-10000:Int))=false)(h3:decide (mo>10000)=true)(o1:(0:Int)≤i∧i<(n:Int))(o2:es[i.toNat*2+1]?=some (.lit (.int .i64 mo)))(o5:(0:Int)≤i∧i<(n:Int))(o6:es[i.toNat*2+1]?=some (.lit (.int .i64 mo))){R:Goal}(hR:R.c (.lit (.bool false))):Ok P 118 (loopHead P 118 0) ⟨J1 27 [(0,.cv (.lst n es)),(3,.cv (j5 i))],[]⟩ R:=
 okT (.b 5 h1 (.c o1 (.l 10 o2 (.c (eqn 1) (.b 12 h2 (.c o5 (.l 17 o6 (.c (eqn 1) (.b 20 h3 .nil))))))))) (by kernel_rfl) hR
theorem zkJ(n:Nat)(es:List CV)(i _mi mo:Int)(h1:decide (i<(n:Int))=true)(h2:decide (mo<(-10000:Int))=false)(h3:decide (mo>10000)=false)(o1:(0:Int)≤i∧i<(n:Int))(o2:es[i.toNat*2+1]?=some (.lit (.int .i64 mo)))(o5:(0:Int)≤i∧i<(n:Int))(o6:es[i.toNat*2+1]?=some (.lit (.int .i64 mo))){R:Goal}(hn:j8 R.n []=true)(hR:Ok P 118 (loopHead P 118 0) ⟨J1 27 [(0,.cv (.lst n es)),(3,.cv (.lit (.int .i64 (i64.wrap (i+1)))))],[]⟩ R):Ok P 118 (loopHead P 118 0) ⟨J1 27 [(0,.cv (.lst n es)),(3,.cv (j5 i))],[]⟩ R:=
 z0n (keep:=[0,3]) (σ:=[]) (.b 5 h1 (.c o1 (.l 10 o2 (.c (eqn 1) (.b 12 h2 (.c o5 (.l 17 o6 (.c (eqn 1) (.b 20 h3 (.o 24 .stop .nil)))))))))) (by kernel_rfl) rfl hn hR .nil
theorem zjk(n:Nat)(es:List CV)(i _mi _mo:Int)(h1:decide (i<(n:Int))=false){R:Goal}(hR:R.c (.lit (.bool (decide ((n:Int)≤48))))):Ok P 118 (loopHead P 118 0) ⟨J1 27 [(0,.cv (.lst n es)),(3,.cv (j5 i))],[]⟩ R:=
 okT (.b 5 h1 .nil) (by kernel_rfl) hR
theorem zpf(i o:Int)(h1:decide (o<(-10000:Int))=true):PCall P 182 [.agg [j5 i,j5 o]] (.lit (.bool true)):=
 j3 (.b 5 h1 .nil) (by kernel_rfl)
theorem zos(i o:Int)(h1:decide (o<(-10000:Int))=false):PCall P 182 [.agg [j5 i,j5 o]] (.lit (.bool (decide (o>10000)))):=
 j3 (.b 5 h1 .nil) (by kernel_rfl)
theorem zpK(n:Nat)(es:List CV){R:CV→Prop}(hR:Ok P 230 (loopHead P 230 0) ⟨J1 19 [(0,.cv (.lst n es)),(1,.cv (CV.lit (Value.func (Fn.func 182) {toList:=[]} {toList:=[]}))),(7,.cv (.lit (.int .i64 (n:Int)))),(8,.cv (.lit (.int .i64 0)))],[]⟩ (.of R)):Y6 P 230 [.lst n es,CV.lit (Value.func (Fn.func 182) #[] #[])] R:=
 Y0 (keep:=[0,1,7,8]) (σ:=[]) (.o 4 .stop .nil) (by kernel_rfl) rfl hR .nil
end Go.Fw
