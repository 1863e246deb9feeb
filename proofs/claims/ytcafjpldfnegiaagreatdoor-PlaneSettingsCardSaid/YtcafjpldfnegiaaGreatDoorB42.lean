/- A part of the proof that the law returns true for every input: an executor for the model's code, and what functions of the program compute. -/
import Derived.Test.YtcafjpldfnegiaaGreatDoorB11
import Derived.Test.YtcafjpldfnegiaaGreatDoorB15
import Derived.Test.YtcafjpldfnegiaaGreatDoorB28
import Derived.Test.YtcafjpldfnegiaaGreatDoorB39
import Derived.Test.YtcafjpldfnegiaaGreatDoorB40
import Derived.Test.YtcafjpldfnegiaaGreatDoorB41
import Derived.KernelRfl
open Go Go.RowKit Go.Shelf Go.Proofs
namespace Go.Fw
attribute [local go_sem] Oper.semAt_some
set_option maxRecDepth 100000
set_option maxHeartbeats 1000000
def RN.a(x:RN):Array Value:= #[.bool x.b0,.string x.s0,.bool x.b1,.string x.s1,.bool x.b2,.string x.s2,.bool x.b3,.string x.s3,.bool x.b4,.string x.s4]
theorem z37(Im:Imm)(l:List Value):CV.repL Im (l.map .lit) l:=by
 induction l with
 |nil=>rfl
 |cons x xs ih=>exact⟨x,xs,rfl,rfl,ih⟩
theorem z1K{Im:Imm}: ∀{l k:List Value},CV.repL Im (l.map .lit) k→k=l
 | [],_,h=>h
 |_::_,_,⟨_,_,e,h1,h2⟩=>by rw[e,show _=_ from h1,z1K h2]
theorem PCall.num{f:FuncId}{x:RN}{v:Value}(h:PCall P f [.agg x.l] (.lit v))(w:World):Calls P f #[.agg x.a] w fun e w'=>e= .returned v∧Below w.heap.size w w':=by
 refine(h (fun _=>none) w #[.agg x.a] (fun b cs hb=>by cases hb) ⟨_,_,rfl,⟨_,rfl,?_⟩,rfl⟩).mono ?_
 · exact z37 _ [.bool x.b0,.string x.s0,.bool x.b1,.string x.s1,.bool x.b2,.string x.s2,.bool x.b3,.string x.s3,.bool x.b4,.string x.s4]
 · rintro e w' ⟨y,v',I,rfl,rfl,hr,_,_,hb,_⟩
   exact⟨by rw[show y=v from hr],hb⟩
theorem z2n{W W':World}(h:Below W.heap.size W W')(B:Nat):KeepsFrom B W W':=⟨h.size,fun _ _ _ hk _=>(h.block _ (Array.getElem?_eq_some_iff.1 hk).1).trans hk⟩
theorem z1s{β:Type}(n B:Nat)(c:β→Array Value)(T:TypeId):OwnFrom n (fun(s:β) W=>W.heap[B]?=some (.cells (c s) T (0,0))):=fun _ _ _ _ hs hg hr=>
 (hg.block B (Array.getElem?_eq_some_iff.1 hs).1 (fun e=>by obtain⟨_,o,ho,hc⟩:=hr B e.symm;rw[hs]at ho;cases ho;cases hc)).trans hs
abbrev RNS:={x:RN//x.raw 1000000=true}
abbrev enR(p:Nat×RNS):Array Value:= #[.int .i64 p.1,.agg p.2.1.a]
theorem z5n:Tryz.prog.cellsOf 39=10:=by kernel_rfl
theorem z7x:Tryz.prog.cellsOf 51=30:=by kernel_rfl
theorem zpk: ∃i,Tryz.prog.info? 39=some i:=Option.isSome_iff_exists.1 (by kernel_rfl)
theorem RN.a_size(x:RN):x.a.size=10:=rfl
theorem RN.a_one(x:RN): ∀v∈x.a.toList,v.oneCell'=true:=by
 intro v hv
 simp only[RN.a,List.mem_cons,List.not_mem_nil,or_false]at hv
 rcases hv with rfl|rfl|rfl|rfl|rfl|rfl|rfl|rfl|rfl|rfl<;>rfl
theorem z86(x:RN)(w:World)(c:Array Value)(hc:c.size=10):(Instr.storeAt 39 (.pointer (some ⟨w.heap.size,0,none⟩)) (.agg x.a)).run Tryz.prog (w.alloc (.cells c 39))= .ok () (w.alloc (.cells x.a 39)):=by
 obtain⟨i,hi⟩:=zpk
 exact z8d hi (by rw[z5n];rfl) hc x.a_one
theorem z9T{x:RN}{w:World}{b:Nat}(h:w.heap[b]?=some (.cells x.a 39 (0,0))):(Instr.loadAt 39 (.pointer (some ⟨b,0,none⟩))).run Tryz.prog w= .ok (.agg x.a) w:=
 z40 Tryz.underlying39 h (by rw[z5n];rfl) (by rw[z5n];rfl)
theorem zfI{v:Array Value}(hv:v.size=30){w:World}{b:Nat}(h:w.heap[b]?=some (.cells v 51 (0,0))):(Instr.loadAt 51 (.pointer (some ⟨b,0,none⟩))).run Tryz.prog w= .ok (.agg v) w:=
 z40 Tryz.underlying51 h (by rw[z7x,List.drop_zero,List.take_of_length_le (by simp;omega)]) (by rw[z7x,hv])
theorem zi6 (F : Fence) (n : Nat) (h1 : F.fn 148) (h2 : F.fn 212) (h3 : F.fn 247) (h4 : F.fn 154) (hro : F.round = none) (hn : 6 ≤ n)
    (hV: ∀(m:Nat) (x:RNS) (W:World),CallsIn F m Tryz.prog 154 #[.agg x.1.a] W fun e W'=>e= .returned (.bool x.1.ok)∧Below W.heap.size W W')
    (x0:Bool) (x1:ByteArray) (x2:Bool) (x3:ByteArray) (x4:Bool) (x5:ByteArray) (x6:Bool) (x7:ByteArray) (x8:Bool) (x9:ByteArray) (y0:Bool) (y1:ByteArray) (y2:Bool) (y3:ByteArray) (y4:Bool) (y5:ByteArray) (y6:Bool) (y7:ByteArray) (y8:Bool) (y9:ByteArray) (z0:Bool) (z1:ByteArray) (z2:Bool) (z3:ByteArray) (z4:Bool) (z5:ByteArray) (z6:Bool) (z7:ByteArray) (z8:Bool) (z9:ByteArray) (hx:RN.raw 1000000 ⟨x0,x1,x2,x3,x4,x5,x6,x7,x8,x9⟩=true) (hy:RN.raw 1000000 ⟨y0,y1,y2,y3,y4,y5,y6,y7,y8,y9⟩=true) (hz:RN.raw 1000000 ⟨z0,z1,z2,z3,z4,z5,z6,z7,z8,z9⟩=true) (v:Array Value) (hv:v.toList=[.bool x0,.string x1,.bool x2,.string x3,.bool x4,.string x5,.bool x6,.string x7,.bool x8,.string x9,.bool y0,.string y1,.bool y2,.string y3,.bool y4,.string y5,.bool y6,.string y7,.bool y8,.string y9,.bool z0,.string z1,.bool z2,.string z3,.bool z4,.string z5,.bool z6,.string z7,.bool z8,.string z9]) (w:World):
    CallsIn F n Tryz.prog 148 #[.agg v] w fun e W'=>e= .returned (.bool (ok3 ⟨x0,x1,x2,x3,x4,x5,x6,x7,x8,x9⟩ ⟨y0,y1,y2,y3,y4,y5,y6,y7,y8,y9⟩ ⟨z0,z1,z2,z3,z4,z5,z6,z7,z8,z9⟩))∧Below w.heap.size w W':=by
 have h1n:1≤n:=by omega
 refine callsIn_of_wp_marks Tryz.func148 rfl h1 ?_ hro
 simp only[Tryz.ntmps148,List.size_toArray,List.length_cons,List.length_nil,Nat.reduceAdd,Nat.reduceSub,Array.replicate_succ,Array.replicate_zero,List.push_toArray,List.append_toArray,List.nil_append,List.cons_append]
 have hvs:v.size=30:=by rw[←Array.length_toList,hv];rfl
 have hb:((w.alloc (.cells v 51)).alloc (.cells #[.bool false] 4)).heap[w.heap.size]?=some (.cells v 51 (0,0)):=
  (Below.heap_alloc _ _ _ (by simp)).trans (World.alloc_heap_new w _)
 have hl:=zfI hvs hb
 gi_wp2_with (first|(gi_at_call 212;refine(zp5 F (n-1) h2 hro _ _).mono ?_;rintro e w' ⟨rfl,rfl⟩)|refine z0a rfl rfl rfl hl ?_)
 clear hb hl
 have bR:=(Boxed.new (w.alloc (.cells v 51)) 4 (.bool false)).alloc (.cells v 51)
 rw[World.size_alloc]at bR
 have hB0:Below w.heap.size w (((w.alloc (.cells v 51)).alloc (.cells #[.bool false] 4)).alloc (.cells v 51)):=(((Below.refl _ w).alloc (Nat.le_refl _) _).alloc (by simp) _).alloc (by simp;omega) _
 have hsz:(((w.alloc (.cells v 51)).alloc (.cells #[.bool false] 4)).alloc (.cells v 51)).heap.size=w.heap.size+3:=by simp
 have bV:(((w.alloc (.cells v 51)).alloc (.cells #[.bool false] 4)).alloc (.cells v 51)).heap[w.heap.size+1+1]?=some (.cells v 51 (0,0)):=by
  have:=World.alloc_heap_new ((w.alloc (.cells v 51)).alloc (.cells #[.bool false] 4)) (.cells v 51)
  rwa[World.size_alloc,World.size_alloc]at this
 obtain⟨W0,hW0⟩: ∃W0,(((w.alloc (.cells v 51)).alloc (.cells #[.bool false] 4)).alloc (.cells v 51))=W0:=⟨_,rfl⟩
 rw[hW0]at bR bV hB0 hsz ⊢
 clear hW0
 have bV:W0.heap[w.heap.size+1+1]?=some (.cells #[.bool x0,.string x1,.bool x2,.string x3,.bool x4,.string x5,.bool x6,.string x7,.bool x8,.string x9,.bool y0,.string y1,.bool y2,.string y3,.bool y4,.string y5,.bool y6,.string y7,.bool y8,.string y9,.bool z0,.string z1,.bool z2,.string z3,.bool z4,.string z5,.bool z6,.string z7,.bool z8,.string z9] 51 (0,0)):=by rw[bV,←hv]
 refine wpIn_rangeFunc_ownH hro h1n (gf:=247) (lb:= #[.pointer (some ⟨w.heap.size+1+1,0,none⟩)]) rfl h3 (enters_of Tryz.func247 (by kernel_rfl) rfl)
  (zbI enR (0,⟨_,hx⟩) (1,⟨_,hy⟩) (2,⟨_,hz⟩) F (n-1) h3 hro (by omega) (w.heap.size+1+1) w.heap.size x0 x1 x2 x3 x4 x5 x6 x7 x8 x9 y0 y1 y2 y3 y4 y5 y6 y7 y8 y9 z0 z1 z2 z3 z4 z5 z6 z7 z8 z9 W0 (by omega) bV rfl rfl rfl) belowK_t (belowK_b (by omega)) (Below.refl _ _) (fun _=>rfl)
  (fun pre W=>((∀p∈pre,p.2.1.ok=true)∧Boxed W (w.heap.size+1) 4 (.bool false))∧Below w.heap.size w W)
  (fun c pre W=>((c= .ret∧ ∃p∈pre,p.2.1.ok=false)∧Boxed W (w.heap.size+1) 4 (.bool false))∧Below w.heap.size w W)
  (OwnFrom.and (OwnFrom.and (ownFrom_pure _ _) (Own.from (boxed_own _ _ _) _)) (ownFrom_below (Nat.le_refl _) (by omega)))
  (fun c=>OwnFrom.and (OwnFrom.and (ownFrom_pure _ _) (Own.from (boxed_own _ _ _) _)) (ownFrom_below (Nat.le_refl _) (by omega)))
  ⟨⟨by simp,bR⟩,hB0⟩
  (fun x a' W=> ∃Bx,w.heap.size+1<Bx∧W.heap[Bx]?=some (.cells x.2.1.a 39 (0,0))∧a'={tmps:= #[.agg v,.pointer (some ⟨w.heap.size,0,none⟩),.pointer (some ⟨w.heap.size+1,0,none⟩),undef,.pointer (some ⟨Bx,0,none⟩),.agg v,.func (.func 247) #[] #[.pointer (some ⟨w.heap.size+1+1,0,none⟩)],.int .i64 x.1,.agg x.2.1.a,undef,undef,undef],defers:=[]})
  (fun x a' _ X Y row hs hg hr=>by obtain⟨Bx,e1,e2,e3⟩:=hs;exact⟨Bx,e1,z1s _ Bx (fun(_:Unit)=>x.2.1.a) 39 () X Y row e2 hg hr,e3⟩)
  ?assign ?body ?done ?stop
 case assign=>
  rintro l pre x W K ⟨⟨hp,bR1⟩,hB1⟩ hK
  dsimp only[enR]
  have hst:=z86 x.2.1 W #[.bool false,.string ⟨#[]⟩,.bool false,.string ⟨#[]⟩,.bool false,.string ⟨#[]⟩,.bool false,.string ⟨#[]⟩,.bool false,.string ⟨#[]⟩] rfl
  gi_wp2_with (refine z2C rfl rfl rfl rfl hst ?_)
  exact hK _ _ ((KeepsOthers.alloc _ _).from _) ((Below.refl _ W).alloc hB1.size _) ⟨⟨hp,bR1.alloc _⟩,hB1.alloc hB1.size _⟩ ⟨W.heap.size,bR1.lt,World.alloc_heap_new W _,rfl⟩
 case body=>
  rintro l pre x a' W hl ⟨r,hr⟩ ⟨⟨hp,bR1⟩,hB1⟩ ⟨Bx,hBx,bX,rfl⟩ hlt
  have hld:=z9T bX
  have h1':1≤n-1-1:=by omega
  have cR: ∀W2,Below W.heap.size W W2→Boxed W2 (w.heap.size+1) 4 (.bool false):=fun W2 h=>(h.block _ bR1.lt).trans bR1
  gi_wp2_with (first|(gi_at_call 154;refine(CallsIn.inRound l (hV _ x.2 _)).mono ?_;rintro e W2 ⟨rfl,hBW⟩;have bR2:=cR _ hBW;have c2:=bR2.cell;have f2:=bR2.frozen)|refine z0a rfl rfl rfl hld ?_)
  · rename_i hk
    have hk':x.2.1.ok=false:=by simpa using hk
    exact⟨(z2n hBW _).trans ((KeepsOthers.setCell _ _ _).from _),⟨⟨rfl,x,List.mem_append.2 (.inr (by simp)),hk'⟩,bR2.set _⟩,(hB1.trans (hBW.mono hB1.size)).setCell (p:=⟨w.heap.size+1,0,none⟩) (by simp) _⟩
  · rename_i hk
    have hk':x.2.1.ok=true:=by simpa using hk
    exact⟨z2n hBW _,hBW.mono hB1.size,⟨fun p hp'=>(List.mem_append.1 hp').elim (hp p) (fun e=>by simp at e;subst e;exact hk'),bR2⟩,hB1.trans (hBW.mono hB1.size)⟩
 case done=>
  rintro D zs W hD rfl ⟨⟨hp,bR1⟩,hB1⟩ hK
  have cR:=bR1.cell
  have fR:=bR1.frozen
  gi_wp2
  have hK':=(KeepsOthers.setCell W ⟨w.heap.size+1,0,none⟩ (.bool true)).same D _ hK rfl
  refine⟨by simp,.inl ⟨_,_,rfl,run_takeDeferred hK',?_⟩⟩
  have hc5:=cell_kept (bR1.set (.bool true)).cell (grownBy_putObj' _ D (.deferred none)) (fun r e=>by cases e;exact⟨_,hK',rfl⟩)
  refine⟨.bool true,?_,?_,(hB1.setCell (p:=⟨w.heap.size+1,0,none⟩) (by simp) _).trans (belowK_b (w:=w) (Nat.le_refl _) _ D _ _ (by omega) hK' rfl rfl)⟩
  · simp[results,Tryz.f148,go_sem,hc5]
  · have q0:=hp _ (List.mem_cons_self ..)
    have q1:=hp _ (List.mem_cons_of_mem _ (List.mem_cons_self ..))
    have q2:=hp _ (List.mem_cons_of_mem _ (List.mem_cons_of_mem _ (List.mem_cons_self ..)))
    unfold ok3
    rw[q0,q1,q2];rfl
 case stop=>
  rintro D c pre W hD hpre ⟨⟨⟨rfl,x,hx,hy⟩,bR1⟩,hB1⟩ hK
  gi_wp2
  refine⟨by simp,.inl ⟨_,_,rfl,run_takeDeferred hK,?_⟩⟩
  have hc5:=cell_kept bR1.cell (grownBy_putObj' _ D (.deferred none)) (fun r e=>by cases e;exact⟨_,hK,rfl⟩)
  refine⟨.bool false,?_,?_,hB1.trans (belowK_b (w:=w) (Nat.le_refl _) W D _ _ (by omega) hK rfl rfl)⟩
  · simp[results,Tryz.f148,go_sem,hc5]
  · have hm:=hpre.subset hx
    simp only[List.mem_cons,List.not_mem_nil,or_false]at hm
    unfold ok3
    rcases hm with rfl|rfl|rfl<;>rw[hy]<;>simp
theorem zos(x y z:RN)(h:zpL 1000000 x y z=true):PCall P 148 [zli x y z] (.lit (.bool (ok3 x y z))):=by
 obtain⟨hx,hy,hz⟩:=z0o.1 h
 intro Im w vs hIm hvs
 obtain⟨y0,ys,e1,⟨arr,rfl,hr⟩,e2⟩:=hvs
 have e3:vs= #[.agg arr]:=by
  apply Array.ext'
  rw[e1,e2]
 subst e3
 have ha:arr.toList=(x.a.toList++(y.a.toList++z.a.toList)):=z1K hr
 obtain⟨x0,x1,x2,x3,x4,x5,x6,x7,x8,x9⟩:=x
 obtain⟨y0,y1,y2,y3,y4,y5,y6,y7,y8,y9⟩:=y
 obtain⟨z0,z1,z2,z3,z4,z5,z6,z7,z8,z9⟩:=z
 refine(callsIn_wide.1 (zi6 Fence.wide 6 trivial trivial trivial trivial rfl (Nat.le_refl _) (fun m x W=>callsIn_wide.2 (PCall.num (zaz x.1 x.2) W)) _ _ _ _ _ _ _ _ _ _ _ _ _ _ _ _ _ _ _ _ _ _ _ _ _ _ _ _ _ _ hx hy hz arr ha w)).mono ?_
 rintro e w' ⟨rfl,hB⟩
 exact⟨_,_,Im,rfl,rfl,rfl,Im.le_refl,(fun b cs hb=>by obtain⟨c,T,fz,k1,k2⟩:=hIm b cs hb;exact⟨c,T,fz,(hB.block b (Array.getElem?_eq_some_iff.1 k1).1).trans k1,k2⟩),hB,fun b hb=> .inl hb⟩
end Go.Fw
open Go
namespace Go.Fw
set_option maxRecDepth 100000
theorem zgZ(v:VN)(h:v.raw 1000000=true):PCall P 148 [v.c] (.lit (.bool v.ok)):=zos v.x v.y v.z h
theorem znY(x y z:K)(hx:x.sz≤1000000)(hy:y.sz≤1000000)(hz:z.sz≤1000000):PCall P 148 [zbt x y z] (.lit (.bool true)):=by
 have h:=zgZ (ofV (some ⟨x,y,z⟩)) (zc9 (by show max x.sz (max y.sz z.sz)≤1000000;omega))
 rw[zdV (zdp (some ⟨x,y,z⟩))]at h
 exact h
end Go.Fw
open Go IntKind
namespace Go.Fw
set_option maxRecDepth 100000
theorem zom(f:Nat)(v w:VN)(g:v.ok=false)(s5_0:VN.raw 1000000 v=true):PCall P 205 [.agg [CV.lit (Value.func (Fn.func f) #[] #[])],v.c,w.c] z7v:=
 j4 (.r 5 ((zgZ (v) s5_0).eqB g) (.c (lq 30 30) .nil)) (by kernel_rfl)
theorem zmt(f:Nat)(v w:VN)(g:v.ok=true)(g2:w.ok=false)(s5_0:VN.raw 1000000 v=true)(s9_0:VN.raw 1000000 w=true):PCall P 205 [.agg [CV.lit (Value.func (Fn.func f) #[] #[])],v.c,w.c] z7v:=
 j4 (.r 5 ((zgZ (v) s5_0).eqB g) (.r 9 ((zgZ (w) s9_0).eqB g2) (.c (lq 30 30) .nil))) (by kernel_rfl)
theorem znQ(x y z x' y' z':K)(s5_0:x.sz≤1000000)(s5_1:y.sz≤1000000)(s5_2:z.sz≤1000000)(s9_0:x'.sz≤1000000)(s9_1:y'.sz≤1000000)(s9_2:z'.sz≤1000000)(s19_0:x.sz+x'.sz+2<1073741824)(s26_0:y.sz+y'.sz+2<1073741824)(s33_0:z.sz+z'.sz+2<1073741824):PCall P 205 [.agg [CV.lit (Value.func (Fn.func 136) #[] #[])],zbt x y z,zbt x' y' z'] (zbt (x*x') (y*y') (z*z')):=
 j4 (.r 5 (znY (x) (y) (z) s5_0 s5_1 s5_2) (.r 9 (znY (x') (y') (z') s9_0 s9_1 s9_2) (.r 19 (z7Q (x) (x') s19_0) (.r 26 (z7Q (y) (y') s26_0) (.r 33 (z7Q (z) (z') s33_0) (.c (lq 30 30) .nil)))))) (by kernel_rfl)
theorem znd(a b c:Int)(s2_0:(-9223372036854775808:Int)≤a∧a≤9223372036854775807)(s4_0:(-9223372036854775808:Int)≤b∧b≤9223372036854775807)(s6_0:(-9223372036854775808:Int)≤c∧c≤9223372036854775807):PCall P 139 [j6 a,j6 b,j6 c] (zbt (K.ofInt a) (K.ofInt b) (K.ofInt c)):=
 j4 (.r 2 (z0x (a) s2_0) (.r 4 (z0x (b) s4_0) (.r 6 (z0x (c) s6_0) (.c (lq 30 30) .nil)))) (by kernel_rfl)
end Go.Fw
open Go
namespace Go.Fw
set_option maxRecDepth 100000
abbrev opC(f:Nat):CV:= .agg [.lit (.func (.func f) #[] #[])]
def V3.pmul(a b:V3):V3:=⟨a.x*b.x,a.y*b.y,a.z*b.z⟩
noncomputable def zif(v w:VN):VN:=ofV (o2 V3.pmul (toV v) (toV w))
noncomputable def oV(a b c:Int):VN:=ofV (toV (ofV (some ⟨K.ofInt a,K.ofInt b,K.ofInt c⟩)))
theorem zbY(a b c:Int):oV a b c=ofV (some ⟨K.ofInt a,K.ofInt b,K.ofInt c⟩):=by unfold oV;rw[zdp]
theorem zqH (f : Nat) (g : V3 → V3 → V3) (v w : VN) (hv : v.raw 1000000 = true) (hw : w.raw 1000000 = true)
    (h: ∀a b:V3,a.x.sz≤1000000→a.y.sz≤1000000→a.z.sz≤1000000→b.x.sz≤1000000→b.y.sz≤1000000→b.z.sz≤1000000→PCall P 205 [opC f,a.c,b.c] (g a b).c):
    PCall P 205 [opC f,v.c,w.c] (ofV (o2 g (toV v) (toV w))).c:=by
 cases ev:toV v with
 |none=>exact zom f v w (z6X ev) hv
 |some a=>
  cases ew:toV w with
  |none=>exact zmt f v w (zdV ev) (z6X ew) hv hw
  |some b=>
   obtain⟨x,y,z⟩:=z9H ev hv
   obtain⟨x',y',z'⟩:=z9H ew hw
   rw[zhQ ev,zhQ ew]
   exact h a b x y z x' y' z'
theorem zqJ(v w:VN)(hv:v.raw 1000000=true)(hw:w.raw 1000000=true):PCall P 205 [opC 136,v.c,w.c] (zif v w).c:=
 zqH 136 V3.pmul v w hv hw fun a b x y z x' y' z'=>znQ _ _ _ _ _ _ x y z x' y' z' (by omega) (by omega) (by omega)
theorem zpv(v:VN)(k:RN)(hv:v.raw 1000000=true)(hk:k.raw 1000000=true):PCall P 205 [opC 136,v.c,zli k k k] (zif v ⟨k,k,k⟩).c:=
 zqJ v ⟨k,k,k⟩ hv (z0o.2 ⟨hk,hk,hk⟩)
theorem zqi (a b c : Int) (ha : -9223372036854775808 ≤ a ∧ a ≤ 9223372036854775807) (hb : -9223372036854775808 ≤ b ∧ b ≤ 9223372036854775807) (hc : -9223372036854775808 ≤ c ∧ c ≤ 9223372036854775807) :
    PCall P 139 [j6 a,j6 b,j6 c] (oV a b c).c:=by rw[zbY];exact znd a b c ha hb hc
end Go.Fw
open Go IntKind
namespace Go.Fw
set_option maxRecDepth 100000
theorem zhE(v:VN)(k:RN)(s9_0:VN.raw 1000000 v=true)(s9_1:RN.raw 1000000 k=true):PCall P 142 [v.c,k.c] (zli (zif v {x:=k,y:=k,z:=k}).x (zif v {x:=k,y:=k,z:=k}).y (zif v {x:=k,y:=k,z:=k}).z):=
 j4 (.r 9 (zpv (v) (k) s9_0 s9_1) (.c (lq 30 30) .nil)) (by kernel_rfl)
theorem znt(v:VN)(s3_0 s3_1 s3_2:(-9223372036854775808:Int)≤0∧(0:Int)≤9223372036854775807):PCall P 163 [v.c] (.lit (.bool (rnB v.x (oV (0:Int) (0:Int) (0:Int)).x&&(rnB v.y (oV (0:Int) (0:Int) (0:Int)).y&&(rnB v.z (oV (0:Int) (0:Int) (0:Int)).z&&true))))):=
 j4 (.r 3 (zqi ((0:Int)) ((0:Int)) ((0:Int)) s3_0 s3_1 s3_2) .nil) (by kernel_rfl)
end Go.Fw
open Go
namespace Go.Fw
set_option maxRecDepth 100000
theorem zb7(v:VN)(k:RN):zif v ⟨k,k,k⟩=z05 v k:=by
 unfold zif z05
 cases ev:toV v with
 |none=>rfl
 |some a=>
  have e:toV ⟨k,k,k⟩=(toO k).map fun c=>⟨c,c,c⟩:=by
   unfold toV
   cases ek:toO k<;>rfl
  rw[e]
  cases ek:toO k<;>rfl
theorem zfL(v:VN)(k:RN)(hv:v.raw 1000000=true)(hk:k.raw 1000000=true):PCall P 142 [v.c,k.c] (z05 v k).c:=by
 rw[←zb7]
 exact zhE v k hv hk
noncomputable def zV(v:VN):Bool:=rnB v.x (oV 0 0 0).x&&(rnB v.y (oV 0 0 0).y&&(rnB v.z (oV 0 0 0).z&&true))
theorem z9i(v:VN):PCall P 163 [v.c] (.lit (.bool (zV v))):=znt v (by decide) (by decide) (by decide)
end Go.Fw
open Go
namespace Go.Fw
set_option maxRecDepth 100000
def plR(x y z d:RN):CV:= .agg (x.l++(y.l++(z.l++d.l)))
def zcR:CV:=plR .zero .zero .zero .zero
structure PN where
 n:VN
 d:RN
def PN.c(p:PN):CV:=plR p.n.x p.n.y p.n.z p.d
def PN.zero:PN:=⟨.zero,.zero⟩
def PN.raw(k:Nat)(p:PN):Bool:=p.n.raw k&&p.d.raw k
theorem PN.raw_iff{k:Nat}{p:PN}:p.raw k=true↔p.n.raw k=true∧p.d.raw k=true:=by unfold PN.raw;simp
theorem znO (a b c : Int) (ha : -9223372036854775808 ≤ a ∧ a ≤ 9223372036854775807) (hb : -9223372036854775808 ≤ b ∧ b ≤ 9223372036854775807) (hc : -9223372036854775808 ≤ c ∧ c ≤ 9223372036854775807) :
    PCall P 63 [j6 a,j6 b,j6 c] (oV a b c).c:=by rw[zbY];exact zhz a b c ha hb hc
end Go.Fw
open Go
namespace Go.Fw
set_option maxRecDepth 100000
theorem sgn_zero{x:K}:K.sgn x=0↔x=0:=Sg.zero x
noncomputable def X2(x y:RN):RN×Int:=match toO x,toO y with
 |some a,some b=>if K.sgn b=0 then(.zero,10)else(.ofK (K.div a b),0)
 |_,_=>(.zero,1)
theorem zml(x y:RN)(hx:x.raw 1000000=true)(hy:y.raw 1000000=true):PCall P 147 [x.c,y.c] (.tup [(X2 x y).1.c,j6 (X2 x y).2]):=by
 unfold X2
 cases ex:toO x with
 |none=>exact zit x y (z0p ex) hx
 |some k=>
  cases ey:toO y with
  |none=>exact zjW x y (z19 ex).1 (z0p ey) hx hy
  |some l=>
   have a:=z1o ex hx
   have b:=z1o ey hy
   rw[zbz (z19 ex).2,zbz (z19 ey).2]
   dsimp only
   by_cases h0:K.sgn l=0
   · rw[if_pos h0,sgn_zero.1 h0]
     exact zmq k (by simp only[Smk];omega)
   · rw[if_neg h0]
     exact zhb k l (fun h=>h0 (sgn_zero.2 h)) (by omega)
noncomputable def z8c(x:RN):RN:=if z0E x<0 then z7D x else z7D (z7D x)
end Go.Fw
open Go IntKind
namespace Go.Fw
set_option maxRecDepth 100000
theorem zmQ(x:RN)(h1:decide (z0E x<0)=true)(s3_0 s7_0:RN.raw 1000000 x=true):PCall P 157 [x.c] (RN.c (z7D x)):=
 j4 (.r 3 (z0c (x) s3_0) (.b 5 h1 (.r 7 (zar (x) s7_0) (.c (lq 10 10) .nil)))) (by kernel_rfl)
theorem zlY(x:RN)(h1:decide (z0E x<0)=false)(s3_0 s7_0:RN.raw 1000000 x=true)(s8_0:RN.raw 1000000 (z7D x)=true):PCall P 157 [x.c] (RN.c (z7D (z7D x))):=
 j4 (.r 3 (z0c (x) s3_0) (.b 5 h1 (.r 7 (zar (x) s7_0) (.r 8 (zar (z7D x) s8_0) (.c (lq 10 10) .nil))))) (by kernel_rfl)
theorem zmX(x y:RN)(s5_0:RN.raw 1000000 x=true)(s5_1:RN.raw 1000000 y=true):PCall P 156 [x.c,y.c] (RN.c (X2 x y).fst):=
 j4 (.r 5 (zml (x) (y) s5_0 s5_1) (.c (lq 10 10) (.c (lq 10 10) .nil))) (by kernel_rfl)
theorem znj(p:PN)(h1:(p.n.ok)=true)(h2:(zV p.n)=true)(s4_0:VN.raw 1000000 p.n=true):PCall P 79 [p.c] (.lit (.bool false)):=
 j4 (.r 4 ((zgZ (p.n) s4_0).eqB h1) (.r 8 ((z9i (p.n)).eqB h2) .nil)) (by kernel_rfl)
theorem zlZ(p:PN)(h1:(p.n.ok)=true)(h2:(zV p.n)=false)(h3:(p.d.ok)=true)(s4_0:VN.raw 1000000 p.n=true)(s14_0:RN.raw 1000000 p.d=true):PCall P 79 [p.c] (.lit (.bool true)):=
 j4 (.r 4 ((zgZ (p.n) s4_0).eqB h1) (.r 8 ((z9i (p.n)).eqB h2) (.r 14 ((z0V (p.d) s14_0).eqB h3) .nil))) (by kernel_rfl)
theorem zlu(p:PN)(h1:(p.n.ok)=true)(h2:(zV p.n)=false)(h3:(p.d.ok)=false)(s4_0:VN.raw 1000000 p.n=true)(s14_0:RN.raw 1000000 p.d=true):PCall P 79 [p.c] (.lit (.bool false)):=
 j4 (.r 4 ((zgZ (p.n) s4_0).eqB h1) (.r 8 ((z9i (p.n)).eqB h2) (.r 14 ((z0V (p.d) s14_0).eqB h3) .nil))) (by kernel_rfl)
theorem znB(p:PN)(h1:(p.n.ok)=false)(s4_0:VN.raw 1000000 p.n=true):PCall P 79 [p.c] (.lit (.bool false)):=
 j4 (.r 4 ((zgZ (p.n) s4_0).eqB h1) .nil) (by kernel_rfl)
end Go.Fw
open Go
namespace Go.Fw
set_option maxRecDepth 100000
theorem zho(x:RN)(hx:x.raw 1000000=true):PCall P 157 [x.c] (z8c x).c:=by
 unfold z8c
 by_cases h:z0E x<0
 · rw[if_pos h];exact zmQ x (decide_eq_true h) hx hx
 · rw[if_neg h];exact zlY x (decide_eq_false h) hx hx (z5E hx)
theorem z3i(x y:RN)(hx:x.raw 1000000=true)(hy:y.raw 1000000=true):PCall P 156 [x.c,y.c] (X2 x y).1.c:=zmX x y hx hy
noncomputable def PN.ok(p:PN):Bool:=p.n.ok&&(!zV p.n&&p.d.ok)
theorem z2x(p:PN)(hp:p.raw 1000000=true):PCall P 79 [p.c] (.lit (.bool p.ok)):=by
 obtain⟨hn,hd⟩:=PN.raw_iff.1 hp
 unfold PN.ok
 cases e1:p.n.ok
 · exact znB p e1 hn
 · cases e2:zV p.n
   · cases e3:p.d.ok
     · exact zlu p e1 e2 e3 hn hd
     · exact zlZ p e1 e2 e3 hn hd
   · exact znj p e1 e2 hn
noncomputable def oN(n:Int):RN:=ofO (toO (ofO (some (K.ofInt n))))
theorem z9B(n:Int):oN n= .ofK (K.ofInt n):=by unfold oN;rw[z9w];rfl
theorem z21(n:Int)(h: -9223372036854775808≤n∧n≤9223372036854775807):PCall P 144 [j6 n] (oN n).c:=by rw[z9B];exact z0x n h
noncomputable def z7F(x:RN):RN:=(X2 (oN 1) (z8c x)).1
noncomputable def z3b(p:PN)(x:RN):PN:=⟨z05 p.n (z7F x),W7 p.d (z7F x)⟩
end Go.Fw
open Go IntKind
namespace Go.Fw
set_option maxRecDepth 100000
theorem zp4(x y:RN)(s5_0:RN.raw 1000000 y=true)(s6_0:RN.raw 1000000 x=true)(s6_1:RN.raw 1000000 (z7D y)=true):PCall P 135 [x.c,y.c] (RN.c (z6e x (z7D y))):=
 j4 (.r 5 (zar (y) s5_0) (.r 6 (z8A (x) (z7D y) s6_0 s6_1) (.c (lq 10 10) .nil))) (by kernel_rfl)
theorem zfV:PCall P 164 [j6 4,j6 3] (.lit (.int .i64 1)):=
 j4 (.c (nz 3) (.c (nz 1) .nil)) (by kernel_rfl)
theorem zjs:PCall P 217 [.agg [.lit (.bool false),.lit (.string {data:= #[(3:UInt8)]})]] (.tup [.lit (.int .i64 3),.lit (.bool true)]):=
 j4 (.r 4 (Y3 (false) ({data:= #[(3:UInt8)]})) (.c (nn 8) (.c (bq 0 1) .nil))) (by kernel_rfl)
theorem zjj:PCall P 217 [.agg [.lit (.bool false),.lit (.string {data:= #[(4:UInt8)]})]] (.tup [.lit (.int .i64 4),.lit (.bool true)]):=
 j4 (.r 4 (Y3 (false) ({data:= #[(4:UInt8)]})) (.c (nn 8) (.c (bq 0 1) .nil))) (by kernel_rfl)
end Go.Fw
open Go
namespace Go.Fw
set_option maxRecDepth 100000
noncomputable def kN(x:K):RN:=ofO (toO (ofO (some x)))
theorem z1k(x:K):kN x= .ofK x:=by unfold kN;rw[z9w];rfl
theorem zbi(i:Int):PCall P 33 [j6 i] (kN (Y0 i)).c:=by rw[z1k];exact z8e i
theorem zaC(i:Int):PCall P 35 [j6 i] (kN (Y5 i)).c:=by rw[z1k];exact zdE i
theorem z0J(x:K):toO (kN x)=some x:=by rw[z1k];exact z9d x
theorem z11(x y:K):W7 (kN x) (kN y)=kN (x*y):=by unfold W7;rw[z0J,z0J,z1k];rfl
theorem zgU(x y:K):z6e (kN x) (kN y)=kN (x+y):=by unfold z6e;rw[z0J,z0J,z1k];rfl
theorem zh9(x y:K):z6B (kN x) (kN y)=kN (x-y):=by unfold z6B;rw[z0J,z0J,z1k];rfl
theorem z87(x:K):z7D (kN x)=kN (-x):=by unfold z7D;rw[z0J,z1k];rfl
theorem z1p(x:K):z0E (kN x)=K.sgn x:=by unfold z0E;rw[z0J]
theorem z2a(n:Int):oN n=kN (K.ofInt n):=by rw[z9B,z1k]
theorem z4N(x y:K)(h:K.sgn y≠0):(X2 (kN x) (kN y)).1=kN (K.div x y):=by
 unfold X2
 rw[z0J,z0J]
 dsimp only
 rw[if_neg h,z1k]
end Go.Fw
open Go
namespace Go.Fw
set_option maxRecDepth 100000
theorem z9U(x y:RN)(hx:x.raw 1000000=true)(hy:y.raw 1000000=true):PCall P 135 [x.c,y.c] (z6B x y).c:=by
 have h:=zp4 x y hy hx (z5E hy)
 have e:z6e x (z7D y)=z6B x y:=by unfold z6e z6B;rw[zeF,zqq]
 rw[e]at h
 exact h
def k34:K:=⟨3,0,0,0,4,by decide,by decide⟩
def k54:K:=⟨5,0,0,0,4,by decide,by decide⟩
theorem zrL:PCall P 217 [.agg [.lit (.bool (kN k34).b0),.lit (.string (kN k34).s0)]] (.tup [j6 3,.lit (.bool true)]):=by
 rw[z1k,show(RN.ofK k34).s0=⟨#[3]⟩ by kernel_rfl]
 exact zjs
theorem zri:PCall P 217 [.agg [.lit (.bool (kN k34).b4),.lit (.string (kN k34).s4)]] (.tup [j6 4,.lit (.bool true)]):=by
 rw[z1k,show(RN.ofK k34).s4=⟨#[4]⟩ by kernel_rfl]
 exact zjj
end Go.Fw
open Go IntKind
namespace Go.Fw
set_option maxRecDepth 100000
theorem zj2(x y:RN)(g1:(z0E (z6B (W7 x (kN (Y5 (0:Int)))) (W7 y (kN (Y0 (0:Int)))))==0)=true)(g2:decide (z0E (z6e (W7 x (kN (Y0 (0:Int)))) (W7 y (kN (Y5 (0:Int)))))>0)=true)(s21_0:RN.raw 1000000 x=true)(s21_1:RN.raw 1000000 (kN (Y5 (0:Int)))=true)(s24_0:RN.raw 1000000 y=true)(s24_1:RN.raw 1000000 (kN (Y0 (0:Int)))=true)(s25_0:RN.raw 1000000 (W7 x (kN (Y5 (0:Int))))=true)(s25_1:RN.raw 1000000 (W7 y (kN (Y0 (0:Int))))=true)(s30_0:RN.raw 1000000 x=true)(s30_1:RN.raw 1000000 (kN (Y0 (0:Int)))=true)(s33_0:RN.raw 1000000 y=true)(s33_1:RN.raw 1000000 (kN (Y5 (0:Int)))=true)(s34_0:RN.raw 1000000 (W7 x (kN (Y0 (0:Int))))=true)(s34_1:RN.raw 1000000 (W7 y (kN (Y5 (0:Int))))=true)(s38_0:RN.raw 1000000 (z6B (W7 x (kN (Y5 (0:Int)))) (W7 y (kN (Y0 (0:Int)))))=true)(s42_0:RN.raw 1000000 (z6e (W7 x (kN (Y0 (0:Int)))) (W7 y (kN (Y5 (0:Int)))))=true):PCall P 158 [x.c,y.c] (.tup [.lit (.int .i64 0),RN.c (z6e (W7 x (kN (Y0 (0:Int)))) (W7 y (kN (Y5 (0:Int))))),.lit (.bool true)]):=
 j4 (.r 12 (zbi ((0:Int))) (.r 14 (zaC ((0:Int))) (.c (lq 10 10) (.c (lq 10 10) (.r 21 (z0g (x) (kN (Y5 (0:Int))) s21_0 s21_1) (.r 24 (z0g (y) (kN (Y0 (0:Int))) s24_0 s24_1) (.r 25 (z9U (W7 x (kN (Y5 (0:Int)))) (W7 y (kN (Y0 (0:Int)))) s25_0 s25_1) (.c (lq 10 10) (.r 30 (z0g (x) (kN (Y0 (0:Int))) s30_0 s30_1) (.r 33 (z0g (y) (kN (Y5 (0:Int))) s33_0 s33_1) (.r 34 (z8A (W7 x (kN (Y0 (0:Int)))) (W7 y (kN (Y5 (0:Int)))) s34_0 s34_1) (.c (lq 10 10) (.r 38 (z0c (z6B (W7 x (kN (Y5 (0:Int)))) (W7 y (kN (Y0 (0:Int))))) s38_0) (.b 40 g1 (.r 42 (z0c (z6e (W7 x (kN (Y0 (0:Int)))) (W7 y (kN (Y5 (0:Int))))) s42_0) (.b 45 g2 (.c (lq 10 10) .nil))))))))))))))))) (by kernel_rfl)
theorem zjO(x:K)(h1:((bytesOf x.c1.natAbs).toList==[])=true)(h2:((bytesOf x.c2.natAbs).toList==[])=true)(s3_0:Smk x):PCall P 218 [Y6 x] (.lit (.bool ((bytesOf x.c3.natAbs).toList==[]))):=
 j4 (.r 3 (U5 (x) s3_0) (.c (bq 1 4) (.b 11 h1 (.c (bq 2 4) (.b 18 h2 (.c (bq 3 4) .nil)))))) (by kernel_rfl)
theorem zlQ:PCall P 81 [.agg [j6 4,j6 3,j6 0]] (.lit (.bool true)):=
 j4 (.r 29 (zfV) .nil) (by kernel_rfl)
end Go.Fw
open Go
namespace Go.Fw
set_option maxRecDepth 100000
theorem zgB:FCall P 195 [Z9 (bytesOf 3)] (.sl 0 0 1 1) [j6 3]:=z1F (bytesOf 3) (by decide)
theorem zfb:FCall P 195 [Z9 (bytesOf 5)] (.sl 0 0 1 1) [j6 5]:=z1F (bytesOf 5) (by decide)
theorem p3S:PCall P 183 [.agg [.lit (.bool false),Z9 (bytesOf 3)]] (j6 1):=Q9 3
theorem p5S:PCall P 183 [.agg [.lit (.bool false),Z9 (bytesOf 5)]] (j6 1):=Q9 5
theorem p3G:PCall P 184 [.agg [.lit (.bool false),Z9 (bytesOf 3)],.agg [.lit (.bool false),Z9 (bytesOf 4)]] (.agg [.lit (.bool false),Z9 (bytesOf 1)]):=zdB 3 4 (by decide) (by decide)
theorem p5G:PCall P 184 [.agg [.lit (.bool false),Z9 (bytesOf 5)],.agg [.lit (.bool false),Z9 (bytesOf 4)]] (.agg [.lit (.bool false),Z9 (bytesOf 1)]):=zdB 5 4 (by decide) (by decide)
theorem p3A:PCall P 186 [.agg [.lit (.bool false),Z9 (bytesOf 3)]] (.agg [.lit (.bool false),Z9 (bytesOf 3)]):=z2P 3
theorem p5A:PCall P 186 [.agg [.lit (.bool false),Z9 (bytesOf 5)]] (.agg [.lit (.bool false),Z9 (bytesOf 5)]):=z2P 5
theorem p3O:PCall P 185 [.agg [.lit (.bool false),Z9 (bytesOf 3)],.agg [.lit (.bool false),Z9 (bytesOf 1)]] (.agg [.lit (.bool false),Z9 (bytesOf 3)]):=z8W 3 1 (by decide) (by decide) (by decide) (by decide)
theorem p5O:PCall P 185 [.agg [.lit (.bool false),Z9 (bytesOf 5)],.agg [.lit (.bool false),Z9 (bytesOf 1)]] (.agg [.lit (.bool false),Z9 (bytesOf 5)]):=z8W 5 1 (by decide) (by decide) (by decide) (by decide)
end Go.Fw
open Go IntKind
namespace Go.Fw
set_option maxRecDepth 100000
theorem RPr3_p1:PCall P 187 [.agg [.lit (.bool false),Z9 (bytesOf 3)]] (.lit (.string (Utf8.encode (51:Int)++{data:= #[]}))):=
 j4 (.c (J2 (false) (bytesOf 3)) (.c (zgB) (.c (bq 0 1) (.c (nz 10) (.c (bq 0 1) (.c (lq 1 1) (.c (nz 10) (.c (zcg) (.c (show BlksCv [some [.cv (.lit (.int .i64 0))],some [.cv (.lit (.int .i64 0))]]from(by simp[BlksCv,zca])) (.c (show(1:Int)≤9223372036854775807 from by decide) (.o 3 (.r (.lit (.bool true))) (.o 14 (.f (.sl 0 0 1 1) [j6 3]) (.o 56 (.m [2] (.sl 0 0 0 1) [some [.cv (j6 0)]]) .nil))))))))))))) (by kernel_rfl)
theorem RPr5_p1:PCall P 187 [.agg [.lit (.bool false),Z9 (bytesOf 5)]] (.lit (.string (Utf8.encode (53:Int)++{data:= #[]}))):=
 j4 (.c (J2 (false) (bytesOf 5)) (.c (zfb) (.c (bq 0 1) (.c (nz 10) (.c (bq 0 1) (.c (lq 1 1) (.c (nz 10) (.c (zcg) (.c (show BlksCv [some [.cv (.lit (.int .i64 0))],some [.cv (.lit (.int .i64 0))]]from(by simp[BlksCv,zca])) (.c (show(1:Int)≤9223372036854775807 from by decide) (.o 3 (.r (.lit (.bool true))) (.o 14 (.f (.sl 0 0 1 1) [j6 5]) (.o 56 (.m [2] (.sl 0 0 0 1) [some [.cv (j6 0)]]) .nil))))))))))))) (by kernel_rfl)
theorem zhp:PCall P 188 [j6 0] (.lit (.string {data:= #[]})):=
 j4 (.c (bq 0 4) .nil) (by kernel_rfl)
end Go.Fw
open Go
namespace Go.Fw
set_option maxRecDepth 100000
theorem p3P:PCall P 187 [.agg [.lit (.bool false),Z9 (bytesOf 3)]] (Z9 ⟨#[51]⟩):=RPr3_p1.eq (by kernel_rfl)
theorem p5P:PCall P 187 [.agg [.lit (.bool false),Z9 (bytesOf 5)]] (Z9 ⟨#[53]⟩):=RPr5_p1.eq (by kernel_rfl)
theorem znX:k34.sz≤1000:=of_decide_eq_true (by kernel_rfl)
theorem zqA:k54.sz≤1000:=of_decide_eq_true (by kernel_rfl)
theorem zrM:PCall P 124 [n5C 3 0 0 0 4] (.lit (.bool true)):=z1H k34 (by have:=znX;omega)
theorem zrr:PCall P 124 [n5C 5 0 0 0 4] (.lit (.bool true)):=z1H k54 (by have:=zqA;omega)
end Go.Fw
open Go
namespace Go.Fw
set_option maxRecDepth 100000
theorem z2s{x:K}{n:Nat}(h:x.sz≤n):(kN x).raw n=true:=by rw[z1k];exact RN.ofK_raw x h
theorem z0K{z:Int}{n:Nat}(h:(K.ofInt z).sz≤n):(oN z).raw n=true:=by rw[z2a];exact z2s h
theorem zp1:(Y0 0).sz≤10:=of_decide_eq_true (by kernel_rfl)
theorem znW:(Y5 0).sz≤10:=of_decide_eq_true (by kernel_rfl)
theorem zqt:(K.ofInt 0).sz≤10:=of_decide_eq_true (by kernel_rfl)
theorem zpQ:(K.ofInt 1).sz≤10:=of_decide_eq_true (by kernel_rfl)
theorem zrs:(K.ofInt 3).sz≤10:=of_decide_eq_true (by kernel_rfl)
theorem zpW:(K.ofInt 4).sz≤10:=of_decide_eq_true (by kernel_rfl)
theorem zqc:(K.ofInt 5).sz≤10:=of_decide_eq_true (by kernel_rfl)
theorem zqD:PCall P 218 [(kN k34).c] (.lit (.bool true)):=by
 have h:=zjO k34 (by kernel_rfl) (by kernel_rfl) (by have:=znX;simp only[Smk];omega)
 rw[show((bytesOf k34.c3.natAbs).toList==[])=true by kernel_rfl]at h
 rw[z1k]
 exact h
theorem zpZ:PCall P 156 [(kN k34).c,(oN 1).c] (kN k34).c:=by
 have h:=z3i (kN k34) (oN 1) (z2s (Nat.le_trans znX (by decide))) (z0K (Nat.le_trans zpQ (by decide)))
 rw[z2a,z4N _ _ (by rw[show K.sgn (K.ofInt 1)=1 by kernel_rfl];decide),show K.div k34 (K.ofInt 1)=k34 by kernel_rfl]at h
 rw[z2a];exact h
theorem zqS:PCall P 136 [(kN k54).c,(oN 4).c] (oN 5).c:=by
 have h:=z0g (kN k54) (oN 4) (z2s (Nat.le_trans zqA (by decide))) (z0K (Nat.le_trans zpW (by decide)))
 rw[z2a,z11,show k54*K.ofInt 4=K.ofInt 5 by kernel_rfl,←z2a,←z2a]at h
 exact h
theorem zrq:PCall P 156 [(oN 5).c,(oN 1).c] (oN 5).c:=by
 have h:=z3i (oN 5) (oN 1) (z0K (Nat.le_trans zqc (by decide))) (z0K (Nat.le_trans zpQ (by decide)))
 rw[z2a,z2a,z4N _ _ (by rw[show K.sgn (K.ofInt 1)=1 by kernel_rfl];decide),show K.div (K.ofInt 5) (K.ofInt 1)=K.ofInt 5 by kernel_rfl]at h
 rw[z2a,z2a];exact h
theorem zqB:PCall P 136 [(oN 4).c,(kN (Y0 0)).c] (oN 4).c:=by
 have h:=z0g (oN 4) (kN (Y0 0)) (z0K (Nat.le_trans zpW (by decide))) (z2s (Nat.le_trans zp1 (by decide)))
 rw[z2a,z11,show K.ofInt 4*Y0 0=K.ofInt 4 by kernel_rfl,←z2a]at h
 exact h
theorem zqs:PCall P 136 [(oN 4).c,(kN (Y5 0)).c] (oN 0).c:=by
 have h:=z0g (oN 4) (kN (Y5 0)) (z0K (Nat.le_trans zpW (by decide))) (z2s (Nat.le_trans znW (by decide)))
 rw[z2a,z11,show K.ofInt 4*Y5 0=K.ofInt 0 by kernel_rfl,←z2a,←z2a]at h
 exact h
theorem zcG:z6e (W7 (oN 1) (kN (Y0 0))) (W7 (oN 0) (kN (Y5 0)))=oN 1:=by
 rw[z2a,z2a,z11,z11,zgU,show K.ofInt 1*Y0 0+K.ofInt 0*Y5 0=K.ofInt 1 by kernel_rfl]
theorem zhn:z6B (W7 (oN 1) (kN (Y5 0))) (W7 (oN 0) (kN (Y0 0)))=oN 0:=by
 rw[z2a,z2a,z11,z11,zh9,show K.ofInt 1*Y5 0-K.ofInt 0*Y0 0=K.ofInt 0 by kernel_rfl]
theorem zoD(z:Int):z0E (oN z)=K.sgn (K.ofInt z):=by rw[z2a,z1p]
theorem zqj:PCall P 158 [(oN 1).c,(oN 0).c] (.tup [j6 0,(oN 1).c,.lit (.bool true)]):=by
 have r1:=z0K (n:=10) zpQ
 have r0:=z0K (n:=10) zqt
 have c:=z2s (n:=10) zp1
 have s:=z2s (n:=10) znW
 have big: ∀{x:RN} {n:Nat},x.raw n=true→n≤1000000→x.raw 1000000=true:=fun h hn=>RN.raw_mono h hn
 have h:=zj2 (oN 1) (oN 0) (by rw[zhn,zoD];kernel_rfl) (by rw[zcG,zoD];kernel_rfl) (big r1 (by decide)) (big s (by decide)) (big r0 (by decide)) (big c (by decide)) (big (z0r r1 s) (by decide)) (big (z0r r0 c) (by decide))
  (big r1 (by decide)) (big c (by decide)) (big r0 (by decide)) (big s (by decide)) (big (z0r r1 c) (by decide)) (big (z0r r0 s) (by decide)) (by rw[zhn];exact big r0 (by decide)) (by rw[zcG];exact big r1 (by decide))
 rw[zcG]at h
 exact h
noncomputable def aP:PN:=⟨⟨oN 4,oN 0,oN 3⟩,oN 5⟩
noncomputable def cP:PN:=⟨⟨oN 1,oN 0,kN k34⟩,kN k54⟩
end Go.Fw
open Go IntKind
namespace Go.Fw
set_option maxRecDepth 100000
theorem zmI:PCall P 159 [(kN k34).c] (.tup [.lit (.int .i64 3),.lit (.int .i64 4),.lit (.bool true)]):=
 j4 (.c (bq 0 4) (.r 7 (zrL) (.r 15 (zri) (.r 29 (zqD) .nil)))) (by kernel_rfl)
theorem zjK(h1:((oN (5:Int)).ok)=true)(s5_0:RN.raw 1000000 (oN (5:Int))=true)(s16_0:(-9223372036854775808:Int)≤4∧(4:Int)≤9223372036854775807)(s31_0:(-9223372036854775808:Int)≤3∧(3:Int)≤9223372036854775807):PCall P 75 [.agg [j6 4,j6 3,j6 0],(oN (5:Int)).c] (.tup [plR (oN (4:Int)) (oN (0:Int)) (oN (3:Int)) (oN (5:Int)),.lit (.int .i64 0)]):=
 j4 (.r 5 ((z0V (oN (5:Int)) s5_0).eqB h1) (.r 10 (zlQ) (.r 16 (z21 ((4:Int)) s16_0) (.c (lq 10 10) (.r 22 (zbi ((0:Int))) (.r 23 (zqB) (.r 27 (zaC ((0:Int))) (.r 28 (zqs) (.r 31 (z21 ((3:Int)) s31_0) (.c (lq 30 30) (.c (lq 40 40) .nil))))))))))) (by kernel_rfl)
end Go.Fw
