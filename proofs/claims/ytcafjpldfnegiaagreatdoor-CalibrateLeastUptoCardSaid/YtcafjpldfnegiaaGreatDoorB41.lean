/- A part of the proof that the law returns true for every input: an executor for the model's code, and what functions of the program compute. -/
import Derived.Test.YtcafjpldfnegiaaGreatDoorB05
import Derived.Test.YtcafjpldfnegiaaGreatDoorB10
import Derived.Test.YtcafjpldfnegiaaGreatDoorB11
import Derived.Test.YtcafjpldfnegiaaGreatDoorB15
import Derived.Test.YtcafjpldfnegiaaGreatDoorB28
import Derived.Test.YtcafjpldfnegiaaGreatDoorB38
import Derived.Test.YtcafjpldfnegiaaGreatDoorB39
import Derived.Test.YtcafjpldfnegiaaGreatDoorB40
import Derived.RangeFuncNested
import Derived.RangeFuncBound
import Derived.RangeFuncCalls
import Derived.RangeFuncLeaves
import Derived.Shelf.Abstract
import Derived.Shelf.RegionOpen
import Derived.WalkKit
import Derived.OwnWalkIn
import Derived.TacticsInMore
import Derived.LoopNIn
import Derived.LoopIn
import Derived.KernelRfl
import Derived.OrdersIn
open Go Go.RowKit Go.Shelf Go.Proofs
namespace Go.Fw
attribute [local go_sem] Oper.semAt_some
set_option maxRecDepth 100000
set_option maxHeartbeats 1000000
theorem zkV (F : Fence) (n : Nat) (h : F.fn 212) (hro : F.round = none) (a : Array Value) (w : World) :
    CallsIn F n Tryz.prog 212 #[.agg a] w fun e w'=>e= .returned (.func (.func 247) #[] #[.pointer (some ⟨w.heap.size,0,none⟩)])∧w'=w.alloc (.cells a 51):=by
 refine callsIn_of_wp Tryz.func212 rfl h ?_ hro
 simp only[Tryz.ntmps212,List.size_toArray,List.length_cons,List.length_nil,Nat.reduceAdd,Nat.reduceSub,Array.replicate_succ,Array.replicate_zero,List.push_toArray,List.append_toArray,List.nil_append,List.cons_append]
 gi_wp2
 go_ret
 exact⟨rfl,rfl⟩
theorem Z6{w:World}{b k:Nat}{c:Array Value}{T:TypeId}{fz:Nat×Nat}{v:Value}(h:w.heap[b]?=some (.cells c T fz))(hv:c[k]?=some v):w.cell? ⟨b,k,none⟩=some v:=by
 rw[cell_of_row w b k c T fz h]
 simpa using hv
theorem z8N (x0 x1 x2 x3 x4 x5 x6 x7 x8 x9 y0 y1 y2 y3 y4 y5 y6 y7 y8 y9 z0 z1 z2 z3 z4 z5 z6 z7 z8 z9 : Value) (w : World) :
    (Instr.index 166 (.agg #[x0,x1,x2,x3,x4,x5,x6,x7,x8,x9,y0,y1,y2,y3,y4,y5,y6,y7,y8,y9,z0,z1,z2,z3,z4,z5,z6,z7,z8,z9]) (.int .i64 0)).run Tryz.prog w= .ok (.agg #[x0,x1,x2,x3,x4,x5,x6,x7,x8,x9]) w∧
    (Instr.index 166 (.agg #[x0,x1,x2,x3,x4,x5,x6,x7,x8,x9,y0,y1,y2,y3,y4,y5,y6,y7,y8,y9,z0,z1,z2,z3,z4,z5,z6,z7,z8,z9]) (.int .i64 1)).run Tryz.prog w= .ok (.agg #[y0,y1,y2,y3,y4,y5,y6,y7,y8,y9]) w∧
    (Instr.index 166 (.agg #[x0,x1,x2,x3,x4,x5,x6,x7,x8,x9,y0,y1,y2,y3,y4,y5,y6,y7,y8,y9,z0,z1,z2,z3,z4,z5,z6,z7,z8,z9]) (.int .i64 2)).run Tryz.prog w= .ok (.agg #[z0,z1,z2,z3,z4,z5,z6,z7,z8,z9]) w:=by
 refine⟨?_,?_,?_⟩<;>simp[Instr.index,asIntOf,run_underlying Tryz.underlying166,Tryz.sizeOf39,part,isAgg,run_underlying Tryz.underlying39]
theorem zea {α : Type} (enc : α → Array Value) (u0 u1 u2 : α) (F : Fence) (n : Nat) (h : F.fn 247) (hro : F.round = none) (hn : 1 ≤ n) (Bn n₀ : Nat) (x0 : Bool) (x1 : ByteArray) (x2 : Bool) (x3 : ByteArray) (x4 : Bool) (x5 : ByteArray) (x6 : Bool) (x7 : ByteArray) (x8 : Bool) (x9 : ByteArray) (y0 : Bool) (y1 : ByteArray) (y2 : Bool) (y3 : ByteArray) (y4 : Bool) (y5 : ByteArray) (y6 : Bool) (y7 : ByteArray) (y8 : Bool) (y9 : ByteArray) (z0 : Bool) (z1 : ByteArray) (z2 : Bool) (z3 : ByteArray) (z4 : Bool) (z5 : ByteArray) (z6 : Bool) (z7 : ByteArray) (z8 : Bool) (z9 : ByteArray) (w : World) (hBn : Bn < w.heap.size)
    (hc:w.heap[Bn]?=some (.cells #[.bool x0,.string x1,.bool x2,.string x3,.bool x4,.string x5,.bool x6,.string x7,.bool x8,.string x9,.bool y0,.string y1,.bool y2,.string y3,.bool y4,.string y5,.bool y6,.string y7,.bool y8,.string y9,.bool z0,.string z1,.bool z2,.string z3,.bool z4,.string z5,.bool z6,.string z7,.bool z8,.string z9] 51 (0,0)))
    (e0:enc u0= #[.int .i64 0,.agg #[.bool x0,.string x1,.bool x2,.string x3,.bool x4,.string x5,.bool x6,.string x7,.bool x8,.string x9]]) (e1:enc u1= #[.int .i64 1,.agg #[.bool y0,.string y1,.bool y2,.string y3,.bool y4,.string y5,.bool y6,.string y7,.bool y8,.string y9]]) (e2:enc u2= #[.int .i64 2,.agg #[.bool z0,.string z1,.bool z2,.string z3,.bool z4,.string z5,.bool z6,.string z7,.bool z8,.string z9]]):
    SeqStopsK F n Tryz.prog 247 #[.pointer (some ⟨Bn,0,none⟩)] enc (Below n₀) (fun ys=>ys=[u0,u1,u2]) (fun pre=>pre<+:[u0,u1,u2]) 3 w:=fun l J Jx W hW hJ hJx hY h0=>by
 refine callsIn_of_wp Tryz.func247 rfl h ?_ hro
 simp only[Tryz.ntmps247,List.size_toArray,List.length_cons,List.length_nil,Nat.reduceAdd,Nat.reduceSub,Array.replicate_succ,Array.replicate_zero,List.push_toArray,List.append_toArray,List.nil_append,List.cons_append]
 have hb:=(hW.block Bn hBn).trans hc
 have c0:=Z6 (k:=0) hb rfl
 have c1:=Z6 (k:=1) hb rfl
 have c2:=Z6 (k:=2) hb rfl
 have c3:=Z6 (k:=3) hb rfl
 have c4:=Z6 (k:=4) hb rfl
 have c5:=Z6 (k:=5) hb rfl
 have c6:=Z6 (k:=6) hb rfl
 have c7:=Z6 (k:=7) hb rfl
 have c8:=Z6 (k:=8) hb rfl
 have c9:=Z6 (k:=9) hb rfl
 have c10:=Z6 (k:=10) hb rfl
 have c11:=Z6 (k:=11) hb rfl
 have c12:=Z6 (k:=12) hb rfl
 have c13:=Z6 (k:=13) hb rfl
 have c14:=Z6 (k:=14) hb rfl
 have c15:=Z6 (k:=15) hb rfl
 have c16:=Z6 (k:=16) hb rfl
 have c17:=Z6 (k:=17) hb rfl
 have c18:=Z6 (k:=18) hb rfl
 have c19:=Z6 (k:=19) hb rfl
 have c20:=Z6 (k:=20) hb rfl
 have c21:=Z6 (k:=21) hb rfl
 have c22:=Z6 (k:=22) hb rfl
 have c23:=Z6 (k:=23) hb rfl
 have c24:=Z6 (k:=24) hb rfl
 have c25:=Z6 (k:=25) hb rfl
 have c26:=Z6 (k:=26) hb rfl
 have c27:=Z6 (k:=27) hb rfl
 have c28:=Z6 (k:=28) hb rfl
 have c29:=Z6 (k:=29) hb rfl
 gi_wp2
 gi_loopw [12] (fun p wr=>(p= .int .i64 0∧J [] wr)∨(p= .int .i64 1∧J [u0] wr)∨(p= .int .i64 2∧J [u0,u1] wr)∨(p= .int .i64 3∧J [u0,u1,u2] wr)) (fun p wr=>3-(intOf p).toNat)
 case atStart=>
  exact .inl ⟨rfl,h0⟩
 case round=>
  rcases hrel with⟨rfl,hJs⟩|⟨rfl,hJs⟩|⟨rfl,hJs⟩|⟨rfl,hJs⟩
  · obtain⟨fn,tmps,assign,body,hy,hR⟩:=hY [] u0 (wr.alloc (.cells #[.bool x0,.string x1,.bool x2,.string x3,.bool x4,.string x5,.bool x6,.string x7,.bool x8,.string x9] 39)) (hJ _ wr _ none hJs (World.grownBy_alloc wr _ none) (fun r e=>by cases e)) (by simp)
    rw[e0]at hy
    obtain⟨i0,i1,i2⟩:=z8N (.bool x0) (.string x1) (.bool x2) (.string x3) (.bool x4) (.string x5) (.bool x6) (.string x7) (.bool x8) (.string x9) (.bool y0) (.string y1) (.bool y2) (.string y3) (.bool y4) (.string y5) (.bool y6) (.string y7) (.bool y8) (.string y9) (.bool z0) (.string z1) (.bool z2) (.string z3) (.bool z4) (.string z5) (.bool z6) (.string z7) (.bool z8) (.string z9) wr
    gi_wp2_with (rw[i0])
    refine hR.mono ?_
    rintro e W3 (⟨rfl,hJ3,hk3⟩|⟨rfl,hJx3⟩)
    · gi_wp2
      go_roundw
      case rel=>exact .inr (.inl ⟨rfl,hJ3⟩)
      case measure=>simp[intOf]
    · gi_wp2
      refine bodyPost_ret (results_none rfl _ _ _) rfl ?_
      exact⟨⟨_,rfl⟩,.inr ⟨_,by simp,hJx3⟩⟩
  · obtain⟨fn,tmps,assign,body,hy,hR⟩:=hY [u0] u1 (wr.alloc (.cells #[.bool y0,.string y1,.bool y2,.string y3,.bool y4,.string y5,.bool y6,.string y7,.bool y8,.string y9] 39)) (hJ _ wr _ none hJs (World.grownBy_alloc wr _ none) (fun r e=>by cases e)) (by simp)
    rw[e1]at hy
    obtain⟨i0,i1,i2⟩:=z8N (.bool x0) (.string x1) (.bool x2) (.string x3) (.bool x4) (.string x5) (.bool x6) (.string x7) (.bool x8) (.string x9) (.bool y0) (.string y1) (.bool y2) (.string y3) (.bool y4) (.string y5) (.bool y6) (.string y7) (.bool y8) (.string y9) (.bool z0) (.string z1) (.bool z2) (.string z3) (.bool z4) (.string z5) (.bool z6) (.string z7) (.bool z8) (.string z9) wr
    gi_wp2_with (rw[i1])
    refine hR.mono ?_
    rintro e W3 (⟨rfl,hJ3,hk3⟩|⟨rfl,hJx3⟩)
    · gi_wp2
      go_roundw
      case rel=>exact .inr (.inr (.inl ⟨rfl,hJ3⟩))
      case measure=>simp[intOf]
    · gi_wp2
      refine bodyPost_ret (results_none rfl _ _ _) rfl ?_
      exact⟨⟨_,rfl⟩,.inr ⟨_,by simp,hJx3⟩⟩
  · obtain⟨fn,tmps,assign,body,hy,hR⟩:=hY [u0,u1] u2 (wr.alloc (.cells #[.bool z0,.string z1,.bool z2,.string z3,.bool z4,.string z5,.bool z6,.string z7,.bool z8,.string z9] 39)) (hJ _ wr _ none hJs (World.grownBy_alloc wr _ none) (fun r e=>by cases e)) (by simp)
    rw[e2]at hy
    obtain⟨i0,i1,i2⟩:=z8N (.bool x0) (.string x1) (.bool x2) (.string x3) (.bool x4) (.string x5) (.bool x6) (.string x7) (.bool x8) (.string x9) (.bool y0) (.string y1) (.bool y2) (.string y3) (.bool y4) (.string y5) (.bool y6) (.string y7) (.bool y8) (.string y9) (.bool z0) (.string z1) (.bool z2) (.string z3) (.bool z4) (.string z5) (.bool z6) (.string z7) (.bool z8) (.string z9) wr
    gi_wp2_with (rw[i2])
    refine hR.mono ?_
    rintro e W3 (⟨rfl,hJ3,hk3⟩|⟨rfl,hJx3⟩)
    · gi_wp2
      go_roundw
      case rel=>exact .inr (.inr (.inr ⟨rfl,hJ3⟩))
      case measure=>simp[intOf]
    · gi_wp2
      refine bodyPost_ret (results_none rfl _ _ _) rfl ?_
      exact⟨⟨_,rfl⟩,.inr ⟨_,by simp,hJx3⟩⟩
  · gi_wp2
    go_end0
    exact⟨⟨_,rfl⟩,.inl ⟨_,rfl,hJs⟩⟩
end Go.Fw
open Go Go.RowKit Go.Shelf Go.Proofs
namespace Go.Fw
attribute [local go_sem] Oper.semAt_some
set_option maxRecDepth 100000
set_option maxHeartbeats 1000000
def RN.a(x:RN):Array Value:= #[.bool x.b0,.string x.s0,.bool x.b1,.string x.s1,.bool x.b2,.string x.s2,.bool x.b3,.string x.s3,.bool x.b4,.string x.s4]
theorem zaU(Im:Imm)(l:List Value):CV.repL Im (l.map .lit) l:=by
 induction l with
 |nil=>rfl
 |cons x xs ih=>exact⟨x,xs,rfl,rfl,ih⟩
theorem z4z{Im:Imm}: ∀{l k:List Value},CV.repL Im (l.map .lit) k→k=l
 | [],_,h=>h
 |_::_,_,⟨_,_,e,h1,h2⟩=>by rw[e,show _=_ from h1,z4z h2]
theorem PCall.num{f:FuncId}{x:RN}{v:Value}(h:PCall P f [.agg x.l] (.lit v))(w:World):Calls P f #[.agg x.a] w fun e w'=>e= .returned v∧Below w.heap.size w w':=by
 refine(h (fun _=>none) w #[.agg x.a] (fun b cs hb=>by cases hb) ⟨_,_,rfl,⟨_,rfl,?_⟩,rfl⟩).mono ?_
 · exact zaU _ [.bool x.b0,.string x.s0,.bool x.b1,.string x.s1,.bool x.b2,.string x.s2,.bool x.b3,.string x.s3,.bool x.b4,.string x.s4]
 · rintro e w' ⟨y,v',I,rfl,rfl,hr,_,_,hb,_⟩
   exact⟨by rw[show y=v from hr],hb⟩
theorem z5e{W W':World}(h:Below W.heap.size W W')(B:Nat):KeepsFrom B W W':=⟨h.size,fun _ _ _ hk _=>(h.block _ (Array.getElem?_eq_some_iff.1 hk).1).trans hk⟩
theorem zcj{β:Type}(n B:Nat)(c:β→Array Value)(T:TypeId):OwnFrom n (fun(s:β) W=>W.heap[B]?=some (.cells (c s) T (0,0))):=fun _ _ _ _ hs hg hr=>
 (hg.block B (Array.getElem?_eq_some_iff.1 hs).1 (fun e=>by obtain⟨_,o,ho,hc⟩:=hr B e.symm;rw[hs]at ho;cases ho;cases hc)).trans hs
abbrev RNS:={x:RN//x.raw 1000000=true}
abbrev enR(p:Nat×RNS):Array Value:= #[.int .i64 p.1,.agg p.2.1.a]
theorem z8M:Tryz.prog.cellsOf 39=10:=by kernel_rfl
theorem zcu:Tryz.prog.cellsOf 51=30:=by kernel_rfl
theorem zmB: ∃i,Tryz.prog.info? 39=some i:=Option.isSome_iff_exists.1 (by kernel_rfl)
theorem RN.a_one(x:RN): ∀v∈x.a.toList,v.oneCell'=true:=by
 intro v hv
 simp only[RN.a,List.mem_cons,List.not_mem_nil,or_false]at hv
 rcases hv with rfl|rfl|rfl|rfl|rfl|rfl|rfl|rfl|rfl|rfl<;>rfl
theorem zek(x:RN)(w:World)(c:Array Value)(hc:c.size=10):(Instr.storeAt 39 (.pointer (some ⟨w.heap.size,0,none⟩)) (.agg x.a)).run Tryz.prog (w.alloc (.cells c 39))= .ok () (w.alloc (.cells x.a 39)):=by
 obtain⟨i,hi⟩:=zmB
 exact z7X hi (by rw[z8M];rfl) hc x.a_one
theorem zes{x:RN}{w:World}{b:Nat}(h:w.heap[b]?=some (.cells x.a 39 (0,0))):(Instr.loadAt 39 (.pointer (some ⟨b,0,none⟩))).run Tryz.prog w= .ok (.agg x.a) w:=
 z9S Tryz.underlying39 h (by rw[z8M];rfl) (by rw[z8M];rfl)
theorem zfP{v:Array Value}(hv:v.size=30){w:World}{b:Nat}(h:w.heap[b]?=some (.cells v 51 (0,0))):(Instr.loadAt 51 (.pointer (some ⟨b,0,none⟩))).run Tryz.prog w= .ok (.agg v) w:=
 z9S Tryz.underlying51 h (by rw[zcu,List.drop_zero,List.take_of_length_le (by simp;omega)]) (by rw[zcu,hv])
theorem zkm (F : Fence) (n : Nat) (h1 : F.fn 148) (h2 : F.fn 212) (h3 : F.fn 247) (h4 : F.fn 154) (hro : F.round = none) (hn : 6 ≤ n)
    (hV: ∀(m:Nat) (x:RNS) (W:World),CallsIn F m Tryz.prog 154 #[.agg x.1.a] W fun e W'=>e= .returned (.bool x.1.ok)∧Below W.heap.size W W')
    (x0:Bool) (x1:ByteArray) (x2:Bool) (x3:ByteArray) (x4:Bool) (x5:ByteArray) (x6:Bool) (x7:ByteArray) (x8:Bool) (x9:ByteArray) (y0:Bool) (y1:ByteArray) (y2:Bool) (y3:ByteArray) (y4:Bool) (y5:ByteArray) (y6:Bool) (y7:ByteArray) (y8:Bool) (y9:ByteArray) (z0:Bool) (z1:ByteArray) (z2:Bool) (z3:ByteArray) (z4:Bool) (z5:ByteArray) (z6:Bool) (z7:ByteArray) (z8:Bool) (z9:ByteArray) (hx:RN.raw 1000000 ⟨x0,x1,x2,x3,x4,x5,x6,x7,x8,x9⟩=true) (hy:RN.raw 1000000 ⟨y0,y1,y2,y3,y4,y5,y6,y7,y8,y9⟩=true) (hz:RN.raw 1000000 ⟨z0,z1,z2,z3,z4,z5,z6,z7,z8,z9⟩=true) (v:Array Value) (hv:v.toList=[.bool x0,.string x1,.bool x2,.string x3,.bool x4,.string x5,.bool x6,.string x7,.bool x8,.string x9,.bool y0,.string y1,.bool y2,.string y3,.bool y4,.string y5,.bool y6,.string y7,.bool y8,.string y9,.bool z0,.string z1,.bool z2,.string z3,.bool z4,.string z5,.bool z6,.string z7,.bool z8,.string z9]) (w:World):
    CallsIn F n Tryz.prog 148 #[.agg v] w fun e W'=>e= .returned (.bool (ok3 ⟨x0,x1,x2,x3,x4,x5,x6,x7,x8,x9⟩ ⟨y0,y1,y2,y3,y4,y5,y6,y7,y8,y9⟩ ⟨z0,z1,z2,z3,z4,z5,z6,z7,z8,z9⟩))∧Below w.heap.size w W':=by
 have h1n:1≤n:=by omega
 refine callsIn_of_wp_marks Tryz.func148 rfl h1 ?_ hro
 simp only[Tryz.ntmps148,List.size_toArray,List.length_cons,List.length_nil,Nat.reduceAdd,Nat.reduceSub,Array.replicate_succ,Array.replicate_zero,List.push_toArray,List.append_toArray,List.nil_append,List.cons_append]
 have hvs:v.size=30:=by rw[←Array.length_toList,hv];rfl
 have hb:((w.alloc (.cells v 51)).alloc (.cells #[.bool false] 4)).heap[w.heap.size]?=some (.cells v 51 (0,0)):=
  (Below.heap_alloc _ _ _ (by simp)).trans (World.alloc_heap_new w _)
 have hl:=zfP hvs hb
 gi_wp2_with (first|(gi_at_call 212;refine(zkV F (n-1) h2 hro _ _).mono ?_;rintro e w' ⟨rfl,rfl⟩)|refine z2W rfl rfl rfl hl ?_)
 clear hb hl
 have bR:=(Boxed.new (w.alloc (.cells v 51)) 4 (.bool false)).alloc (.cells v 51)
 rw[World.size_alloc]at bR
 have hB0:Below w.heap.size w (((w.alloc (.cells v 51)).alloc (.cells #[.bool false] 4)).alloc (.cells v 51)):=(((Below.refl _ w).alloc (Nat.le_refl _) _).alloc (by simp) _).alloc (by simp;omega) _
 have hsz:(((w.alloc (.cells v 51)).alloc (.cells #[.bool false] 4)).alloc (.cells v 51)).heap.size=w.heap.size+3:=by simp
 have bV:(((w.alloc (.cells v 51)).alloc (.cells #[.bool false] 4)).alloc (.cells v 51)).heap[w.heap.size+1+1]?=some (.cells v 51 (0,0)):=by
  have:=World.alloc_heap_new ((w.alloc (.cells v 51)).alloc (.cells #[.bool false] 4)) (.cells v 51)
  rwa[World.size_alloc,World.size_alloc]at this
 obtain⟨W0,hW0⟩: ∃W0,(((w.alloc (.cells v 51)).alloc (.cells #[.bool false] 4)).alloc (.cells v 51))=W0:=⟨_,rfl⟩
 rw[hW0]at bR bV hB0 hsz ⊢
 clear hW0
 have bV:W0.heap[w.heap.size+1+1]?=some (.cells #[.bool x0,.string x1,.bool x2,.string x3,.bool x4,.string x5,.bool x6,.string x7,.bool x8,.string x9,.bool y0,.string y1,.bool y2,.string y3,.bool y4,.string y5,.bool y6,.string y7,.bool y8,.string y9,.bool z0,.string z1,.bool z2,.string z3,.bool z4,.string z5,.bool z6,.string z7,.bool z8,.string z9] 51 (0,0)):=by rw[bV,←hv]
 refine wpIn_rangeFunc_ownH hro h1n (gf:=247) (lb:= #[.pointer (some ⟨w.heap.size+1+1,0,none⟩)]) rfl h3 (enters_of Tryz.func247 (by kernel_rfl) rfl)
  (zea enR (0,⟨_,hx⟩) (1,⟨_,hy⟩) (2,⟨_,hz⟩) F (n-1) h3 hro (by omega) (w.heap.size+1+1) w.heap.size x0 x1 x2 x3 x4 x5 x6 x7 x8 x9 y0 y1 y2 y3 y4 y5 y6 y7 y8 y9 z0 z1 z2 z3 z4 z5 z6 z7 z8 z9 W0 (by omega) bV rfl rfl rfl) belowK_t (belowK_b (by omega)) (Below.refl _ _) (fun _=>rfl)
  (fun pre W=>((∀p∈pre,p.2.1.ok=true)∧Boxed W (w.heap.size+1) 4 (.bool false))∧Below w.heap.size w W)
  (fun c pre W=>((c= .ret∧ ∃p∈pre,p.2.1.ok=false)∧Boxed W (w.heap.size+1) 4 (.bool false))∧Below w.heap.size w W)
  (OwnFrom.and (OwnFrom.and (ownFrom_pure _ _) (Own.from (boxed_own _ _ _) _)) (ownFrom_below (Nat.le_refl _) (by omega)))
  (fun c=>OwnFrom.and (OwnFrom.and (ownFrom_pure _ _) (Own.from (boxed_own _ _ _) _)) (ownFrom_below (Nat.le_refl _) (by omega)))
  ⟨⟨by simp,bR⟩,hB0⟩
  (fun x a' W=> ∃Bx,w.heap.size+1<Bx∧W.heap[Bx]?=some (.cells x.2.1.a 39 (0,0))∧a'={tmps:= #[.agg v,.pointer (some ⟨w.heap.size,0,none⟩),.pointer (some ⟨w.heap.size+1,0,none⟩),undef,.pointer (some ⟨Bx,0,none⟩),.agg v,.func (.func 247) #[] #[.pointer (some ⟨w.heap.size+1+1,0,none⟩)],.int .i64 x.1,.agg x.2.1.a,undef,undef,undef],defers:=[]})
  (fun x a' _ X Y row hs hg hr=>by obtain⟨Bx,e1,e2,e3⟩:=hs;exact⟨Bx,e1,zcj _ Bx (fun(_:Unit)=>x.2.1.a) 39 () X Y row e2 hg hr,e3⟩)
  ?assign ?body ?done ?stop
 case assign=>
  rintro l pre x W K ⟨⟨hp,bR1⟩,hB1⟩ hK
  dsimp only[enR]
  have hst:=zek x.2.1 W #[.bool false,.string ⟨#[]⟩,.bool false,.string ⟨#[]⟩,.bool false,.string ⟨#[]⟩,.bool false,.string ⟨#[]⟩,.bool false,.string ⟨#[]⟩] rfl
  gi_wp2_with (refine z5y rfl rfl rfl rfl hst ?_)
  exact hK _ _ ((KeepsOthers.alloc _ _).from _) ((Below.refl _ W).alloc hB1.size _) ⟨⟨hp,bR1.alloc _⟩,hB1.alloc hB1.size _⟩ ⟨W.heap.size,bR1.lt,World.alloc_heap_new W _,rfl⟩
 case body=>
  rintro l pre x a' W hl ⟨r,hr⟩ ⟨⟨hp,bR1⟩,hB1⟩ ⟨Bx,hBx,bX,rfl⟩ hlt
  have hld:=zes bX
  have h1':1≤n-1-1:=by omega
  have cR: ∀W2,Below W.heap.size W W2→Boxed W2 (w.heap.size+1) 4 (.bool false):=fun W2 h=>(h.block _ bR1.lt).trans bR1
  gi_wp2_with (first|(gi_at_call 154;refine(CallsIn.inRound l (hV _ x.2 _)).mono ?_;rintro e W2 ⟨rfl,hBW⟩;have bR2:=cR _ hBW;have c2:=bR2.cell;have f2:=bR2.frozen)|refine z2W rfl rfl rfl hld ?_)
  · rename_i hk
    have hk':x.2.1.ok=false:=by simpa using hk
    exact⟨(z5e hBW _).trans ((KeepsOthers.setCell _ _ _).from _),⟨⟨rfl,x,List.mem_append.2 (.inr (by simp)),hk'⟩,bR2.set _⟩,(hB1.trans (hBW.mono hB1.size)).setCell (p:=⟨w.heap.size+1,0,none⟩) (by simp) _⟩
  · rename_i hk
    have hk':x.2.1.ok=true:=by simpa using hk
    exact⟨z5e hBW _,hBW.mono hB1.size,⟨fun p hp'=>(List.mem_append.1 hp').elim (hp p) (fun e=>by simp at e;subst e;exact hk'),bR2⟩,hB1.trans (hBW.mono hB1.size)⟩
 case done=>
  rintro D zs W hD rfl ⟨⟨hp,bR1⟩,hB1⟩ hK
  have cR:=bR1.cell
  have fR:=bR1.frozen
  gi_wp2
  have hK':=(KeepsOthers.setCell W ⟨w.heap.size+1,0,none⟩ (.bool true)).same D _ hK rfl
  refine⟨by simp,.inl ⟨_,_,rfl,run_takeDeferred hK',?_⟩⟩
  have hc5:=cell_kept (bR1.set (.bool true)).cell (grownBy_putObj' _ D (.deferred none)) (fun r e=>by cases e;exact⟨_,hK',rfl⟩)
  refine⟨.bool true,?_,?_,(hB1.setCell (p:=⟨w.heap.size+1,0,none⟩) (by simp) _).trans (belowK_b (w:=w) (Nat.le_refl _) _ D _ _ (by omega) hK' rfl rfl)⟩
  · simp[results,Tryz.f148,go_sem,hc5]
  · have q0:=hp _ (List.mem_cons_self ..)
    have q1:=hp _ (List.mem_cons_of_mem _ (List.mem_cons_self ..))
    have q2:=hp _ (List.mem_cons_of_mem _ (List.mem_cons_of_mem _ (List.mem_cons_self ..)))
    unfold ok3
    rw[q0,q1,q2];rfl
 case stop=>
  rintro D c pre W hD hpre ⟨⟨⟨rfl,x,hx,hy⟩,bR1⟩,hB1⟩ hK
  gi_wp2
  refine⟨by simp,.inl ⟨_,_,rfl,run_takeDeferred hK,?_⟩⟩
  have hc5:=cell_kept bR1.cell (grownBy_putObj' _ D (.deferred none)) (fun r e=>by cases e;exact⟨_,hK,rfl⟩)
  refine⟨.bool false,?_,?_,hB1.trans (belowK_b (w:=w) (Nat.le_refl _) W D _ _ (by omega) hK rfl rfl)⟩
  · simp[results,Tryz.f148,go_sem,hc5]
  · have hm:=hpre.subset hx
    simp only[List.mem_cons,List.not_mem_nil,or_false]at hm
    unfold ok3
    rcases hm with rfl|rfl|rfl<;>rw[hy]<;>simp
theorem zme(x y z:RN)(h:zp5 1000000 x y z=true):PCall P 148 [z5D x y z] (.lit (.bool (ok3 x y z))):=by
 obtain⟨hx,hy,hz⟩:=z07.1 h
 intro Im w vs hIm hvs
 obtain⟨y0,ys,e1,⟨arr,rfl,hr⟩,e2⟩:=hvs
 have e3:vs= #[.agg arr]:=by
  apply Array.ext'
  rw[e1,e2]
 subst e3
 have ha:arr.toList=(x.a.toList++(y.a.toList++z.a.toList)):=z4z hr
 obtain⟨x0,x1,x2,x3,x4,x5,x6,x7,x8,x9⟩:=x
 obtain⟨y0,y1,y2,y3,y4,y5,y6,y7,y8,y9⟩:=y
 obtain⟨z0,z1,z2,z3,z4,z5,z6,z7,z8,z9⟩:=z
 refine(callsIn_wide.1 (zkm Fence.wide 6 trivial trivial trivial trivial rfl (Nat.le_refl _) (fun m x W=>callsIn_wide.2 (PCall.num (z9D x.1 x.2) W)) _ _ _ _ _ _ _ _ _ _ _ _ _ _ _ _ _ _ _ _ _ _ _ _ _ _ _ _ _ _ hx hy hz arr ha w)).mono ?_
 rintro e w' ⟨rfl,hB⟩
 exact⟨_,_,Im,rfl,rfl,rfl,Im.le_refl,(fun b cs hb=>by obtain⟨c,T,fz,k1,k2⟩:=hIm b cs hb;exact⟨c,T,fz,(hB.block b (Array.getElem?_eq_some_iff.1 k1).1).trans k1,k2⟩),hB,fun b hb=> .inl hb⟩
end Go.Fw
open Go
namespace Go.Fw
set_option maxRecDepth 100000
theorem zeK(v:VN)(h:v.raw 1000000=true):PCall P 148 [v.c] (.lit (.bool v.ok)):=zme v.x v.y v.z h
theorem zaT(x y z:K)(hx:x.sz≤1000000)(hy:y.sz≤1000000)(hz:z.sz≤1000000):PCall P 148 [z99 x y z] (.lit (.bool true)):=by
 have h:=zeK (ofV (some ⟨x,y,z⟩)) (z74 (by show max x.sz (max y.sz z.sz)≤1000000;omega))
 rw[zc1 (zcW (some ⟨x,y,z⟩))]at h
 exact h
end Go.Fw
open Go IntKind
namespace Go.Fw
set_option maxRecDepth 100000
theorem zmD(f:Nat)(v w:VN)(g:v.ok=false)(s5_0:VN.raw 1000000 v=true):PCall P 205 [.agg [CV.lit (Value.func (Fn.func f) #[] #[])],v.c,w.c] z47:=
 j5 (.r 5 ((zeK (v) s5_0).eqB g) (.c (lq 30 30) .nil)) (by kernel_rfl)
theorem zoL(f:Nat)(v w:VN)(g:v.ok=true)(g2:w.ok=false)(s5_0:VN.raw 1000000 v=true)(s9_0:VN.raw 1000000 w=true):PCall P 205 [.agg [CV.lit (Value.func (Fn.func f) #[] #[])],v.c,w.c] z47:=
 j5 (.r 5 ((zeK (v) s5_0).eqB g) (.r 9 ((zeK (w) s9_0).eqB g2) (.c (lq 30 30) .nil))) (by kernel_rfl)
theorem zlJ(x y z x' y' z':K)(s5_0:x.sz≤1000000)(s5_1:y.sz≤1000000)(s5_2:z.sz≤1000000)(s9_0:x'.sz≤1000000)(s9_1:y'.sz≤1000000)(s9_2:z'.sz≤1000000)(s19_0:x.sz+x'.sz+2<1073741824)(s26_0:y.sz+y'.sz+2<1073741824)(s33_0:z.sz+z'.sz+2<1073741824):PCall P 205 [.agg [CV.lit (Value.func (Fn.func 137) #[] #[])],z99 x y z,z99 x' y' z'] (z99 (x+x') (y+y') (z+z')):=
 j5 (.r 5 (zaT (x) (y) (z) s5_0 s5_1 s5_2) (.r 9 (zaT (x') (y') (z') s9_0 s9_1 s9_2) (.r 19 (z6D (x) (x') s19_0) (.r 26 (z6D (y) (y') s26_0) (.r 33 (z6D (z) (z') s33_0) (.c (lq 30 30) .nil)))))) (by kernel_rfl)
theorem znk(x y z x' y' z':K)(s5_0:x.sz≤1000000)(s5_1:y.sz≤1000000)(s5_2:z.sz≤1000000)(s9_0:x'.sz≤1000000)(s9_1:y'.sz≤1000000)(s9_2:z'.sz≤1000000)(s19_0:x.sz+x'.sz+2<1073741824)(s26_0:y.sz+y'.sz+2<1073741824)(s33_0:z.sz+z'.sz+2<1073741824):PCall P 205 [.agg [CV.lit (Value.func (Fn.func 136) #[] #[])],z99 x y z,z99 x' y' z'] (z99 (x*x') (y*y') (z*z')):=
 j5 (.r 5 (zaT (x) (y) (z) s5_0 s5_1 s5_2) (.r 9 (zaT (x') (y') (z') s9_0 s9_1 s9_2) (.r 19 (z58 (x) (x') s19_0) (.r 26 (z58 (y) (y') s26_0) (.r 33 (z58 (z) (z') s33_0) (.c (lq 30 30) .nil)))))) (by kernel_rfl)
theorem zl8(v w:VN)(g:v.ok=false)(s4_0:VN.raw 1000000 v=true):PCall P 170 [v.c,w.c] z47:=
 j5 (.r 4 ((zeK (v) s4_0).eqB g) (.c (lq 30 30) .nil)) (by kernel_rfl)
theorem zo4(v w:VN)(g:v.ok=true)(g2:w.ok=false)(s4_0:VN.raw 1000000 v=true)(s8_0:VN.raw 1000000 w=true):PCall P 170 [v.c,w.c] z47:=
 j5 (.r 4 ((zeK (v) s4_0).eqB g) (.r 8 ((zeK (w) s8_0).eqB g2) (.c (lq 30 30) .nil))) (by kernel_rfl)
theorem zov(a b c d:K)(s7_0:a.sz+d.sz+2<1073741824)(s10_0:b.sz+c.sz+2<1073741824)(s11_0:(a*d).sz+(b*c).sz+2<1073741824):PCall P 222 [Z9 a,Z9 b,Z9 c,Z9 d] (Z9 (a*d-b*c)):=
 j5 (.r 7 (z58 (a) (d) s7_0) (.r 10 (z58 (b) (c) s10_0) (.r 11 (zoK (a*d) (b*c) s11_0) (.c (lq 10 10) .nil)))) (by kernel_rfl)
theorem zmS(a b c:Int)(s2_0:(-9223372036854775808:Int)≤a∧a≤9223372036854775807)(s4_0:(-9223372036854775808:Int)≤b∧b≤9223372036854775807)(s6_0:(-9223372036854775808:Int)≤c∧c≤9223372036854775807):PCall P 139 [j6 a,j6 b,j6 c] (z99 (K.ofInt a) (K.ofInt b) (K.ofInt c)):=
 j5 (.r 2 (z0o (a) s2_0) (.r 4 (z0o (b) s4_0) (.r 6 (z0o (c) s6_0) (.c (lq 30 30) .nil)))) (by kernel_rfl)
end Go.Fw
open Go
namespace Go.Fw
set_option maxRecDepth 100000
abbrev opC(f:Nat):CV:= .agg [.lit (.func (.func f) #[] #[])]
def V3.pmul(a b:V3):V3:=⟨a.x*b.x,a.y*b.y,a.z*b.z⟩
noncomputable def z4K(v w:VN):VN:=ofV (o2 V3.pmul (toV v) (toV w))
noncomputable def oV(a b c:Int):VN:=ofV (toV (ofV (some ⟨K.ofInt a,K.ofInt b,K.ofInt c⟩)))
theorem zdy(a b c:Int):oV a b c=ofV (some ⟨K.ofInt a,K.ofInt b,K.ofInt c⟩):=by unfold oV;rw[zcW]
theorem zoi (f : Nat) (g : V3 → V3 → V3) (v w : VN) (hv : v.raw 1000000 = true) (hw : w.raw 1000000 = true)
    (h: ∀a b:V3,a.x.sz≤1000000→a.y.sz≤1000000→a.z.sz≤1000000→b.x.sz≤1000000→b.y.sz≤1000000→b.z.sz≤1000000→PCall P 205 [opC f,a.c,b.c] (g a b).c):
    PCall P 205 [opC f,v.c,w.c] (ofV (o2 g (toV v) (toV w))).c:=by
 cases ev:toV v with
 |none=>exact zmD f v w (z4O ev) hv
 |some a=>
  cases ew:toV w with
  |none=>exact zoL f v w (zc1 ev) (z4O ew) hv hw
  |some b=>
   obtain⟨x,y,z⟩:=z1L ev hv
   obtain⟨x',y',z'⟩:=z1L ew hw
   rw[zg9 ev,zg9 ew]
   exact h a b x y z x' y' z'
theorem zpu(v w:VN)(hv:v.raw 1000000=true)(hw:w.raw 1000000=true):PCall P 205 [opC 137,v.c,w.c] (z0t v w).c:=
 zoi 137 V3.add v w hv hw fun a b x y z x' y' z'=>zlJ _ _ _ _ _ _ x y z x' y' z' (by omega) (by omega) (by omega)
theorem zlK(v w:VN)(hv:v.raw 1000000=true)(hw:w.raw 1000000=true):PCall P 205 [opC 136,v.c,w.c] (z4K v w).c:=
 zoi 136 V3.pmul v w hv hw fun a b x y z x' y' z'=>znk _ _ _ _ _ _ x y z x' y' z' (by omega) (by omega) (by omega)
theorem zlm(v:VN)(k:RN)(hv:v.raw 1000000=true)(hk:k.raw 1000000=true):PCall P 205 [opC 136,v.c,z5D k k k] (z4K v ⟨k,k,k⟩).c:=
 zlK v ⟨k,k,k⟩ hv (z07.2 ⟨hk,hk,hk⟩)
theorem zpj (a b c : Int) (ha : -9223372036854775808 ≤ a ∧ a ≤ 9223372036854775807) (hb : -9223372036854775808 ≤ b ∧ b ≤ 9223372036854775807) (hc : -9223372036854775808 ≤ c ∧ c ≤ 9223372036854775807) :
    PCall P 139 [j6 a,j6 b,j6 c] (oV a b c).c:=by rw[zdy];exact zmS a b c ha hb hc
theorem zpH(a b c d:K)(ha:a.sz≤100000)(hb:b.sz≤100000)(hc:c.sz≤100000)(hd:d.sz≤100000):PCall P 222 [Z9 a,Z9 b,Z9 c,Z9 d] (Z9 (a*d-b*c)):=by
 have m1:=K.sz_mul a d
 have m2:=K.sz_mul b c
 exact zov a b c d (by omega) (by omega) (by omega)
end Go.Fw
open Go IntKind
namespace Go.Fw
set_option maxRecDepth 100000
theorem zik(v w:VN)(s6_0:VN.raw 1000000 v=true)(s6_1:VN.raw 1000000 w=true):PCall P 141 [v.c,w.c] (z5D (z0t v w).x (z0t v w).y (z0t v w).z):=
 j5 (.r 6 (zpu (v) (w) s6_0 s6_1) (.c (lq 30 30) .nil)) (by kernel_rfl)
theorem zjj(v w:VN)(s6_0:VN.raw 1000000 v=true)(s6_1:VN.raw 1000000 w=true)(s13_0:RN.raw 1000000 (z4K v w).x=true)(s13_1:RN.raw 1000000 (z4K v w).y=true)(s16_0:RN.raw 1000000 (z2S (z4K v w).x (z4K v w).y)=true)(s16_1:RN.raw 1000000 (z4K v w).z=true):PCall P 149 [v.c,w.c] (RN.c (z2S (z2S (z4K v w).x (z4K v w).y) (z4K v w).z)):=
 j5 (.r 6 (zlK (v) (w) s6_0 s6_1) (.c (lq 30 30) (.r 13 (za6 ((z4K v w).x) ((z4K v w).y) s13_0 s13_1) (.r 16 (za6 (z2S (z4K v w).x (z4K v w).y) ((z4K v w).z) s16_0 s16_1) (.c (lq 10 10) .nil))))) (by kernel_rfl)
theorem zlQ(x y z x' y' z':K)(s4_0:x.sz≤1000000)(s4_1:y.sz≤1000000)(s4_2:z.sz≤1000000)(s8_0:x'.sz≤1000000)(s8_1:y'.sz≤1000000)(s8_2:z'.sz≤1000000)(s20_0:y.sz≤100000)(s20_1:z.sz≤100000)(s20_2:y'.sz≤100000)(s20_3:z'.sz≤100000)(s29_0:z.sz≤100000)(s29_1:x.sz≤100000)(s29_2:z'.sz≤100000)(s29_3:x'.sz≤100000)(s38_0:x.sz≤100000)(s38_1:y.sz≤100000)(s38_2:x'.sz≤100000)(s38_3:y'.sz≤100000):PCall P 170 [z99 x y z,z99 x' y' z'] (z99 (y*z'-z*y') (z*x'-x*z') (x*y'-y*x')):=
 j5 (.r 4 (zaT (x) (y) (z) s4_0 s4_1 s4_2) (.r 8 (zaT (x') (y') (z') s8_0 s8_1 s8_2) (.r 20 (zpH (y) (z) (y') (z') s20_0 s20_1 s20_2 s20_3) (.r 29 (zpH (z) (x) (z') (x') s29_0 s29_1 s29_2 s29_3) (.r 38 (zpH (x) (y) (x') (y') s38_0 s38_1 s38_2 s38_3) (.c (lq 30 30) .nil)))))) (by kernel_rfl)
end Go.Fw
open Go IntKind
namespace Go.Fw
set_option maxRecDepth 100000
theorem zic(v:VN)(k:RN)(s9_0:VN.raw 1000000 v=true)(s9_1:RN.raw 1000000 k=true):PCall P 142 [v.c,k.c] (z5D (z4K v {x:=k,y:=k,z:=k}).x (z4K v {x:=k,y:=k,z:=k}).y (z4K v {x:=k,y:=k,z:=k}).z):=
 j5 (.r 9 (zlm (v) (k) s9_0 s9_1) (.c (lq 30 30) .nil)) (by kernel_rfl)
end Go.Fw
open Go
namespace Go.Fw
set_option maxRecDepth 100000
theorem za7(v w:VN)(hv:v.raw 1000000=true)(hw:w.raw 1000000=true):PCall P 141 [v.c,w.c] (z0t v w).c:=zik v w hv hw
theorem zbx(v:VN)(k:RN):z4K v ⟨k,k,k⟩=J8 v k:=by
 unfold z4K J8
 cases ev:toV v with
 |none=>rfl
 |some a=>
  have e:toV ⟨k,k,k⟩=(toO k).map fun c=>⟨c,c,c⟩:=by
   unfold toV
   cases ek:toO k<;>rfl
  rw[e]
  cases ek:toO k<;>rfl
theorem z4Z(v:VN)(k:RN)(hv:v.raw 1000000=true)(hk:k.raw 1000000=true):PCall P 142 [v.c,k.c] (J8 v k).c:=by
 rw[←zbx]
 exact zic v k hv hk
theorem zbv(v w:VN):z2S (z2S (z4K v w).x (z4K v w).y) (z4K v w).z=z50 v w:=by
 unfold z50 z4K
 cases ev:toV v with
 |none=>show z2S (z2S .zero .zero) .zero= .zero;unfold z2S;rw[z3M];rfl
 |some a=>
  cases ew:toV w with
  |none=>show z2S (z2S .zero .zero) .zero= .zero;unfold z2S;rw[z3M];rfl
  |some b=>
   show z2S (z2S (.ofK (a.x*b.x)) (.ofK (a.y*b.y))) (.ofK (a.z*b.z))= .ofK (a.x*b.x+a.y*b.y+a.z*b.z)
   unfold z2S
   simp only[z6M,z70]
   rfl
theorem zgv(v w:VN)(hv:v.raw 1000=true)(hw:w.raw 1000=true):PCall P 170 [v.c,w.c] (z3s v w).c:=by
 have hv':=VN.raw_mono hv (show 1000≤1000000 by decide)
 have hw':=VN.raw_mono hw (show 1000≤1000000 by decide)
 unfold z3s
 cases ev:toV v with
 |none=>exact zl8 v w (z4O ev) hv'
 |some a=>
  cases ew:toV w with
  |none=>exact zo4 v w (zc1 ev) (z4O ew) hv' hw'
  |some b=>
   obtain⟨x,y,z⟩:=z1L ev hv
   obtain⟨x',y',z'⟩:=z1L ew hw
   rw[zg9 ev,zg9 ew]
   refine zlQ _ _ _ _ _ _ ?_ ?_ ?_ ?_ ?_ ?_ ?_ ?_ ?_ ?_ ?_ ?_ ?_ ?_ ?_ ?_ ?_ ?_<;>omega
noncomputable def zV(v:VN):Bool:=rnB v.x (oV 0 0 0).x&&(rnB v.y (oV 0 0 0).y&&(rnB v.z (oV 0 0 0).z&&true))
end Go.Fw
open Go
namespace Go.Fw
set_option maxRecDepth 100000
def plR(x y z d:RN):CV:= .agg (x.l++(y.l++(z.l++d.l)))
structure PN where
 n:VN
 d:RN
def PN.c(p:PN):CV:=plR p.n.x p.n.y p.n.z p.d
def PN.zero:PN:=⟨.zero,.zero⟩
def PN.raw(k:Nat)(p:PN):Bool:=p.n.raw k&&p.d.raw k
theorem PN.raw_iff{k:Nat}{p:PN}:p.raw k=true↔p.n.raw k=true∧p.d.raw k=true:=by unfold PN.raw;simp
theorem V4Of_r (a b c : Int) (ha : -9223372036854775808 ≤ a ∧ a ≤ 9223372036854775807) (hb : -9223372036854775808 ≤ b ∧ b ≤ 9223372036854775807) (hc : -9223372036854775808 ≤ c ∧ c ≤ 9223372036854775807) :
    PCall P 63 [j6 a,j6 b,j6 c] (oV a b c).c:=by rw[zdy];exact zhC a b c ha hb hc
end Go.Fw
open Go
namespace Go.Fw
set_option maxRecDepth 100000
theorem sgn_zero{x:K}:K.sgn x=0↔x=0:=Sg.zero x
noncomputable def z1R(x y:RN):RN×Int:=match toO x,toO y with
 |some a,some b=>if K.sgn b=0 then(.zero,10)else(.ofK (K.div a b),0)
 |_,_=>(.zero,1)
theorem ze6(x y:RN)(hx:x.raw 1000000=true)(hy:y.raw 1000000=true):PCall P 147 [x.c,y.c] (.tup [(z1R x y).1.c,j6 (z1R x y).2]):=by
 unfold z1R
 cases ex:toO x with
 |none=>exact zj6 x y (z0d ex) hx
 |some k=>
  cases ey:toO y with
  |none=>exact ziE x y (z0Z ex).1 (z0d ey) hx hy
  |some l=>
   have a:=z1d ex hx
   have b:=z1d ey hy
   rw[zbH (z0Z ex).2,zbH (z0Z ey).2]
   dsimp only
   by_cases h0:K.sgn l=0
   · rw[if_pos h0,sgn_zero.1 h0]
     exact zoV k (by simp only[Smk];omega)
   · rw[if_neg h0]
     exact zgL k l (fun h=>h0 (sgn_zero.2 h)) (by omega)
end Go.Fw
open Go
namespace Go.Fw
set_option maxRecDepth 100000
noncomputable def PN.ok(p:PN):Bool:=p.n.ok&&(!zV p.n&&p.d.ok)
noncomputable def oN(n:Int):RN:=ofO (toO (ofO (some (K.ofInt n))))
theorem zbh(n:Int):oN n= .ofK (K.ofInt n):=by unfold oN;rw[z70];rfl
theorem zbX(n:Int)(h: -9223372036854775808≤n∧n≤9223372036854775807):PCall P 144 [j6 n] (oN n).c:=by rw[zbh];exact z0o n h
end Go.Fw
open Go IntKind
namespace Go.Fw
set_option maxRecDepth 100000
theorem zlA(x y:RN)(s5_0:RN.raw 1000000 y=true)(s6_0:RN.raw 1000000 x=true)(s6_1:RN.raw 1000000 (zas y)=true):PCall P 135 [x.c,y.c] (RN.c (z2S x (zas y))):=
 j5 (.r 5 (zoz (y) s5_0) (.r 6 (za6 (x) (zas y) s6_0 s6_1) (.c (lq 10 10) .nil))) (by kernel_rfl)
end Go.Fw
open Go
namespace Go.Fw
set_option maxRecDepth 100000
noncomputable def kN(x:K):RN:=ofO (toO (ofO (some x)))
theorem z1y(x:K):kN x= .ofK x:=by unfold kN;rw[z70];rfl
theorem zpq(i:Int):PCall P 33 [j6 i] (kN (z6Q i)).c:=by rw[z1y];exact z8G i
theorem zps(i:Int):PCall P 35 [j6 i] (kN (zaF i)).c:=by rw[z1y];exact zd2 i
theorem z16(x:K):toO (kN x)=some x:=by rw[z1y];exact z6M x
theorem znM(x y:K):zb7 (kN x) (kN y)=kN (x*y):=by unfold zb7;rw[z16,z16,z1y];rfl
theorem zot(x y:K):z2S (kN x) (kN y)=kN (x+y):=by unfold z2S;rw[z16,z16,z1y];rfl
theorem zgG(x y:K):z4U (kN x) (kN y)=kN (x-y):=by unfold z4U;rw[z16,z16,z1y];rfl
theorem zcb(x:K):z8L (kN x)=K.sgn x:=by unfold z8L;rw[z16]
theorem zft(n:Int):oN n=kN (K.ofInt n):=by rw[zbh,z1y]
theorem zbM(x y:K)(h:K.sgn y≠0):(z1R (kN x) (kN y)).1=kN (K.div x y):=by
 unfold z1R
 rw[z16,z16]
 dsimp only
 rw[if_neg h,z1y]
end Go.Fw
open Go
namespace Go.Fw
set_option maxRecDepth 100000
theorem zgO(x y:RN)(hx:x.raw 1000000=true)(hy:y.raw 1000000=true):PCall P 135 [x.c,y.c] (z4U x y).c:=by
 have h:=zlA x y hy hx (zho hy)
 have e:z2S x (zas y)=z4U x y:=by unfold z2S z4U;rw[zap,zn2]
 rw[e]at h
 exact h
end Go.Fw
open Go
namespace Go.Fw
set_option maxRecDepth 100000
theorem z5b{x:K}{n:Nat}(h:x.sz≤n):(kN x).raw n=true:=by rw[z1y];exact RN.ofK_raw x h
theorem z6r{z:Int}{n:Nat}(h:(K.ofInt z).sz≤n):(oN z).raw n=true:=by rw[zft];exact z5b h
end Go.Fw
open Go
namespace Go.Fw
set_option maxRecDepth 100000
theorem zpT(a b c:Int):(oV a b c).x=oN a:=by rw[zdy,zbh];rfl
theorem zpY(a b c:Int):(oV a b c).y=oN b:=by rw[zdy,zbh];rfl
theorem zpN(a b c:Int):(oV a b c).z=oN c:=by rw[zdy,zbh];rfl
theorem ziv(x:K):(kN x).ok=true:=by rw[z1y];exact RN.ofK_ok x
theorem PN.raw_mono{p:PN}{n m:Nat}(h:p.raw n=true)(hm:n≤m):p.raw m=true:=by
 obtain⟨a,b⟩:=PN.raw_iff.1 h
 exact PN.raw_iff.2 ⟨VN.raw_mono a hm,RN.raw_mono b hm⟩
end Go.Fw
open Go Go.RowKit
namespace Go.Fw
set_option maxRecDepth 100000
def PN.a(p:PN):Array Value:=p.n.x.a++(p.n.y.a++(p.n.z.a++p.d.a))
end Go.Fw
open Go Go.RowKit
namespace Go.Fw
set_option maxRecDepth 100000
theorem zhY:(oN 1).raw 1=true:=by rw[zbh];kernel_rfl
end Go.Fw
open Go
namespace Go.Fw
set_option maxRecDepth 100000
theorem z9f(x y z:K):toV ⟨kN x,kN y,kN z⟩=some ⟨x,y,z⟩:=by
 unfold toV
 rw[z16,z16,z16]
theorem zfA(x y z k:K):J8 ⟨kN x,kN y,kN z⟩ (kN k)=⟨kN (x*k),kN (y*k),kN (z*k)⟩:=by
 unfold J8
 rw[z9f,z16,z1y,z1y,z1y]
 rfl
end Go.Fw
