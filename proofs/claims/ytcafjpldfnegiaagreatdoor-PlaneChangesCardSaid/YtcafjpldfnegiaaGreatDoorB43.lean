/- A part of the proof that the law returns true for every input: an executor for the model's code, and what functions of the program compute. -/
import Derived.Test.YtcafjpldfnegiaaGreatDoorB05
import Derived.Test.YtcafjpldfnegiaaGreatDoorB06
import Derived.Test.YtcafjpldfnegiaaGreatDoorB11
import Derived.Test.YtcafjpldfnegiaaGreatDoorB15
import Derived.Test.YtcafjpldfnegiaaGreatDoorB40
import Derived.Test.YtcafjpldfnegiaaGreatDoorB41
import Derived.Test.YtcafjpldfnegiaaGreatDoorB42
import Derived.RangeFuncNested
import Derived.RangeFuncBound
import Derived.RangeFuncCalls
import Derived.RangeFuncLeaves
import Derived.Shelf.Abstract
import Derived.Shelf.RegionOpen
import Derived.WalkKit
import Derived.OwnWalkIn
import Derived.TacticsInMore
import Derived.LoopNIn
import Derived.LoopIn
import Derived.KernelRfl
open Go Go.RowKit Go.Shelf Go.Proofs
namespace Go.Fw
section
variable{F:Fence}{n:Nat}{P:Program}{ops:Array Oper}{Q:Exit→Act→World→Prop}{a:Act}{w w':World}{rest:List Oper}{o:Oper}
theorem z0h {T : TypeId} {p : Operand} {d : Value} {v : Value} (hg : o.guard = none) (hop : o.op = .load T p) (hp : a.eval p = d) (hrun : (Instr.loadAt T d).run P w = .ok v w)
    (hk:wpListIn F n P ops Q rest (a.put o.dst v) w):wpListIn F n P ops Q (o::rest) a w:=by
 refine wpListIn_plain hg fun K hK=>?_
 refine⟨fun f hf=>?_,?_⟩
 · simp[Oper.about,hop]at hf
 · have hr:(execOp a.eval o).run P w= .ok (.value v) w:=by unfold execOp;rw[hop];simp only[hp];simp[hrun]
   rw[Oper.semAt_eq _ _ _ (by simp[hop]),hr]
   exact hK _ _ hk
theorem z3s {T : TypeId} {p : Operand} {d : Value} {v : Value} (hg : Region.wanted o (yielded ops a.tmps) = true) (hop : o.op = .load T p) (hp : a.eval p = d) (hrun : (Instr.loadAt T d).run P w = .ok v w)
    (hk:wpListIn F n P ops Q rest (a.put o.dst v) w):wpListIn F n P ops Q (o::rest) a w:=by
 refine wpListIn_step fun K hK=>?_
 rw[if_pos hg]
 refine⟨fun f hf=>?_,?_⟩
 · simp[Oper.about,hop]at hf
 · have hr:(execOp a.eval o).run P w= .ok (.value v) w:=by unfold execOp;rw[hop];simp only[hp];simp[hrun]
   rw[Oper.semAt_eq _ _ _ (by simp[hop]),hr]
   exact hK _ _ hk
theorem z2Y {T : TypeId} {p x : Operand} {d v : Value} (hg : o.guard = none) (hop : o.op = .store T p x) (hp : a.eval p = d) (hx : a.eval x = v) (hrun : (Instr.storeAt T d v).run P w = .ok () w')
    (hk:wpListIn F n P ops Q rest (a.put o.dst undef) w'):wpListIn F n P ops Q (o::rest) a w:=by
 refine wpListIn_plain hg fun K hK=>?_
 refine⟨fun f hf=>?_,?_⟩
 · simp[Oper.about,hop]at hf
 · have hr:(execOp a.eval o).run P w= .ok .skip w':=by unfold execOp;rw[hop];simp only[hp,hx];simp[hrun]
   rw[Oper.semAt_eq _ _ _ (by simp[hop]),hr]
   exact hK _ _ hk
end
theorem z44 {T : TypeId} {fs : Array Field} {w : World} {b off : Nat} {c : Array Value} {t : TypeId} {fz : Nat × Nat} {v : Array Value} (hu : P.underlying T = some (.struct fs)) (hb : w.heap[b]? = some (.cells c t fz))
    (hv:v.toList=(c.toList.drop off).take (P.cellsOf T)) (hs:v.size=P.cellsOf T):(Instr.loadAt T (.pointer (some ⟨b,off,none⟩))).run P w= .ok (.agg v) w:=by
 obtain⟨y,h1,h2,_⟩:=z3B (P:=P) (w:=w) (off:=off) hb hu rfl hv (by simpa using hs) (fun h=>by cases h)
 rw[show Value.agg v=y by rw[h2 rfl]]
 simpa[Instr.loadAt,Instr.sureAddr]using h1
theorem z95 {T : TypeId} {i : TypeInfo} {w : World} {c v : Array Value} {t : TypeId} (hi : P.info? T = some i) (hs : v.size = P.cellsOf T) (hc : c.size = v.size) (ho : ∀ x ∈ v.toList, x.oneCell' = true) :
    (Instr.storeAt T (.pointer (some ⟨w.heap.size,0,none⟩)) (.agg v)).run P (w.alloc (.cells c t))= .ok () (w.alloc (.cells v t)):=by
 have hst:=run_storeCells_at P w.heap.size 0 t v.toList 0 c (w.alloc (.cells c t)) (World.alloc_heap_new w _) (by simp;omega) ho
 simp only[Nat.add_zero,List.take_zero,List.nil_append,Nat.zero_add]at hst
 have e:(w.alloc (.cells c t)).setRow w.heap.size (v.toList++c.toList.drop v.toList.length).toArray=w.alloc (.cells v t):=by
  rw[List.drop_of_length_le (by simp;omega),List.append_nil]
  show World.mk _ _ _ _ _=World.mk _ _ _ _ _
  refine congrArg (fun h=>World.mk h w.tape w.drawn w.os w.output) ?_
  show(w.heap.push (Obj.cells c t)).modify w.heap.size _=w.heap.push (Obj.cells v t)
  refine Array.ext (by simp) fun k h1 h2=>?_
  rw[Array.getElem_modify,Array.getElem_push,Array.getElem_push]
  simp at h1
  split
  · rename_i e
    subst e
    simp
  · rw[dif_pos (by omega),dif_pos (by omega)]
 rw[e]at hst
 simp[Instr.storeAt,Instr.sureAddr,storeVar,U3 hi,Value.cells,hs,hst]
end Go.Fw
open Go Go.RowKit Go.Shelf Go.Proofs
namespace Go.Fw
attribute [local go_sem] Oper.semAt_some
set_option maxRecDepth 100000
set_option maxHeartbeats 1000000
theorem zrc (F : Fence) (n : Nat) (h : F.fn 212) (hro : F.round = none) (a : Array Value) (w : World) :
    CallsIn F n Tryz.prog 212 #[.agg a] w fun e w'=>e= .returned (.func (.func 247) #[] #[.pointer (some ⟨w.heap.size,0,none⟩)])∧w'=w.alloc (.cells a 51):=by
 refine callsIn_of_wp Tryz.func212 rfl h ?_ hro
 simp only[Tryz.ntmps212,List.size_toArray,List.length_cons,List.length_nil,Nat.reduceAdd,Nat.reduceSub,Array.replicate_succ,Array.replicate_zero,List.push_toArray,List.append_toArray,List.nil_append,List.cons_append]
 gi_wp2
 go_ret
 exact⟨rfl,rfl⟩
theorem Z7{w:World}{b k:Nat}{c:Array Value}{T:TypeId}{fz:Nat×Nat}{v:Value}(h:w.heap[b]?=some (.cells c T fz))(hv:c[k]?=some v):w.cell? ⟨b,k,none⟩=some v:=by
 rw[cell_of_row w b k c T fz h]
 simpa using hv
theorem z9c (x0 x1 x2 x3 x4 x5 x6 x7 x8 x9 y0 y1 y2 y3 y4 y5 y6 y7 y8 y9 z0 z1 z2 z3 z4 z5 z6 z7 z8 z9 : Value) (w : World) :
    (Instr.index 166 (.agg #[x0,x1,x2,x3,x4,x5,x6,x7,x8,x9,y0,y1,y2,y3,y4,y5,y6,y7,y8,y9,z0,z1,z2,z3,z4,z5,z6,z7,z8,z9]) (.int .i64 0)).run Tryz.prog w= .ok (.agg #[x0,x1,x2,x3,x4,x5,x6,x7,x8,x9]) w∧
    (Instr.index 166 (.agg #[x0,x1,x2,x3,x4,x5,x6,x7,x8,x9,y0,y1,y2,y3,y4,y5,y6,y7,y8,y9,z0,z1,z2,z3,z4,z5,z6,z7,z8,z9]) (.int .i64 1)).run Tryz.prog w= .ok (.agg #[y0,y1,y2,y3,y4,y5,y6,y7,y8,y9]) w∧
    (Instr.index 166 (.agg #[x0,x1,x2,x3,x4,x5,x6,x7,x8,x9,y0,y1,y2,y3,y4,y5,y6,y7,y8,y9,z0,z1,z2,z3,z4,z5,z6,z7,z8,z9]) (.int .i64 2)).run Tryz.prog w= .ok (.agg #[z0,z1,z2,z3,z4,z5,z6,z7,z8,z9]) w:=by
 refine⟨?_,?_,?_⟩<;>simp[Instr.index,asIntOf,run_underlying Tryz.underlying166,Tryz.sizeOf39,part,isAgg,run_underlying Tryz.underlying39]
theorem zc4 {α : Type} (enc : α → Array Value) (u0 u1 u2 : α) (F : Fence) (n : Nat) (h : F.fn 247) (hro : F.round = none) (hn : 1 ≤ n) (Bn n₀ : Nat) (x0 : Bool) (x1 : ByteArray) (x2 : Bool) (x3 : ByteArray) (x4 : Bool) (x5 : ByteArray) (x6 : Bool) (x7 : ByteArray) (x8 : Bool) (x9 : ByteArray) (y0 : Bool) (y1 : ByteArray) (y2 : Bool) (y3 : ByteArray) (y4 : Bool) (y5 : ByteArray) (y6 : Bool) (y7 : ByteArray) (y8 : Bool) (y9 : ByteArray) (z0 : Bool) (z1 : ByteArray) (z2 : Bool) (z3 : ByteArray) (z4 : Bool) (z5 : ByteArray) (z6 : Bool) (z7 : ByteArray) (z8 : Bool) (z9 : ByteArray) (w : World) (hBn : Bn < w.heap.size)
    (hc:w.heap[Bn]?=some (.cells #[.bool x0,.string x1,.bool x2,.string x3,.bool x4,.string x5,.bool x6,.string x7,.bool x8,.string x9,.bool y0,.string y1,.bool y2,.string y3,.bool y4,.string y5,.bool y6,.string y7,.bool y8,.string y9,.bool z0,.string z1,.bool z2,.string z3,.bool z4,.string z5,.bool z6,.string z7,.bool z8,.string z9] 51 (0,0)))
    (e0:enc u0= #[.int .i64 0,.agg #[.bool x0,.string x1,.bool x2,.string x3,.bool x4,.string x5,.bool x6,.string x7,.bool x8,.string x9]]) (e1:enc u1= #[.int .i64 1,.agg #[.bool y0,.string y1,.bool y2,.string y3,.bool y4,.string y5,.bool y6,.string y7,.bool y8,.string y9]]) (e2:enc u2= #[.int .i64 2,.agg #[.bool z0,.string z1,.bool z2,.string z3,.bool z4,.string z5,.bool z6,.string z7,.bool z8,.string z9]]):
    SeqStopsK F n Tryz.prog 247 #[.pointer (some ⟨Bn,0,none⟩)] enc (Below n₀) (fun ys=>ys=[u0,u1,u2]) (fun pre=>pre<+:[u0,u1,u2]) 3 w:=fun l J Jx W hW hJ hJx hY h0=>by
 refine callsIn_of_wp Tryz.func247 rfl h ?_ hro
 simp only[Tryz.ntmps247,List.size_toArray,List.length_cons,List.length_nil,Nat.reduceAdd,Nat.reduceSub,Array.replicate_succ,Array.replicate_zero,List.push_toArray,List.append_toArray,List.nil_append,List.cons_append]
 have hb:=(hW.block Bn hBn).trans hc
 have c0:=Z7 (k:=0) hb rfl
 have c1:=Z7 (k:=1) hb rfl
 have c2:=Z7 (k:=2) hb rfl
 have c3:=Z7 (k:=3) hb rfl
 have c4:=Z7 (k:=4) hb rfl
 have c5:=Z7 (k:=5) hb rfl
 have c6:=Z7 (k:=6) hb rfl
 have c7:=Z7 (k:=7) hb rfl
 have c8:=Z7 (k:=8) hb rfl
 have c9:=Z7 (k:=9) hb rfl
 have c10:=Z7 (k:=10) hb rfl
 have c11:=Z7 (k:=11) hb rfl
 have c12:=Z7 (k:=12) hb rfl
 have c13:=Z7 (k:=13) hb rfl
 have c14:=Z7 (k:=14) hb rfl
 have c15:=Z7 (k:=15) hb rfl
 have c16:=Z7 (k:=16) hb rfl
 have c17:=Z7 (k:=17) hb rfl
 have c18:=Z7 (k:=18) hb rfl
 have c19:=Z7 (k:=19) hb rfl
 have c20:=Z7 (k:=20) hb rfl
 have c21:=Z7 (k:=21) hb rfl
 have c22:=Z7 (k:=22) hb rfl
 have c23:=Z7 (k:=23) hb rfl
 have c24:=Z7 (k:=24) hb rfl
 have c25:=Z7 (k:=25) hb rfl
 have c26:=Z7 (k:=26) hb rfl
 have c27:=Z7 (k:=27) hb rfl
 have c28:=Z7 (k:=28) hb rfl
 have c29:=Z7 (k:=29) hb rfl
 gi_wp2
 gi_loopw [12] (fun p wr=>(p= .int .i64 0∧J [] wr)∨(p= .int .i64 1∧J [u0] wr)∨(p= .int .i64 2∧J [u0,u1] wr)∨(p= .int .i64 3∧J [u0,u1,u2] wr)) (fun p wr=>3-(intOf p).toNat)
 case atStart=>
  exact .inl ⟨rfl,h0⟩
 case round=>
  rcases hrel with⟨rfl,hJs⟩|⟨rfl,hJs⟩|⟨rfl,hJs⟩|⟨rfl,hJs⟩
  · obtain⟨fn,tmps,assign,body,hy,hR⟩:=hY [] u0 (wr.alloc (.cells #[.bool x0,.string x1,.bool x2,.string x3,.bool x4,.string x5,.bool x6,.string x7,.bool x8,.string x9] 39)) (hJ _ wr _ none hJs (World.grownBy_alloc wr _ none) (fun r e=>by cases e)) (by simp)
    rw[e0]at hy
    obtain⟨i0,i1,i2⟩:=z9c (.bool x0) (.string x1) (.bool x2) (.string x3) (.bool x4) (.string x5) (.bool x6) (.string x7) (.bool x8) (.string x9) (.bool y0) (.string y1) (.bool y2) (.string y3) (.bool y4) (.string y5) (.bool y6) (.string y7) (.bool y8) (.string y9) (.bool z0) (.string z1) (.bool z2) (.string z3) (.bool z4) (.string z5) (.bool z6) (.string z7) (.bool z8) (.string z9) wr
    gi_wp2_with (rw[i0])
    refine hR.mono ?_
    rintro e W3 (⟨rfl,hJ3,hk3⟩|⟨rfl,hJx3⟩)
    · gi_wp2
      go_roundw
      case rel=>exact .inr (.inl ⟨rfl,hJ3⟩)
      case measure=>simp[intOf]
    · gi_wp2
      refine bodyPost_ret (results_none rfl _ _ _) rfl ?_
      exact⟨⟨_,rfl⟩,.inr ⟨_,by simp,hJx3⟩⟩
  · obtain⟨fn,tmps,assign,body,hy,hR⟩:=hY [u0] u1 (wr.alloc (.cells #[.bool y0,.string y1,.bool y2,.string y3,.bool y4,.string y5,.bool y6,.string y7,.bool y8,.string y9] 39)) (hJ _ wr _ none hJs (World.grownBy_alloc wr _ none) (fun r e=>by cases e)) (by simp)
    rw[e1]at hy
    obtain⟨i0,i1,i2⟩:=z9c (.bool x0) (.string x1) (.bool x2) (.string x3) (.bool x4) (.string x5) (.bool x6) (.string x7) (.bool x8) (.string x9) (.bool y0) (.string y1) (.bool y2) (.string y3) (.bool y4) (.string y5) (.bool y6) (.string y7) (.bool y8) (.string y9) (.bool z0) (.string z1) (.bool z2) (.string z3) (.bool z4) (.string z5) (.bool z6) (.string z7) (.bool z8) (.string z9) wr
    gi_wp2_with (rw[i1])
    refine hR.mono ?_
    rintro e W3 (⟨rfl,hJ3,hk3⟩|⟨rfl,hJx3⟩)
    · gi_wp2
      go_roundw
      case rel=>exact .inr (.inr (.inl ⟨rfl,hJ3⟩))
      case measure=>simp[intOf]
    · gi_wp2
      refine bodyPost_ret (results_none rfl _ _ _) rfl ?_
      exact⟨⟨_,rfl⟩,.inr ⟨_,by simp,hJx3⟩⟩
  · obtain⟨fn,tmps,assign,body,hy,hR⟩:=hY [u0,u1] u2 (wr.alloc (.cells #[.bool z0,.string z1,.bool z2,.string z3,.bool z4,.string z5,.bool z6,.string z7,.bool z8,.string z9] 39)) (hJ _ wr _ none hJs (World.grownBy_alloc wr _ none) (fun r e=>by cases e)) (by simp)
    rw[e2]at hy
    obtain⟨i0,i1,i2⟩:=z9c (.bool x0) (.string x1) (.bool x2) (.string x3) (.bool x4) (.string x5) (.bool x6) (.string x7) (.bool x8) (.string x9) (.bool y0) (.string y1) (.bool y2) (.string y3) (.bool y4) (.string y5) (.bool y6) (.string y7) (.bool y8) (.string y9) (.bool z0) (.string z1) (.bool z2) (.string z3) (.bool z4) (.string z5) (.bool z6) (.string z7) (.bool z8) (.string z9) wr
    gi_wp2_with (rw[i2])
    refine hR.mono ?_
    rintro e W3 (⟨rfl,hJ3,hk3⟩|⟨rfl,hJx3⟩)
    · gi_wp2
      go_roundw
      case rel=>exact .inr (.inr (.inr ⟨rfl,hJ3⟩))
      case measure=>simp[intOf]
    · gi_wp2
      refine bodyPost_ret (results_none rfl _ _ _) rfl ?_
      exact⟨⟨_,rfl⟩,.inr ⟨_,by simp,hJx3⟩⟩
  · gi_wp2
    go_end0
    exact⟨⟨_,rfl⟩,.inl ⟨_,rfl,hJs⟩⟩
end Go.Fw
open Go Go.RowKit Go.Shelf Go.Proofs
namespace Go.Fw
attribute [local go_sem] Oper.semAt_some
set_option maxRecDepth 100000
set_option maxHeartbeats 1000000
def RN.a(x:RN):Array Value:= #[.bool x.b0,.string x.s0,.bool x.b1,.string x.s1,.bool x.b2,.string x.s2,.bool x.b3,.string x.s3,.bool x.b4,.string x.s4]
theorem z3k(Im:Imm)(l:List Value):CV.repL Im (l.map .lit) l:=by
 induction l with
 |nil=>rfl
 |cons x xs ih=>exact⟨x,xs,rfl,rfl,ih⟩
theorem z1Q{Im:Imm}: ∀{l k:List Value},CV.repL Im (l.map .lit) k→k=l
 | [],_,h=>h
 |_::_,_,⟨_,_,e,h1,h2⟩=>by rw[e,show _=_ from h1,z1Q h2]
theorem PCall.num{f:FuncId}{x:RN}{v:Value}(h:PCall P f [.agg x.l] (.lit v))(w:World):Calls P f #[.agg x.a] w fun e w'=>e= .returned v∧Below w.heap.size w w':=by
 refine(h (fun _=>none) w #[.agg x.a] (fun b cs hb=>by cases hb) ⟨_,_,rfl,⟨_,rfl,?_⟩,rfl⟩).mono ?_
 · exact z3k _ [.bool x.b0,.string x.s0,.bool x.b1,.string x.s1,.bool x.b2,.string x.s2,.bool x.b3,.string x.s3,.bool x.b4,.string x.s4]
 · rintro e w' ⟨y,v',I,rfl,rfl,hr,_,_,hb,_⟩
   exact⟨by rw[show y=v from hr],hb⟩
theorem z2x{W W':World}(h:Below W.heap.size W W')(B:Nat):KeepsFrom B W W':=⟨h.size,fun _ _ _ hk _=>(h.block _ (Array.getElem?_eq_some_iff.1 hk).1).trans hk⟩
theorem z1q{β:Type}(n B:Nat)(c:β→Array Value)(T:TypeId):OwnFrom n (fun(s:β) W=>W.heap[B]?=some (.cells (c s) T (0,0))):=fun _ _ _ _ hs hg hr=>
 (hg.block B (Array.getElem?_eq_some_iff.1 hs).1 (fun e=>by obtain⟨_,o,ho,hc⟩:=hr B e.symm;rw[hs]at ho;cases ho;cases hc)).trans hs
abbrev RNS:={x:RN//x.raw 1000000=true}
abbrev enR(p:Nat×RNS):Array Value:= #[.int .i64 p.1,.agg p.2.1.a]
theorem z6e:Tryz.prog.cellsOf 39=10:=by kernel_rfl
theorem z7F:Tryz.prog.cellsOf 51=30:=by kernel_rfl
theorem znI: ∃i,Tryz.prog.info? 39=some i:=Option.isSome_iff_exists.1 (by kernel_rfl)
theorem RN.a_size(x:RN):x.a.size=10:=rfl
theorem RN.a_one(x:RN): ∀v∈x.a.toList,v.oneCell'=true:=by
 intro v hv
 simp only[RN.a,List.mem_cons,List.not_mem_nil,or_false]at hv
 rcases hv with rfl|rfl|rfl|rfl|rfl|rfl|rfl|rfl|rfl|rfl<;>rfl
theorem z8v(x:RN)(w:World)(c:Array Value)(hc:c.size=10):(Instr.storeAt 39 (.pointer (some ⟨w.heap.size,0,none⟩)) (.agg x.a)).run Tryz.prog (w.alloc (.cells c 39))= .ok () (w.alloc (.cells x.a 39)):=by
 obtain⟨i,hi⟩:=znI
 exact z95 hi (by rw[z6e];rfl) hc x.a_one
theorem zaS{x:RN}{w:World}{b:Nat}(h:w.heap[b]?=some (.cells x.a 39 (0,0))):(Instr.loadAt 39 (.pointer (some ⟨b,0,none⟩))).run Tryz.prog w= .ok (.agg x.a) w:=
 z44 Tryz.underlying39 h (by rw[z6e];rfl) (by rw[z6e];rfl)
theorem zg5{v:Array Value}(hv:v.size=30){w:World}{b:Nat}(h:w.heap[b]?=some (.cells v 51 (0,0))):(Instr.loadAt 51 (.pointer (some ⟨b,0,none⟩))).run Tryz.prog w= .ok (.agg v) w:=
 z44 Tryz.underlying51 h (by rw[z7F,List.drop_zero,List.take_of_length_le (by simp;omega)]) (by rw[z7F,hv])
theorem zjZ (F : Fence) (n : Nat) (h1 : F.fn 148) (h2 : F.fn 212) (h3 : F.fn 247) (h4 : F.fn 154) (hro : F.round = none) (hn : 6 ≤ n)
    (hV: ∀(m:Nat) (x:RNS) (W:World),CallsIn F m Tryz.prog 154 #[.agg x.1.a] W fun e W'=>e= .returned (.bool x.1.ok)∧Below W.heap.size W W')
    (x0:Bool) (x1:ByteArray) (x2:Bool) (x3:ByteArray) (x4:Bool) (x5:ByteArray) (x6:Bool) (x7:ByteArray) (x8:Bool) (x9:ByteArray) (y0:Bool) (y1:ByteArray) (y2:Bool) (y3:ByteArray) (y4:Bool) (y5:ByteArray) (y6:Bool) (y7:ByteArray) (y8:Bool) (y9:ByteArray) (z0:Bool) (z1:ByteArray) (z2:Bool) (z3:ByteArray) (z4:Bool) (z5:ByteArray) (z6:Bool) (z7:ByteArray) (z8:Bool) (z9:ByteArray) (hx:RN.raw 1000000 ⟨x0,x1,x2,x3,x4,x5,x6,x7,x8,x9⟩=true) (hy:RN.raw 1000000 ⟨y0,y1,y2,y3,y4,y5,y6,y7,y8,y9⟩=true) (hz:RN.raw 1000000 ⟨z0,z1,z2,z3,z4,z5,z6,z7,z8,z9⟩=true) (v:Array Value) (hv:v.toList=[.bool x0,.string x1,.bool x2,.string x3,.bool x4,.string x5,.bool x6,.string x7,.bool x8,.string x9,.bool y0,.string y1,.bool y2,.string y3,.bool y4,.string y5,.bool y6,.string y7,.bool y8,.string y9,.bool z0,.string z1,.bool z2,.string z3,.bool z4,.string z5,.bool z6,.string z7,.bool z8,.string z9]) (w:World):
    CallsIn F n Tryz.prog 148 #[.agg v] w fun e W'=>e= .returned (.bool (ok3 ⟨x0,x1,x2,x3,x4,x5,x6,x7,x8,x9⟩ ⟨y0,y1,y2,y3,y4,y5,y6,y7,y8,y9⟩ ⟨z0,z1,z2,z3,z4,z5,z6,z7,z8,z9⟩))∧Below w.heap.size w W':=by
 have h1n:1≤n:=by omega
 refine callsIn_of_wp_marks Tryz.func148 rfl h1 ?_ hro
 simp only[Tryz.ntmps148,List.size_toArray,List.length_cons,List.length_nil,Nat.reduceAdd,Nat.reduceSub,Array.replicate_succ,Array.replicate_zero,List.push_toArray,List.append_toArray,List.nil_append,List.cons_append]
 have hvs:v.size=30:=by rw[←Array.length_toList,hv];rfl
 have hb:((w.alloc (.cells v 51)).alloc (.cells #[.bool false] 4)).heap[w.heap.size]?=some (.cells v 51 (0,0)):=
  (Below.heap_alloc _ _ _ (by simp)).trans (World.alloc_heap_new w _)
 have hl:=zg5 hvs hb
 gi_wp2_with (first|(gi_at_call 212;refine(zrc F (n-1) h2 hro _ _).mono ?_;rintro e w' ⟨rfl,rfl⟩)|refine z0h rfl rfl rfl hl ?_)
 clear hb hl
 have bR:=(Boxed.new (w.alloc (.cells v 51)) 4 (.bool false)).alloc (.cells v 51)
 rw[World.size_alloc]at bR
 have hB0:Below w.heap.size w (((w.alloc (.cells v 51)).alloc (.cells #[.bool false] 4)).alloc (.cells v 51)):=(((Below.refl _ w).alloc (Nat.le_refl _) _).alloc (by simp) _).alloc (by simp;omega) _
 have hsz:(((w.alloc (.cells v 51)).alloc (.cells #[.bool false] 4)).alloc (.cells v 51)).heap.size=w.heap.size+3:=by simp
 have bV:(((w.alloc (.cells v 51)).alloc (.cells #[.bool false] 4)).alloc (.cells v 51)).heap[w.heap.size+1+1]?=some (.cells v 51 (0,0)):=by
  have:=World.alloc_heap_new ((w.alloc (.cells v 51)).alloc (.cells #[.bool false] 4)) (.cells v 51)
  rwa[World.size_alloc,World.size_alloc]at this
 obtain⟨W0,hW0⟩: ∃W0,(((w.alloc (.cells v 51)).alloc (.cells #[.bool false] 4)).alloc (.cells v 51))=W0:=⟨_,rfl⟩
 rw[hW0]at bR bV hB0 hsz ⊢
 clear hW0
 have bV:W0.heap[w.heap.size+1+1]?=some (.cells #[.bool x0,.string x1,.bool x2,.string x3,.bool x4,.string x5,.bool x6,.string x7,.bool x8,.string x9,.bool y0,.string y1,.bool y2,.string y3,.bool y4,.string y5,.bool y6,.string y7,.bool y8,.string y9,.bool z0,.string z1,.bool z2,.string z3,.bool z4,.string z5,.bool z6,.string z7,.bool z8,.string z9] 51 (0,0)):=by rw[bV,←hv]
 refine wpIn_rangeFunc_ownH hro h1n (gf:=247) (lb:= #[.pointer (some ⟨w.heap.size+1+1,0,none⟩)]) rfl h3 (enters_of Tryz.func247 (by kernel_rfl) rfl)
  (zc4 enR (0,⟨_,hx⟩) (1,⟨_,hy⟩) (2,⟨_,hz⟩) F (n-1) h3 hro (by omega) (w.heap.size+1+1) w.heap.size x0 x1 x2 x3 x4 x5 x6 x7 x8 x9 y0 y1 y2 y3 y4 y5 y6 y7 y8 y9 z0 z1 z2 z3 z4 z5 z6 z7 z8 z9 W0 (by omega) bV rfl rfl rfl) belowK_t (belowK_b (by omega)) (Below.refl _ _) (fun _=>rfl)
  (fun pre W=>((∀p∈pre,p.2.1.ok=true)∧Boxed W (w.heap.size+1) 4 (.bool false))∧Below w.heap.size w W)
  (fun c pre W=>((c= .ret∧ ∃p∈pre,p.2.1.ok=false)∧Boxed W (w.heap.size+1) 4 (.bool false))∧Below w.heap.size w W)
  (OwnFrom.and (OwnFrom.and (ownFrom_pure _ _) (Own.from (boxed_own _ _ _) _)) (ownFrom_below (Nat.le_refl _) (by omega)))
  (fun c=>OwnFrom.and (OwnFrom.and (ownFrom_pure _ _) (Own.from (boxed_own _ _ _) _)) (ownFrom_below (Nat.le_refl _) (by omega)))
  ⟨⟨by simp,bR⟩,hB0⟩
  (fun x a' W=> ∃Bx,w.heap.size+1<Bx∧W.heap[Bx]?=some (.cells x.2.1.a 39 (0,0))∧a'={tmps:= #[.agg v,.pointer (some ⟨w.heap.size,0,none⟩),.pointer (some ⟨w.heap.size+1,0,none⟩),undef,.pointer (some ⟨Bx,0,none⟩),.agg v,.func (.func 247) #[] #[.pointer (some ⟨w.heap.size+1+1,0,none⟩)],.int .i64 x.1,.agg x.2.1.a,undef,undef,undef],defers:=[]})
  (fun x a' _ X Y row hs hg hr=>by obtain⟨Bx,e1,e2,e3⟩:=hs;exact⟨Bx,e1,z1q _ Bx (fun(_:Unit)=>x.2.1.a) 39 () X Y row e2 hg hr,e3⟩)
  ?assign ?body ?done ?stop
 case assign=>
  rintro l pre x W K ⟨⟨hp,bR1⟩,hB1⟩ hK
  dsimp only[enR]
  have hst:=z8v x.2.1 W #[.bool false,.string ⟨#[]⟩,.bool false,.string ⟨#[]⟩,.bool false,.string ⟨#[]⟩,.bool false,.string ⟨#[]⟩,.bool false,.string ⟨#[]⟩] rfl
  gi_wp2_with (refine z2Y rfl rfl rfl rfl hst ?_)
  exact hK _ _ ((KeepsOthers.alloc _ _).from _) ((Below.refl _ W).alloc hB1.size _) ⟨⟨hp,bR1.alloc _⟩,hB1.alloc hB1.size _⟩ ⟨W.heap.size,bR1.lt,World.alloc_heap_new W _,rfl⟩
 case body=>
  rintro l pre x a' W hl ⟨r,hr⟩ ⟨⟨hp,bR1⟩,hB1⟩ ⟨Bx,hBx,bX,rfl⟩ hlt
  have hld:=zaS bX
  have h1':1≤n-1-1:=by omega
  have cR: ∀W2,Below W.heap.size W W2→Boxed W2 (w.heap.size+1) 4 (.bool false):=fun W2 h=>(h.block _ bR1.lt).trans bR1
  gi_wp2_with (first|(gi_at_call 154;refine(CallsIn.inRound l (hV _ x.2 _)).mono ?_;rintro e W2 ⟨rfl,hBW⟩;have bR2:=cR _ hBW;have c2:=bR2.cell;have f2:=bR2.frozen)|refine z0h rfl rfl rfl hld ?_)
  · rename_i hk
    have hk':x.2.1.ok=false:=by simpa using hk
    exact⟨(z2x hBW _).trans ((KeepsOthers.setCell _ _ _).from _),⟨⟨rfl,x,List.mem_append.2 (.inr (by simp)),hk'⟩,bR2.set _⟩,(hB1.trans (hBW.mono hB1.size)).setCell (p:=⟨w.heap.size+1,0,none⟩) (by simp) _⟩
  · rename_i hk
    have hk':x.2.1.ok=true:=by simpa using hk
    exact⟨z2x hBW _,hBW.mono hB1.size,⟨fun p hp'=>(List.mem_append.1 hp').elim (hp p) (fun e=>by simp at e;subst e;exact hk'),bR2⟩,hB1.trans (hBW.mono hB1.size)⟩
 case done=>
  rintro D zs W hD rfl ⟨⟨hp,bR1⟩,hB1⟩ hK
  have cR:=bR1.cell
  have fR:=bR1.frozen
  gi_wp2
  have hK':=(KeepsOthers.setCell W ⟨w.heap.size+1,0,none⟩ (.bool true)).same D _ hK rfl
  refine⟨by simp,.inl ⟨_,_,rfl,run_takeDeferred hK',?_⟩⟩
  have hc5:=cell_kept (bR1.set (.bool true)).cell (grownBy_putObj' _ D (.deferred none)) (fun r e=>by cases e;exact⟨_,hK',rfl⟩)
  refine⟨.bool true,?_,?_,(hB1.setCell (p:=⟨w.heap.size+1,0,none⟩) (by simp) _).trans (belowK_b (w:=w) (Nat.le_refl _) _ D _ _ (by omega) hK' rfl rfl)⟩
  · simp[results,Tryz.f148,go_sem,hc5]
  · have q0:=hp _ (List.mem_cons_self ..)
    have q1:=hp _ (List.mem_cons_of_mem _ (List.mem_cons_self ..))
    have q2:=hp _ (List.mem_cons_of_mem _ (List.mem_cons_of_mem _ (List.mem_cons_self ..)))
    unfold ok3
    rw[q0,q1,q2];rfl
 case stop=>
  rintro D c pre W hD hpre ⟨⟨⟨rfl,x,hx,hy⟩,bR1⟩,hB1⟩ hK
  gi_wp2
  refine⟨by simp,.inl ⟨_,_,rfl,run_takeDeferred hK,?_⟩⟩
  have hc5:=cell_kept bR1.cell (grownBy_putObj' _ D (.deferred none)) (fun r e=>by cases e;exact⟨_,hK,rfl⟩)
  refine⟨.bool false,?_,?_,hB1.trans (belowK_b (w:=w) (Nat.le_refl _) W D _ _ (by omega) hK rfl rfl)⟩
  · simp[results,Tryz.f148,go_sem,hc5]
  · have hm:=hpre.subset hx
    simp only[List.mem_cons,List.not_mem_nil,or_false]at hm
    unfold ok3
    rcases hm with rfl|rfl|rfl<;>rw[hy]<;>simp
theorem zqC(x y z:RN)(h:z46 1000000 x y z=true):PCall P 148 [z2k x y z] (.lit (.bool (ok3 x y z))):=by
 obtain⟨hx,hy,hz⟩:=Y6.1 h
 intro Im w vs hIm hvs
 obtain⟨y0,ys,e1,⟨arr,rfl,hr⟩,e2⟩:=hvs
 have e3:vs= #[.agg arr]:=by
  apply Array.ext'
  rw[e1,e2]
 subst e3
 have ha:arr.toList=(x.a.toList++(y.a.toList++z.a.toList)):=z1Q hr
 obtain⟨x0,x1,x2,x3,x4,x5,x6,x7,x8,x9⟩:=x
 obtain⟨y0,y1,y2,y3,y4,y5,y6,y7,y8,y9⟩:=y
 obtain⟨z0,z1,z2,z3,z4,z5,z6,z7,z8,z9⟩:=z
 refine(callsIn_wide.1 (zjZ Fence.wide 6 trivial trivial trivial trivial rfl (Nat.le_refl _) (fun m x W=>callsIn_wide.2 (PCall.num (zab x.1 x.2) W)) _ _ _ _ _ _ _ _ _ _ _ _ _ _ _ _ _ _ _ _ _ _ _ _ _ _ _ _ _ _ hx hy hz arr ha w)).mono ?_
 rintro e w' ⟨rfl,hB⟩
 exact⟨_,_,Im,rfl,rfl,rfl,Im.le_refl,(fun b cs hb=>by obtain⟨c,T,fz,k1,k2⟩:=hIm b cs hb;exact⟨c,T,fz,(hB.block b (Array.getElem?_eq_some_iff.1 k1).1).trans k1,k2⟩),hB,fun b hb=> .inl hb⟩
end Go.Fw
open Go
namespace Go.Fw
set_option maxRecDepth 100000
theorem zeM(v:VN)(h:v.raw 1000000=true):PCall P 148 [v.c] (.lit (.bool v.ok)):=zqC v.x v.y v.z h
theorem zfJ(x y z:K)(hx:x.sz≤1000000)(hy:y.sz≤1000000)(hz:z.sz≤1000000):PCall P 148 [z1l x y z] (.lit (.bool true)):=by
 have h:=zeM (ofV (some ⟨x,y,z⟩)) (z7I (by show max x.sz (max y.sz z.sz)≤1000000;omega))
 rw[zak (zdU (some ⟨x,y,z⟩))]at h
 exact h
end Go.Fw
open Go IntKind
namespace Go.Fw
set_option maxRecDepth 100000
theorem znT(f:Nat)(v w:VN)(g:v.ok=false)(s5_0:VN.raw 1000000 v=true):PCall P 205 [.agg [CV.lit (Value.func (Fn.func f) #[] #[])],v.c,w.c] V4:=
 j3 (.r 5 ((zeM (v) s5_0).eqB g) (.c (lq 30 30) .nil)) (by kernel_rfl)
theorem zmz(f:Nat)(v w:VN)(g:v.ok=true)(g2:w.ok=false)(s5_0:VN.raw 1000000 v=true)(s9_0:VN.raw 1000000 w=true):PCall P 205 [.agg [CV.lit (Value.func (Fn.func f) #[] #[])],v.c,w.c] V4:=
 j3 (.r 5 ((zeM (v) s5_0).eqB g) (.r 9 ((zeM (w) s9_0).eqB g2) (.c (lq 30 30) .nil))) (by kernel_rfl)
theorem zmY(x y z x' y' z':K)(s5_0:x.sz≤1000000)(s5_1:y.sz≤1000000)(s5_2:z.sz≤1000000)(s9_0:x'.sz≤1000000)(s9_1:y'.sz≤1000000)(s9_2:z'.sz≤1000000)(s19_0:x.sz+x'.sz+2<1073741824)(s26_0:y.sz+y'.sz+2<1073741824)(s33_0:z.sz+z'.sz+2<1073741824):PCall P 205 [.agg [CV.lit (Value.func (Fn.func 135) #[] #[])],z1l x y z,z1l x' y' z'] (z1l (x-x') (y-y') (z-z')):=
 j3 (.r 5 (zfJ (x) (y) (z) s5_0 s5_1 s5_2) (.r 9 (zfJ (x') (y') (z') s9_0 s9_1 s9_2) (.r 19 (za1 (x) (x') s19_0) (.r 26 (za1 (y) (y') s26_0) (.r 33 (za1 (z) (z') s33_0) (.c (lq 30 30) .nil)))))) (by kernel_rfl)
theorem zpK(x y z x' y' z':K)(s5_0:x.sz≤1000000)(s5_1:y.sz≤1000000)(s5_2:z.sz≤1000000)(s9_0:x'.sz≤1000000)(s9_1:y'.sz≤1000000)(s9_2:z'.sz≤1000000)(s19_0:x.sz+x'.sz+2<1073741824)(s26_0:y.sz+y'.sz+2<1073741824)(s33_0:z.sz+z'.sz+2<1073741824):PCall P 205 [.agg [CV.lit (Value.func (Fn.func 136) #[] #[])],z1l x y z,z1l x' y' z'] (z1l (x*x') (y*y') (z*z')):=
 j3 (.r 5 (zfJ (x) (y) (z) s5_0 s5_1 s5_2) (.r 9 (zfJ (x') (y') (z') s9_0 s9_1 s9_2) (.r 19 (z3Z (x) (x') s19_0) (.r 26 (z3Z (y) (y') s26_0) (.r 33 (z3Z (z) (z') s33_0) (.c (lq 30 30) .nil)))))) (by kernel_rfl)
theorem zqT(a b c:Int)(s2_0:(-9223372036854775808:Int)≤a∧a≤9223372036854775807)(s4_0:(-9223372036854775808:Int)≤b∧b≤9223372036854775807)(s6_0:(-9223372036854775808:Int)≤c∧c≤9223372036854775807):PCall P 139 [j6 a,j6 b,j6 c] (z1l (K.ofInt a) (K.ofInt b) (K.ofInt c)):=
 j3 (.r 2 (z0D (a) s2_0) (.r 4 (z0D (b) s4_0) (.r 6 (z0D (c) s6_0) (.c (lq 30 30) .nil)))) (by kernel_rfl)
end Go.Fw
open Go
namespace Go.Fw
set_option maxRecDepth 100000
abbrev opC(f:Nat):CV:= .agg [.lit (.func (.func f) #[] #[])]
def V3.pmul(a b:V3):V3:=⟨a.x*b.x,a.y*b.y,a.z*b.z⟩
noncomputable def z5p(v w:VN):VN:=ofV (o2 V3.pmul (toV v) (toV w))
noncomputable def oV(a b c:Int):VN:=ofV (toV (ofV (some ⟨K.ofInt a,K.ofInt b,K.ofInt c⟩)))
theorem zdv(a b c:Int):oV a b c=ofV (some ⟨K.ofInt a,K.ofInt b,K.ofInt c⟩):=by unfold oV;rw[zdU]
theorem zqk (f : Nat) (g : V3 → V3 → V3) (v w : VN) (hv : v.raw 1000000 = true) (hw : w.raw 1000000 = true)
    (h: ∀a b:V3,a.x.sz≤1000000→a.y.sz≤1000000→a.z.sz≤1000000→b.x.sz≤1000000→b.y.sz≤1000000→b.z.sz≤1000000→PCall P 205 [opC f,a.c,b.c] (g a b).c):
    PCall P 205 [opC f,v.c,w.c] (ofV (o2 g (toV v) (toV w))).c:=by
 cases ev:toV v with
 |none=>exact znT f v w (z36 ev) hv
 |some a=>
  cases ew:toV w with
  |none=>exact zmz f v w (zak ev) (z36 ew) hv hw
  |some b=>
   obtain⟨x,y,z⟩:=z1t ev hv
   obtain⟨x',y',z'⟩:=z1t ew hw
   rw[zbL ev,zbL ew]
   exact h a b x y z x' y' z'
theorem zrH(v w:VN)(hv:v.raw 1000000=true)(hw:w.raw 1000000=true):PCall P 205 [opC 135,v.c,w.c] (zeD v w).c:=
 zqk 135 V3.sub v w hv hw fun a b x y z x' y' z'=>zmY _ _ _ _ _ _ x y z x' y' z' (by omega) (by omega) (by omega)
theorem znQ(v w:VN)(hv:v.raw 1000000=true)(hw:w.raw 1000000=true):PCall P 205 [opC 136,v.c,w.c] (z5p v w).c:=
 zqk 136 V3.pmul v w hv hw fun a b x y z x' y' z'=>zpK _ _ _ _ _ _ x y z x' y' z' (by omega) (by omega) (by omega)
theorem znZ(v:VN)(k:RN)(hv:v.raw 1000000=true)(hk:k.raw 1000000=true):PCall P 205 [opC 136,v.c,z2k k k k] (z5p v ⟨k,k,k⟩).c:=
 znQ v ⟨k,k,k⟩ hv (Y6.2 ⟨hk,hk,hk⟩)
theorem zpy (a b c : Int) (ha : -9223372036854775808 ≤ a ∧ a ≤ 9223372036854775807) (hb : -9223372036854775808 ≤ b ∧ b ≤ 9223372036854775807) (hc : -9223372036854775808 ≤ c ∧ c ≤ 9223372036854775807) :
    PCall P 139 [j6 a,j6 b,j6 c] (oV a b c).c:=by rw[zdv];exact zqT a b c ha hb hc
end Go.Fw
open Go IntKind
namespace Go.Fw
set_option maxRecDepth 100000
theorem zjm(v w:VN)(s6_0:VN.raw 1000000 v=true)(s6_1:VN.raw 1000000 w=true):PCall P 171 [v.c,w.c] (z2k (zeD v w).x (zeD v w).y (zeD v w).z):=
 j3 (.r 6 (zrH (v) (w) s6_0 s6_1) (.c (lq 30 30) .nil)) (by kernel_rfl)
theorem ziM(v w:VN)(s6_0:VN.raw 1000000 v=true)(s6_1:VN.raw 1000000 w=true)(s13_0:RN.raw 1000000 (z5p v w).x=true)(s13_1:RN.raw 1000000 (z5p v w).y=true)(s16_0:RN.raw 1000000 (z3n (z5p v w).x (z5p v w).y)=true)(s16_1:RN.raw 1000000 (z5p v w).z=true):PCall P 149 [v.c,w.c] (RN.c (z3n (z3n (z5p v w).x (z5p v w).y) (z5p v w).z)):=
 j3 (.r 6 (znQ (v) (w) s6_0 s6_1) (.c (lq 30 30) (.r 13 (z89 ((z5p v w).x) ((z5p v w).y) s13_0 s13_1) (.r 16 (z89 (z3n (z5p v w).x (z5p v w).y) ((z5p v w).z) s16_0 s16_1) (.c (lq 10 10) .nil))))) (by kernel_rfl)
end Go.Fw
open Go IntKind
namespace Go.Fw
set_option maxRecDepth 100000
theorem zjb(v:VN)(k:RN)(s9_0:VN.raw 1000000 v=true)(s9_1:RN.raw 1000000 k=true):PCall P 142 [v.c,k.c] (z2k (z5p v {x:=k,y:=k,z:=k}).x (z5p v {x:=k,y:=k,z:=k}).y (z5p v {x:=k,y:=k,z:=k}).z):=
 j3 (.r 9 (znZ (v) (k) s9_0 s9_1) (.c (lq 30 30) .nil)) (by kernel_rfl)
theorem zmW(v:VN)(s3_0 s3_1 s3_2:(-9223372036854775808:Int)≤0∧(0:Int)≤9223372036854775807):PCall P 163 [v.c] (.lit (.bool (rnB v.x (oV (0:Int) (0:Int) (0:Int)).x&&(rnB v.y (oV (0:Int) (0:Int) (0:Int)).y&&(rnB v.z (oV (0:Int) (0:Int) (0:Int)).z&&true))))):=
 j3 (.r 3 (zpy ((0:Int)) ((0:Int)) ((0:Int)) s3_0 s3_1 s3_2) .nil) (by kernel_rfl)
end Go.Fw
open Go
namespace Go.Fw
set_option maxRecDepth 100000
theorem zpC(v w:VN)(hv:v.raw 1000000=true)(hw:w.raw 1000000=true):PCall P 171 [v.c,w.c] (zeD v w).c:=zjm v w hv hw
theorem zbQ(v:VN)(k:RN):z5p v ⟨k,k,k⟩=z0A v k:=by
 unfold z5p z0A
 cases ev:toV v with
 |none=>rfl
 |some a=>
  have e:toV ⟨k,k,k⟩=(toO k).map fun c=>⟨c,c,c⟩:=by
   unfold toV
   cases ek:toO k<;>rfl
  rw[e]
  cases ek:toO k<;>rfl
theorem zfF(v:VN)(k:RN)(hv:v.raw 1000000=true)(hk:k.raw 1000000=true):PCall P 142 [v.c,k.c] (z0A v k).c:=by
 rw[←zbQ]
 exact zjb v k hv hk
theorem zbo(v w:VN):z3n (z3n (z5p v w).x (z5p v w).y) (z5p v w).z=zas v w:=by
 unfold zas z5p
 cases ev:toV v with
 |none=>show z3n (z3n .zero .zero) .zero= .zero;unfold z3n;rw[z5D];rfl
 |some a=>
  cases ew:toV w with
  |none=>show z3n (z3n .zero .zero) .zero= .zero;unfold z3n;rw[z5D];rfl
  |some b=>
   show z3n (z3n (.ofK (a.x*b.x)) (.ofK (a.y*b.y))) (.ofK (a.z*b.z))= .ofK (a.x*b.x+a.y*b.y+a.z*b.z)
   unfold z3n
   simp only[z79,z7S]
   rfl
theorem znD(v w:VN)(hv:v.raw 1000=true)(hw:w.raw 1000=true):PCall P 149 [v.c,w.c] (zas v w).c:=by
 have hm:(z5p v w).raw 10000=true:=by
  refine z7I ?_
  cases ev:toV v with
  |none=>exact Nat.zero_le _
  |some a=>
   cases ew:toV w with
   |none=>exact Nat.zero_le _
   |some b=>
    obtain⟨x,y,z⟩:=z1t ev hv
    obtain⟨x',y',z'⟩:=z1t ew hw
    have m1:=K.sz_mul a.x b.x
    have m2:=K.sz_mul a.y b.y
    have m3:=K.sz_mul a.z b.z
    show max (a.x*b.x).sz (max (a.y*b.y).sz (a.z*b.z).sz)≤10000
    omega
 obtain⟨h1,h2,h3⟩:=Y6.1 hm
 have h:=ziM v w (VN.raw_mono hv (by decide)) (VN.raw_mono hw (by decide)) (RN.raw_mono h1 (by decide)) (RN.raw_mono h2 (by decide)) (RN.raw_mono (zdy h1 h2) (by decide)) (RN.raw_mono h3 (by decide))
 rwa[zbo]at h
noncomputable def zV(v:VN):Bool:=rnB v.x (oV 0 0 0).x&&(rnB v.y (oV 0 0 0).y&&(rnB v.z (oV 0 0 0).z&&true))
theorem z9n(v:VN):PCall P 163 [v.c] (.lit (.bool (zV v))):=zmW v (by decide) (by decide) (by decide)
end Go.Fw
open Go
namespace Go.Fw
set_option maxRecDepth 100000
def plR(x y z d:RN):CV:= .agg (x.l++(y.l++(z.l++d.l)))
def z0R:CV:=plR .zero .zero .zero .zero
structure PN where
 n:VN
 d:RN
def PN.c(p:PN):CV:=plR p.n.x p.n.y p.n.z p.d
def PN.zero:PN:=⟨.zero,.zero⟩
def PN.raw(k:Nat)(p:PN):Bool:=p.n.raw k&&p.d.raw k
theorem PN.raw_iff{k:Nat}{p:PN}:p.raw k=true↔p.n.raw k=true∧p.d.raw k=true:=by unfold PN.raw;simp
theorem zhi (a b c : Int) (ha : -9223372036854775808 ≤ a ∧ a ≤ 9223372036854775807) (hb : -9223372036854775808 ≤ b ∧ b ≤ 9223372036854775807) (hc : -9223372036854775808 ≤ c ∧ c ≤ 9223372036854775807) :
    PCall P 63 [j6 a,j6 b,j6 c] (oV a b c).c:=by rw[zdv];exact zi6 a b c ha hb hc
end Go.Fw
open Go
namespace Go.Fw
set_option maxRecDepth 100000
theorem sgn_zero{x:K}:K.sgn x=0↔x=0:=Sg.zero x
noncomputable def z0f(x y:RN):RN×Int:=match toO x,toO y with
 |some a,some b=>if K.sgn b=0 then(.zero,10)else(.ofK (K.div a b),0)
 |_,_=>(.zero,1)
theorem zmS(x y:RN)(hx:x.raw 1000000=true)(hy:y.raw 1000000=true):PCall P 147 [x.c,y.c] (.tup [(z0f x y).1.c,j6 (z0f x y).2]):=by
 unfold z0f
 cases ex:toO x with
 |none=>exact zlb x y (U4 ex) hx
 |some k=>
  cases ey:toO y with
  |none=>exact zje x y (z0I ex).1 (U4 ey) hx hy
  |some l=>
   have a:=z0c ex hx
   have b:=z0c ey hy
   rw[z8B (z0I ex).2,z8B (z0I ey).2]
   dsimp only
   by_cases h0:K.sgn l=0
   · rw[if_pos h0,sgn_zero.1 h0]
     exact znV k (by simp only[Smk];omega)
   · rw[if_neg h0]
     exact zhG k l (fun h=>h0 (sgn_zero.2 h)) (by omega)
noncomputable def z1H(x:RN):RN:=if z15 x<0 then z4z x else z4z (z4z x)
end Go.Fw
open Go IntKind
namespace Go.Fw
set_option maxRecDepth 100000
theorem znW(x:RN)(h1:decide (z15 x<0)=true)(s3_0 s7_0:RN.raw 1000000 x=true):PCall P 157 [x.c] (RN.c (z4z x)):=
 j3 (.r 3 (z2Q (x) s3_0) (.b 5 h1 (.r 7 (z8a (x) s7_0) (.c (lq 10 10) .nil)))) (by kernel_rfl)
theorem zmF(x:RN)(h1:decide (z15 x<0)=false)(s3_0 s7_0:RN.raw 1000000 x=true)(s8_0:RN.raw 1000000 (z4z x)=true):PCall P 157 [x.c] (RN.c (z4z (z4z x))):=
 j3 (.r 3 (z2Q (x) s3_0) (.b 5 h1 (.r 7 (z8a (x) s7_0) (.r 8 (z8a (z4z x) s8_0) (.c (lq 10 10) .nil))))) (by kernel_rfl)
theorem zmN(x y:RN)(s5_0:RN.raw 1000000 x=true)(s5_1:RN.raw 1000000 y=true):PCall P 156 [x.c,y.c] (RN.c (z0f x y).fst):=
 j3 (.r 5 (zmS (x) (y) s5_0 s5_1) (.c (lq 10 10) (.c (lq 10 10) .nil))) (by kernel_rfl)
theorem zoj(p:PN)(h1:(p.n.ok)=true)(h2:(zV p.n)=true)(s4_0:VN.raw 1000000 p.n=true):PCall P 79 [p.c] (.lit (.bool false)):=
 j3 (.r 4 ((zeM (p.n) s4_0).eqB h1) (.r 8 ((z9n (p.n)).eqB h2) .nil)) (by kernel_rfl)
theorem zqv(p:PN)(h1:(p.n.ok)=true)(h2:(zV p.n)=false)(h3:(p.d.ok)=true)(s4_0:VN.raw 1000000 p.n=true)(s14_0:RN.raw 1000000 p.d=true):PCall P 79 [p.c] (.lit (.bool true)):=
 j3 (.r 4 ((zeM (p.n) s4_0).eqB h1) (.r 8 ((z9n (p.n)).eqB h2) (.r 14 ((z0d (p.d) s14_0).eqB h3) .nil))) (by kernel_rfl)
theorem zmO(p:PN)(h1:(p.n.ok)=true)(h2:(zV p.n)=false)(h3:(p.d.ok)=false)(s4_0:VN.raw 1000000 p.n=true)(s14_0:RN.raw 1000000 p.d=true):PCall P 79 [p.c] (.lit (.bool false)):=
 j3 (.r 4 ((zeM (p.n) s4_0).eqB h1) (.r 8 ((z9n (p.n)).eqB h2) (.r 14 ((z0d (p.d) s14_0).eqB h3) .nil))) (by kernel_rfl)
theorem zpB(p:PN)(h1:(p.n.ok)=false)(s4_0:VN.raw 1000000 p.n=true):PCall P 79 [p.c] (.lit (.bool false)):=
 j3 (.r 4 ((zeM (p.n) s4_0).eqB h1) .nil) (by kernel_rfl)
end Go.Fw
