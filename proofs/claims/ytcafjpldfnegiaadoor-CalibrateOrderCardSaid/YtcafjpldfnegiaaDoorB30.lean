/- A part of the proof that the law returns true for every input: an executor for the model's code, and what functions of the program compute. -/
import Derived.Test.YtcafjpldfnegiaaDoorB11
import Derived.Test.YtcafjpldfnegiaaDoorB15
import Derived.Test.YtcafjpldfnegiaaDoorB23
import Derived.Test.YtcafjpldfnegiaaDoorB26
import Derived.Test.YtcafjpldfnegiaaDoorB28
import Derived.Test.YtcafjpldfnegiaaDoorB29
import Derived.KernelRfl
open Go IntKind
open Go Go.RowKit Go.Shelf Go.Proofs
namespace Go.Fw
attribute [local go_sem] Oper.semAt_some
set_option maxRecDepth 100000
set_option maxHeartbeats 1000000
def RN.a(x:RN):Array Value:= #[.bool x.b0,.string x.s0,.bool x.b1,.string x.s1,.bool x.b2,.string x.s2,.bool x.b3,.string x.s3,.bool x.b4,.string x.s4]
theorem z7B(Im:Imm)(l:List Value):CV.repL Im (l.map .lit) l:=by
 induction l with
 |nil=>rfl
 |cons x xs ih=>exact⟨x,xs,rfl,rfl,ih⟩
theorem z2Q{Im:Imm}: ∀{l k:List Value},CV.repL Im (l.map .lit) k→k=l
 | [],_,h=>h
 |_::_,_,⟨_,_,e,h1,h2⟩=>by rw[e,show _=_ from h1,z2Q h2]
theorem PCall.num{f:FuncId}{x:RN}{v:Value}(h:PCall P f [.agg x.l] (.lit v))(w:World):Calls P f #[.agg x.a] w fun e w'=>e= .returned v∧Below w.heap.size w w':=by
 refine(h (fun _=>none) w #[.agg x.a] (fun b cs hb=>by cases hb) ⟨_,_,rfl,⟨_,rfl,?_⟩,rfl⟩).mono ?_
 · exact z7B _ [.bool x.b0,.string x.s0,.bool x.b1,.string x.s1,.bool x.b2,.string x.s2,.bool x.b3,.string x.s3,.bool x.b4,.string x.s4]
 · rintro e w' ⟨y,v',I,rfl,rfl,hr,_,_,hb,_⟩
   exact⟨by rw[show y=v from hr],hb⟩
theorem z3v{W W':World}(h:Below W.heap.size W W')(B:Nat):KeepsFrom B W W':=⟨h.size,fun _ _ _ hk _=>(h.block _ (Array.getElem?_eq_some_iff.1 hk).1).trans hk⟩
theorem z9b{β:Type}(n B:Nat)(c:β→Array Value)(T:TypeId):OwnFrom n (fun(s:β) W=>W.heap[B]?=some (.cells (c s) T (0,0))):=fun _ _ _ _ hs hg hr=>
 (hg.block B (Array.getElem?_eq_some_iff.1 hs).1 (fun e=>by obtain⟨_,o,ho,hc⟩:=hr B e.symm;rw[hs]at ho;cases ho;cases hc)).trans hs
abbrev RNS:={x:RN//x.raw 1000000=true}
abbrev enR(p:Nat×RNS):Array Value:= #[.int .i64 p.1,.agg p.2.1.a]
theorem z6s:Tryd.prog.cellsOf 28=10:=by kernel_rfl
theorem z9t:Tryd.prog.cellsOf 30=30:=by kernel_rfl
theorem zfZ: ∃i,Tryd.prog.info? 28=some i:=Option.isSome_iff_exists.1 (by kernel_rfl)
theorem RN.a_one(x:RN): ∀v∈x.a.toList,v.oneCell'=true:=by
 intro v hv
 simp only[RN.a,List.mem_cons,List.not_mem_nil,or_false]at hv
 rcases hv with rfl|rfl|rfl|rfl|rfl|rfl|rfl|rfl|rfl|rfl<;>rfl
theorem z8d(x:RN)(w:World)(c:Array Value)(hc:c.size=10):(Instr.storeAt 28 (.pointer (some ⟨w.heap.size,0,none⟩)) (.agg x.a)).run Tryd.prog (w.alloc (.cells c 28))= .ok () (w.alloc (.cells x.a 28)):=by
 obtain⟨i,hi⟩:=zfZ
 exact z5U hi (by rw[z6s];rfl) hc x.a_one
theorem zaE{x:RN}{w:World}{b:Nat}(h:w.heap[b]?=some (.cells x.a 28 (0,0))):(Instr.loadAt 28 (.pointer (some ⟨b,0,none⟩))).run Tryd.prog w= .ok (.agg x.a) w:=
 z6R Tryd.underlying28 h (by rw[z6s];rfl) (by rw[z6s];rfl)
theorem za2{v:Array Value}(hv:v.size=30){w:World}{b:Nat}(h:w.heap[b]?=some (.cells v 30 (0,0))):(Instr.loadAt 30 (.pointer (some ⟨b,0,none⟩))).run Tryd.prog w= .ok (.agg v) w:=
 z6R Tryd.underlying30 h (by rw[z9t,List.drop_zero,List.take_of_length_le (by simp;omega)]) (by rw[z9t,hv])
theorem zcO (F : Fence) (n : Nat) (h1 : F.fn 40) (h2 : F.fn 60) (h3 : F.fn 71) (h4 : F.fn 28) (hro : F.round = none) (hn : 6 ≤ n)
    (hV: ∀(m:Nat) (x:RNS) (W:World),CallsIn F m Tryd.prog 28 #[.agg x.1.a] W fun e W'=>e= .returned (.bool x.1.ok)∧Below W.heap.size W W')
    (x0:Bool) (x1:ByteArray) (x2:Bool) (x3:ByteArray) (x4:Bool) (x5:ByteArray) (x6:Bool) (x7:ByteArray) (x8:Bool) (x9:ByteArray) (y0:Bool) (y1:ByteArray) (y2:Bool) (y3:ByteArray) (y4:Bool) (y5:ByteArray) (y6:Bool) (y7:ByteArray) (y8:Bool) (y9:ByteArray) (z0:Bool) (z1:ByteArray) (z2:Bool) (z3:ByteArray) (z4:Bool) (z5:ByteArray) (z6:Bool) (z7:ByteArray) (z8:Bool) (z9:ByteArray) (hx:RN.raw 1000000 ⟨x0,x1,x2,x3,x4,x5,x6,x7,x8,x9⟩=true) (hy:RN.raw 1000000 ⟨y0,y1,y2,y3,y4,y5,y6,y7,y8,y9⟩=true) (hz:RN.raw 1000000 ⟨z0,z1,z2,z3,z4,z5,z6,z7,z8,z9⟩=true) (v:Array Value) (hv:v.toList=[.bool x0,.string x1,.bool x2,.string x3,.bool x4,.string x5,.bool x6,.string x7,.bool x8,.string x9,.bool y0,.string y1,.bool y2,.string y3,.bool y4,.string y5,.bool y6,.string y7,.bool y8,.string y9,.bool z0,.string z1,.bool z2,.string z3,.bool z4,.string z5,.bool z6,.string z7,.bool z8,.string z9]) (w:World):
    CallsIn F n Tryd.prog 40 #[.agg v] w fun e W'=>e= .returned (.bool (ok3 ⟨x0,x1,x2,x3,x4,x5,x6,x7,x8,x9⟩ ⟨y0,y1,y2,y3,y4,y5,y6,y7,y8,y9⟩ ⟨z0,z1,z2,z3,z4,z5,z6,z7,z8,z9⟩))∧Below w.heap.size w W':=by
 have h1n:1≤n:=by omega
 refine callsIn_of_wp_marks Tryd.func40 rfl h1 ?_ hro
 simp only[Tryd.ntmps40,List.size_toArray,List.length_cons,List.length_nil,Nat.reduceAdd,Nat.reduceSub,Array.replicate_succ,Array.replicate_zero,List.push_toArray,List.append_toArray,List.nil_append,List.cons_append]
 have hvs:v.size=30:=by rw[←Array.length_toList,hv];rfl
 have hb:((w.alloc (.cells v 30)).alloc (.cells #[.bool false] 4)).heap[w.heap.size]?=some (.cells v 30 (0,0)):=
  (Below.heap_alloc _ _ _ (by simp)).trans (World.alloc_heap_new w _)
 have hl:=za2 hvs hb
 gi_wp2_with (first|(gi_at_call 60;refine(zfk F (n-1) h2 hro _ _).mono ?_;rintro e w' ⟨rfl,rfl⟩)|refine z1B rfl rfl rfl hl ?_)
 clear hb hl
 have bR:=(Boxed.new (w.alloc (.cells v 30)) 4 (.bool false)).alloc (.cells v 30)
 rw[World.size_alloc]at bR
 have hB0:Below w.heap.size w (((w.alloc (.cells v 30)).alloc (.cells #[.bool false] 4)).alloc (.cells v 30)):=(((Below.refl _ w).alloc (Nat.le_refl _) _).alloc (by simp) _).alloc (by simp;omega) _
 have hsz:(((w.alloc (.cells v 30)).alloc (.cells #[.bool false] 4)).alloc (.cells v 30)).heap.size=w.heap.size+3:=by simp
 have bV:(((w.alloc (.cells v 30)).alloc (.cells #[.bool false] 4)).alloc (.cells v 30)).heap[w.heap.size+1+1]?=some (.cells v 30 (0,0)):=by
  have:=World.alloc_heap_new ((w.alloc (.cells v 30)).alloc (.cells #[.bool false] 4)) (.cells v 30)
  rwa[World.size_alloc,World.size_alloc]at this
 obtain⟨W0,hW0⟩: ∃W0,(((w.alloc (.cells v 30)).alloc (.cells #[.bool false] 4)).alloc (.cells v 30))=W0:=⟨_,rfl⟩
 rw[hW0]at bR bV hB0 hsz ⊢
 clear hW0
 have bV:W0.heap[w.heap.size+1+1]?=some (.cells #[.bool x0,.string x1,.bool x2,.string x3,.bool x4,.string x5,.bool x6,.string x7,.bool x8,.string x9,.bool y0,.string y1,.bool y2,.string y3,.bool y4,.string y5,.bool y6,.string y7,.bool y8,.string y9,.bool z0,.string z1,.bool z2,.string z3,.bool z4,.string z5,.bool z6,.string z7,.bool z8,.string z9] 30 (0,0)):=by rw[bV,←hv]
 refine wpIn_rangeFunc_ownH hro h1n (gf:=71) (lb:= #[.pointer (some ⟨w.heap.size+1+1,0,none⟩)]) rfl h3 (enters_of Tryd.func71 (by kernel_rfl) rfl)
  (z84 enR (0,⟨_,hx⟩) (1,⟨_,hy⟩) (2,⟨_,hz⟩) F (n-1) h3 hro (by omega) (w.heap.size+1+1) w.heap.size x0 x1 x2 x3 x4 x5 x6 x7 x8 x9 y0 y1 y2 y3 y4 y5 y6 y7 y8 y9 z0 z1 z2 z3 z4 z5 z6 z7 z8 z9 W0 (by omega) bV rfl rfl rfl) belowK_t (belowK_b (by omega)) (Below.refl _ _) (fun _=>rfl)
  (fun pre W=>((∀p∈pre,p.2.1.ok=true)∧Boxed W (w.heap.size+1) 4 (.bool false))∧Below w.heap.size w W)
  (fun c pre W=>((c= .ret∧ ∃p∈pre,p.2.1.ok=false)∧Boxed W (w.heap.size+1) 4 (.bool false))∧Below w.heap.size w W)
  (OwnFrom.and (OwnFrom.and (ownFrom_pure _ _) (Own.from (boxed_own _ _ _) _)) (ownFrom_below (Nat.le_refl _) (by omega)))
  (fun c=>OwnFrom.and (OwnFrom.and (ownFrom_pure _ _) (Own.from (boxed_own _ _ _) _)) (ownFrom_below (Nat.le_refl _) (by omega)))
  ⟨⟨by simp,bR⟩,hB0⟩
  (fun x a' W=> ∃Bx,w.heap.size+1<Bx∧W.heap[Bx]?=some (.cells x.2.1.a 28 (0,0))∧a'={tmps:= #[.agg v,.pointer (some ⟨w.heap.size,0,none⟩),.pointer (some ⟨w.heap.size+1,0,none⟩),undef,.pointer (some ⟨Bx,0,none⟩),.agg v,.func (.func 71) #[] #[.pointer (some ⟨w.heap.size+1+1,0,none⟩)],.int .i64 x.1,.agg x.2.1.a,undef,undef,undef],defers:=[]})
  (fun x a' _ X Y row hs hg hr=>by obtain⟨Bx,e1,e2,e3⟩:=hs;exact⟨Bx,e1,z9b _ Bx (fun(_:Unit)=>x.2.1.a) 28 () X Y row e2 hg hr,e3⟩)
  ?assign ?body ?done ?stop
 case assign=>
  rintro l pre x W K ⟨⟨hp,bR1⟩,hB1⟩ hK
  dsimp only[enR]
  have hst:=z8d x.2.1 W #[.bool false,.string ⟨#[]⟩,.bool false,.string ⟨#[]⟩,.bool false,.string ⟨#[]⟩,.bool false,.string ⟨#[]⟩,.bool false,.string ⟨#[]⟩] rfl
  gi_wp2_with (refine z3B rfl rfl rfl rfl hst ?_)
  exact hK _ _ ((KeepsOthers.alloc _ _).from _) ((Below.refl _ W).alloc hB1.size _) ⟨⟨hp,bR1.alloc _⟩,hB1.alloc hB1.size _⟩ ⟨W.heap.size,bR1.lt,World.alloc_heap_new W _,rfl⟩
 case body=>
  rintro l pre x a' W hl ⟨r,hr⟩ ⟨⟨hp,bR1⟩,hB1⟩ ⟨Bx,hBx,bX,rfl⟩ hlt
  have hld:=zaE bX
  have h1':1≤n-1-1:=by omega
  have cR: ∀W2,Below W.heap.size W W2→Boxed W2 (w.heap.size+1) 4 (.bool false):=fun W2 h=>(h.block _ bR1.lt).trans bR1
  gi_wp2_with (first|(gi_at_call 28;refine(CallsIn.inRound l (hV _ x.2 _)).mono ?_;rintro e W2 ⟨rfl,hBW⟩;have bR2:=cR _ hBW;have c2:=bR2.cell;have f2:=bR2.frozen)|refine z1B rfl rfl rfl hld ?_)
  · rename_i hk
    have hk':x.2.1.ok=false:=by simpa using hk
    exact⟨(z3v hBW _).trans ((KeepsOthers.setCell _ _ _).from _),⟨⟨rfl,x,List.mem_append.2 (.inr (by simp)),hk'⟩,bR2.set _⟩,(hB1.trans (hBW.mono hB1.size)).setCell (p:=⟨w.heap.size+1,0,none⟩) (by simp) _⟩
  · rename_i hk
    have hk':x.2.1.ok=true:=by simpa using hk
    exact⟨z3v hBW _,hBW.mono hB1.size,⟨fun p hp'=>(List.mem_append.1 hp').elim (hp p) (fun e=>by simp at e;subst e;exact hk'),bR2⟩,hB1.trans (hBW.mono hB1.size)⟩
 case done=>
  rintro D zs W hD rfl ⟨⟨hp,bR1⟩,hB1⟩ hK
  have cR:=bR1.cell
  have fR:=bR1.frozen
  gi_wp2
  have hK':=(KeepsOthers.setCell W ⟨w.heap.size+1,0,none⟩ (.bool true)).same D _ hK rfl
  refine⟨by simp,.inl ⟨_,_,rfl,run_takeDeferred hK',?_⟩⟩
  have hc5:=cell_kept (bR1.set (.bool true)).cell (grownBy_putObj' _ D (.deferred none)) (fun r e=>by cases e;exact⟨_,hK',rfl⟩)
  refine⟨.bool true,?_,?_,(hB1.setCell (p:=⟨w.heap.size+1,0,none⟩) (by simp) _).trans (belowK_b (w:=w) (Nat.le_refl _) _ D _ _ (by omega) hK' rfl rfl)⟩
  · simp[results,Tryd.f40,go_sem,hc5]
  · have q0:=hp _ (List.mem_cons_self ..)
    have q1:=hp _ (List.mem_cons_of_mem _ (List.mem_cons_self ..))
    have q2:=hp _ (List.mem_cons_of_mem _ (List.mem_cons_of_mem _ (List.mem_cons_self ..)))
    unfold ok3
    rw[q0,q1,q2];rfl
 case stop=>
  rintro D c pre W hD hpre ⟨⟨⟨rfl,x,hx,hy⟩,bR1⟩,hB1⟩ hK
  gi_wp2
  refine⟨by simp,.inl ⟨_,_,rfl,run_takeDeferred hK,?_⟩⟩
  have hc5:=cell_kept bR1.cell (grownBy_putObj' _ D (.deferred none)) (fun r e=>by cases e;exact⟨_,hK,rfl⟩)
  refine⟨.bool false,?_,?_,hB1.trans (belowK_b (w:=w) (Nat.le_refl _) W D _ _ (by omega) hK rfl rfl)⟩
  · simp[results,Tryd.f40,go_sem,hc5]
  · have hm:=hpre.subset hx
    simp only[List.mem_cons,List.not_mem_nil,or_false]at hm
    unfold ok3
    rcases hm with rfl|rfl|rfl<;>rw[hy]<;>simp
theorem zfa(x y z:RN)(h:zgz 1000000 x y z=true):PCall P 40 [z3g x y z] (.lit (.bool (ok3 x y z))):=by
 obtain⟨hx,hy,hz⟩:=U2.1 h
 intro Im w vs hIm hvs
 obtain⟨y0,ys,e1,⟨arr,rfl,hr⟩,e2⟩:=hvs
 have e3:vs= #[.agg arr]:=by
  apply Array.ext'
  rw[e1,e2]
 subst e3
 have ha:arr.toList=(x.a.toList++(y.a.toList++z.a.toList)):=z2Q hr
 obtain⟨x0,x1,x2,x3,x4,x5,x6,x7,x8,x9⟩:=x
 obtain⟨y0,y1,y2,y3,y4,y5,y6,y7,y8,y9⟩:=y
 obtain⟨z0,z1,z2,z3,z4,z5,z6,z7,z8,z9⟩:=z
 refine(callsIn_wide.1 (zcO Fence.wide 6 trivial trivial trivial trivial rfl (Nat.le_refl _) (fun m x W=>callsIn_wide.2 (PCall.num (z75 x.1 x.2) W)) _ _ _ _ _ _ _ _ _ _ _ _ _ _ _ _ _ _ _ _ _ _ _ _ _ _ _ _ _ _ hx hy hz arr ha w)).mono ?_
 rintro e w' ⟨rfl,hB⟩
 exact⟨_,_,Im,rfl,rfl,rfl,Im.le_refl,(fun b cs hb=>by obtain⟨c,T,fz,k1,k2⟩:=hIm b cs hb;exact⟨c,T,fz,(hB.block b (Array.getElem?_eq_some_iff.1 k1).1).trans k1,k2⟩),hB,fun b hb=> .inl hb⟩
end Go.Fw
namespace Go.Fw
set_option maxRecDepth 100000
theorem z1r{a b:ByteArray}(h:z08 a=z08 b):a=b:=by injection h with h;injection h
theorem zhh{x:RN}{k:K}{n:Nat}(h:x.l=z7Y k)(hr:x.raw n=true):k.sz≤n:=by
 unfold RN.l z7Y at h
 simp only[List.cons.injEq,and_true]at h
 obtain⟨_,e0,_,e1,_,e2,_,e3,_,e4⟩:=h
 have f0:=z1r e0
 have f1:=z1r e1
 have f2:=z1r e2
 have f3:=z1r e3
 have f4:=z1r e4
 unfold RN.raw at hr
 simp only[Bool.and_eq_true,decide_eq_true_eq]at hr
 rw[f0,f1,f2,f3,f4]at hr
 exact K.sz_le.2 ⟨z0o.1 hr.1.1.1.1,z0o.1 hr.1.1.1.2,z0o.1 hr.1.1.2,z0o.1 hr.1.2,z0o.1 hr.2⟩
def RN.zero:RN:=⟨false,⟨#[]⟩,false,⟨#[]⟩,false,⟨#[]⟩,false,⟨#[]⟩,false,⟨#[]⟩⟩
theorem z1d{a b:Int}(h1:CV.lit (.bool (decide (a<0)))=CV.lit (.bool (decide (b<0))))(h2:z08 (bytesOf a.natAbs)=z08 (bytesOf b.natAbs)):a=b:=by
 have e2:=z3w (z1r h2)
 injection h1 with h1
 injection h1 with h1
 rw[decide_eq_decide]at h1
 omega
theorem zbm{x y:K}(h:z7Y x=z7Y y):x=y:=by
 unfold z7Y at h
 simp only[List.cons.injEq,and_true]at h
 obtain⟨a0,b0,a1,b1,a2,b2,a3,b3,a4,b4⟩:=h
 have e0:=z1d a0 b0
 have e1:=z1d a1 b1
 have e2:=z1d a2 b2
 have e3:=z1d a3 b3
 have e4:=z1d a4 b4
 cases x
 cases y
 simp only at e0 e1 e2 e3 e4
 subst e0 e1 e2 e3 e4
 rfl
noncomputable def toO(x:RN):Option K:=if h:x.ok=true then some (RN.ok_k h).choose else none
def ofO:Option K→RN
 |none=> .zero
 |some k=> .ofK k
theorem ze2{x:RN}(h:x.ok=true): ∃k,toO x=some k∧x.l=z7Y k:=⟨(RN.ok_k h).choose,dif_pos h,(RN.ok_k h).choose_spec⟩
theorem z8I{x:RN}(h:x.ok=false):toO x=none:=dif_neg (by rw[h];decide)
theorem z5i(k:K):toO (.ofK k)=some k:=by
 obtain⟨k',h1,h2⟩:=ze2 (RN.ofK_ok k)
 rw[RN.ofK_l]at h2
 rw[h1,zbm h2]
theorem z3m:toO .zero=none:=z8I (by decide)
theorem z6j(o:Option K):toO (ofO o)=o:=by
 cases o with
 |none=>exact z3m
 |some k=>exact z5i k
theorem z1J{x:RN}{k:K}(h:toO x=some k):x.ok=true∧x.l=z7Y k:=by
 cases e:x.ok
 · rw[z8I e]at h;cases h
 · obtain⟨k',h1,h2⟩:=ze2 e
   rw[h1]at h
   injection h with h
   subst h
   exact⟨rfl,h2⟩
theorem z1w{x:RN}(h:toO x=none):x.ok=false:=by
 cases e:x.ok
 · rfl
 · obtain⟨k',h1,_⟩:=ze2 e
   rw[h1]at h;cases h
theorem zfU{x:RN}{k:K}(h:x.l=z7Y k):x.c=Z1 k:=by
 show CV.agg x.l=_
 rw[h];rfl
def osz:Option K→Nat
 |none=>0
 |some k=>k.sz
theorem z4W{o:Option K}{n:Nat}(h:osz o≤n):(ofO o).raw n=true:=by
 cases o with
 |none=>
  show RN.raw n .zero=true
  have h0:decide ((⟨#[]⟩:ByteArray).size≤n)=true:=decide_eq_true (Nat.zero_le _)
  show(decide ((⟨#[]⟩:ByteArray).size≤n)&&decide ((⟨#[]⟩:ByteArray).size≤n)&&decide ((⟨#[]⟩:ByteArray).size≤n)&&decide ((⟨#[]⟩:ByteArray).size≤n)&&decide ((⟨#[]⟩:ByteArray).size≤n))=true
  generalize decide ((⟨#[]⟩:ByteArray).size≤n)=q at h0
  subst h0;rfl
 |some k=>exact RN.ofK_raw k h
theorem z6r{x:RN}{n:Nat}(h:x.raw n=true):osz (toO x)≤n:=by
 cases e:toO x with
 |none=>exact Nat.zero_le _
 |some k=>exact zhh (z1J e).2 h
def zhf:Option K→Option K→Option K
 |some x,some y=>some (x+y)
 |_,_=>none
theorem zdX(x y:Option K):osz (zhf x y)≤osz x+osz y+1:=by
 cases x<;>cases y<;>first|exact Nat.zero_le _|exact K.sz_add _ _
theorem z2X{x:RN}{k:K}{n:Nat}(h:toO x=some k)(hx:x.raw n=true):k.sz≤n:=zhh (z1J h).2 hx
noncomputable def z5p(x y:RN):RN:=ofO (zhf (toO x) (toO y))
theorem zem{x y z:RN}{k l m:K}(hx:toO x=some k)(hy:toO y=some l)(hz:toO z=some m):z3g x y z=z6n k l m:=by
 unfold z3g z6n
 rw[(z1J hx).2,(z1J hy).2,(z1J hz).2]
theorem zaG{x y z:RN}(h:toO x=none∨toO y=none∨toO z=none):ok3 x y z=false:=by
 unfold ok3
 rcases h with h|h|h<;>rw[z1w h]<;>simp
abbrev rnB(x y:RN):Bool:=x.b0==y.b0&&(x.s0==y.s0&&true)&&(x.b1==y.b1&&(x.s1==y.s1&&true)&&(x.b2==y.b2&&(x.s2==y.s2&&true)&&(x.b3==y.b3&&(x.s3==y.s3&&true)&&true)))&&(x.b4==y.b4&&(x.s4==y.s4&&true)&&true)
theorem zcl{x y:RN}:rnB x y=true↔x=y:=by
 cases x
 cases y
 simp only[rnB,zby,Bool.and_eq_true,beq_iff_eq,and_true,RN.mk.injEq,decide_eq_true_eq]
 constructor
 · rintro⟨⟨h0,h1,h2,h3⟩,h4⟩
   exact⟨h0.1,h0.2,h1.1,h1.2,h2.1,h2.2,h3.1,h3.2,h4.1,h4.2⟩
 · rintro⟨a,b,c,d,e,f,g,h,i,j⟩
   exact⟨⟨⟨a,b⟩,⟨c,d⟩,⟨e,f⟩,⟨g,h⟩⟩,i,j⟩
theorem zd4{x y:RN}{n:Nat}(hx:x.raw n=true)(hy:y.raw n=true):(z5p x y).raw (n+n+1)=true:=by
 have h1:=z6r hx
 have h2:=z6r hy
 have h3:=zdX (toO x) (toO y)
 exact z4W (by omega)
structure VN where
 x:RN
 y:RN
 z:RN
namespace VN
def c(v:VN):CV:=z3g v.x v.y v.z
def raw(n:Nat)(v:VN):Bool:=zgz n v.x v.y v.z
def ok(v:VN):Bool:=ok3 v.x v.y v.z
def zero:VN:=⟨.zero,.zero,.zero⟩
theorem raw_mono{v:VN}{n m:Nat}(h:v.raw n=true)(hm:n≤m):v.raw m=true:=by
 obtain⟨hx,hy,hz⟩:=U2.1 h
 exact U2.2 ⟨RN.raw_mono hx hm,RN.raw_mono hy hm,RN.raw_mono hz hm⟩
end VN
structure V3 where
 x:K
 y:K
 z:K
def V3.c(v:V3):CV:=z6n v.x v.y v.z
def V3.sz(v:V3):Nat:=max v.x.sz (max v.y.sz v.z.sz)
noncomputable def toV(v:VN):Option V3:=match toO v.x,toO v.y,toO v.z with
 |some x,some y,some z=>some ⟨x,y,z⟩
 |_,_,_=>none
def ofV:Option V3→VN
 |none=> .zero
 |some v=>⟨.ofK v.x,.ofK v.y,.ofK v.z⟩
theorem z8u(o:Option V3):toV (ofV o)=o:=by
 cases o with
 |none=>unfold toV ofV VN.zero;simp only[z3m]
 |some v=>unfold toV ofV;simp only[z5i]
theorem z5c{v:VN}{k:V3}(h:toV v=some k):toO v.x=some k.x∧toO v.y=some k.y∧toO v.z=some k.z:=by
 unfold toV at h
 split at h
 · rename_i x y z h1 h2 h3
   injection h with h
   subst h
   exact⟨h1,h2,h3⟩
 · cases h
theorem z3j{v:VN}(h:toV v=none):v.ok=false:=by
 unfold toV at h
 split at h
 · cases h
 · rename_i hx
   refine zaG ?_
   cases e1:toO v.x with
   |none=>exact .inl rfl
   |some a=>
    cases e2:toO v.y with
    |none=>exact .inr (.inl rfl)
    |some b=>
     cases e3:toO v.z with
     |none=>exact .inr (.inr rfl)
     |some c=>exact(hx a b c e1 e2 e3).elim
theorem z9E{v:VN}{k:V3}(h:toV v=some k):v.ok=true:=by
 obtain⟨h1,h2,h3⟩:=z5c h
 show ok3 v.x v.y v.z=true
 unfold ok3
 rw[(z1J h1).1,(z1J h2).1,(z1J h3).1];rfl
theorem zbf{v:VN}{k:V3}(h:toV v=some k):v.c=k.c:=by
 obtain⟨h1,h2,h3⟩:=z5c h
 exact zem h1 h2 h3
theorem z2b{v:VN}{k:V3}{n:Nat}(h:toV v=some k)(hr:v.raw n=true):k.x.sz≤n∧k.y.sz≤n∧k.z.sz≤n:=by
 obtain⟨h1,h2,h3⟩:=z5c h
 obtain⟨a,b,c⟩:=U2.1 hr
 exact⟨z2X h1 a,z2X h2 b,z2X h3 c⟩
def vsz:Option V3→Nat
 |none=>0
 |some v=>v.sz
theorem z4T{o:Option V3}{n:Nat}(h:vsz o≤n):(ofV o).raw n=true:=by
 cases o with
 |none=>exact U2.2 ⟨z4W (o:=none) (Nat.zero_le _),z4W (o:=none) (Nat.zero_le _),z4W (o:=none) (Nat.zero_le _)⟩
 |some v=>
  have h':max v.x.sz (max v.y.sz v.z.sz)≤n:=h
  exact U2.2 ⟨RN.ofK_raw v.x (by omega),RN.ofK_raw v.y (by omega),RN.ofK_raw v.z (by omega)⟩
theorem zdj(v:VN)(h:v.raw 1000000=true):PCall P 40 [v.c] (.lit (.bool v.ok)):=zfa v.x v.y v.z h
theorem z7L(x y z:K)(hx:x.sz≤1000000)(hy:y.sz≤1000000)(hz:z.sz≤1000000):PCall P 40 [z6n x y z] (.lit (.bool true)):=by
 have h:=zdj (ofV (some ⟨x,y,z⟩)) (z4T (by show max x.sz (max y.sz z.sz)≤1000000;omega))
 rw[z9E (z8u (some ⟨x,y,z⟩))]at h
 exact h
theorem ze4(x y:RN)(g:x.ok=false)(a:RN.raw 1000000 x=true):PCall P 21 [x.c,y.c] (.agg z1T):=
 j3 (.r 4 ((z3Y x a).eqB g) (.c (lq 10 10) .nil)) (by kernel_rfl)
theorem zcZ(x y:RN)(g:x.ok=true)(g2:y.ok=false)(a:RN.raw 1000000 x=true)(d:RN.raw 1000000 y=true):PCall P 21 [x.c,y.c] (.agg z1T):=
 j3 (.r 4 ((z3Y x a).eqB g) (.r 8 ((z3Y y d).eqB g2) (.c (lq 10 10) .nil))) (by kernel_rfl)
theorem zcf(x:RN)(g:x.ok=false)(a:RN.raw 1000000 x=true):PCall P 16 [x.c] (.lit (.int .i64 0)):=
 j3 (.r 3 ((z3Y x a).eqB g) .nil) (by kernel_rfl)
theorem zd8(x y:RN)(g:x.ok=false)(a:RN.raw 1000000 x=true):PCall P 17 [x.c,y.c] (.tup [.agg z1T,.lit (.int .i64 1)]):=
 j3 (.r 5 ((z3Y x a).eqB g) (.c (lq 10 10) .nil)) (by kernel_rfl)
theorem zdc(x y:RN)(g:x.ok=true)(g2:y.ok=false)(a:RN.raw 1000000 x=true)(d:RN.raw 1000000 y=true):PCall P 17 [x.c,y.c] (.tup [.agg z1T,.lit (.int .i64 1)]):=
 j3 (.r 5 ((z3Y x a).eqB g) (.r 9 ((z3Y y d).eqB g2) (.c (lq 10 10) .nil))) (by kernel_rfl)
theorem zbZ(a b c:Int)(d:(-9223372036854775808:Int)≤a∧a≤9223372036854775807)(e:(-9223372036854775808:Int)≤b∧b≤9223372036854775807)(f:(-9223372036854775808:Int)≤c∧c≤9223372036854775807):PCall P 7 [J1 a,J1 b,J1 c] (z6n (K.ofInt a) (K.ofInt b) (K.ofInt c)):=
 j3 (.r 2 (z3N a d) (.r 4 (z3N b e) (.r 6 (z3N c f) (.c (lq 30 30) .nil)))) (by kernel_rfl)
namespace V3
def add(a b:V3):V3:=⟨a.x+b.x,a.y+b.y,a.z+b.z⟩
def sub(a b:V3):V3:=⟨a.x-b.x,a.y-b.y,a.z-b.z⟩
def neg(a:V3):V3:=⟨-a.x,-a.y,-a.z⟩
def scale(a:V3)(k:K):V3:=⟨a.x*k,a.y*k,a.z*k⟩
def dot(a b:V3):K:=a.x*b.x+a.y*b.y+a.z*b.z
def cross(a b:V3):V3:=⟨a.y*b.z-a.z*b.y,a.z*b.x-a.x*b.z,a.x*b.y-a.y*b.x⟩
end V3
def o2{α β γ:Type}(f:α→β→γ):Option α→Option β→Option γ
 |some a,some b=>some (f a b)
 |_,_=>none
noncomputable def V9(v w:VN):VN:=ofV (o2 V3.add (toV v) (toV w))
noncomputable def j6(v:VN)(k:RN):VN:=ofV (o2 V3.scale (toV v) (toO k))
noncomputable def zdx(v w:VN):RN:=ofO (o2 V3.dot (toV v) (toV w))
noncomputable def z25(v w:VN):VN:=ofV (o2 V3.cross (toV v) (toV w))
theorem zbO(x y:RN)(hx:x.raw 1000000=true)(hy:y.raw 1000000=true):PCall P 21 [x.c,y.c] (z5p x y).c:=by
 unfold z5p
 cases ex:toO x with
 |none=>exact ze4 x y (z1w ex) hx
 |some k=>
  cases ey:toO y with
  |none=>exact zcZ x y (z1J ex).1 (z1w ey) hx hy
  |some l=>
   have a:=z2X ex hx
   have b:=z2X ey hy
   rw[zfU (z1J ex).2,zfU (z1J ey).2]
   exact z4w k l (by omega)
theorem zel(f:Nat)(v w:VN)(g:v.ok=false)(a:VN.raw 1000000 v=true):PCall P 22 [.agg [CV.lit (Value.func (Fn.func f) #[] #[])],v.c,w.c] z2N:=
 j3 (.r 5 ((zdj v a).eqB g) (.c (lq 30 30) .nil)) (by kernel_rfl)
theorem zfO(f:Nat)(v w:VN)(g:v.ok=true)(g2:w.ok=false)(a:VN.raw 1000000 v=true)(d:VN.raw 1000000 w=true):PCall P 22 [.agg [CV.lit (Value.func (Fn.func f) #[] #[])],v.c,w.c] z2N:=
 j3 (.r 5 ((zdj v a).eqB g) (.r 9 ((zdj w d).eqB g2) (.c (lq 30 30) .nil))) (by kernel_rfl)
theorem zep(x y z x' y' z':K)(a:x.sz≤1000000)(d:y.sz≤1000000)(e:z.sz≤1000000)(f:x'.sz≤1000000)(g:y'.sz≤1000000)(i:z'.sz≤1000000)(j:x.sz+x'.sz+2<1073741824)(k:y.sz+y'.sz+2<1073741824)(l:z.sz+z'.sz+2<1073741824):PCall P 22 [.agg [CV.lit (Value.func (Fn.func 21) #[] #[])],z6n x y z,z6n x' y' z'] (z6n (x+x') (y+y') (z+z')):=
 j3 (.r 5 (z7L x y z a d e) (.r 9 (z7L x' y' z' f g i) (.r 19 (z4w x x' j) (.r 26 (z4w y y' k) (.r 33 (z4w z z' l) (.c (lq 30 30) .nil)))))) (by kernel_rfl)
theorem zgp(x y z x' y' z':K)(a:x.sz≤1000000)(d:y.sz≤1000000)(e:z.sz≤1000000)(f:x'.sz≤1000000)(g:y'.sz≤1000000)(i:z'.sz≤1000000)(j:x.sz+x'.sz+2<1073741824)(k:y.sz+y'.sz+2<1073741824)(l:z.sz+z'.sz+2<1073741824):PCall P 22 [.agg [CV.lit (Value.func (Fn.func 23) #[] #[])],z6n x y z,z6n x' y' z'] (z6n (x*x') (y*y') (z*z')):=
 j3 (.r 5 (z7L x y z a d e) (.r 9 (z7L x' y' z' f g i) (.r 19 (z4K x x' j) (.r 26 (z4K y y' k) (.r 33 (z4K z z' l) (.c (lq 30 30) .nil)))))) (by kernel_rfl)
theorem zeD(v w:VN)(g:v.ok=false)(a:VN.raw 1000000 v=true):PCall P 47 [v.c,w.c] z2N:=
 j3 (.r 4 ((zdj v a).eqB g) (.c (lq 30 30) .nil)) (by kernel_rfl)
theorem zes(v w:VN)(g:v.ok=true)(g2:w.ok=false)(a:VN.raw 1000000 v=true)(d:VN.raw 1000000 w=true):PCall P 47 [v.c,w.c] z2N:=
 j3 (.r 4 ((zdj v a).eqB g) (.r 8 ((zdj w d).eqB g2) (.c (lq 30 30) .nil))) (by kernel_rfl)
theorem zfT(a b c d:K)(e:a.sz+d.sz+2<1073741824)(f:b.sz+c.sz+2<1073741824)(g:(a*d).sz+(b*c).sz+2<1073741824):PCall P 64 [Z1 a,Z1 b,Z1 c,Z1 d] (Z1 (a*d-b*c)):=
 j3 (.r 7 (z4K a d e) (.r 10 (z4K b c f) (.r 11 (zfc (a*d) (b*c) g) (.c (lq 10 10) .nil)))) (by kernel_rfl)
theorem zff(a b c:Int)(d:(-9223372036854775808:Int)≤a∧a≤9223372036854775807)(e:(-9223372036854775808:Int)≤b∧b≤9223372036854775807)(f:(-9223372036854775808:Int)≤c∧c≤9223372036854775807):PCall P 9 [J1 a,J1 b,J1 c] (z6n (K.ofInt a) (K.ofInt b) (K.ofInt c)):=
 j3 (.r 2 (X9 a d) (.r 4 (X9 b e) (.r 6 (X9 c f) (.c (lq 30 30) .nil)))) (by kernel_rfl)
abbrev opC(f:Nat):CV:= .agg [.lit (.func (.func f) #[] #[])]
def V3.pmul(a b:V3):V3:=⟨a.x*b.x,a.y*b.y,a.z*b.z⟩
noncomputable def z37(v w:VN):VN:=ofV (o2 V3.pmul (toV v) (toV w))
noncomputable def oV(a b c:Int):VN:=ofV (toV (ofV (some ⟨K.ofInt a,K.ofInt b,K.ofInt c⟩)))
theorem z8g(a b c:Int):oV a b c=ofV (some ⟨K.ofInt a,K.ofInt b,K.ofInt c⟩):=by unfold oV;rw[z8u]
theorem zf7 (f : Nat) (g : V3 → V3 → V3) (v w : VN) (hv : v.raw 1000000 = true) (hw : w.raw 1000000 = true)
    (h: ∀a b:V3,a.x.sz≤1000000→a.y.sz≤1000000→a.z.sz≤1000000→b.x.sz≤1000000→b.y.sz≤1000000→b.z.sz≤1000000→PCall P 22 [opC f,a.c,b.c] (g a b).c):
    PCall P 22 [opC f,v.c,w.c] (ofV (o2 g (toV v) (toV w))).c:=by
 cases ev:toV v with
 |none=>exact zel f v w (z3j ev) hv
 |some a=>
  cases ew:toV w with
  |none=>exact zfO f v w (z9E ev) (z3j ew) hv hw
  |some b=>
   obtain⟨x,y,z⟩:=z2b ev hv
   obtain⟨x',y',z'⟩:=z2b ew hw
   rw[zbf ev,zbf ew]
   exact h a b x y z x' y' z'
theorem zh2(v w:VN)(hv:v.raw 1000000=true)(hw:w.raw 1000000=true):PCall P 22 [opC 21,v.c,w.c] (V9 v w).c:=
 zf7 21 V3.add v w hv hw fun a b x y z x' y' z'=>zep _ _ _ _ _ _ x y z x' y' z' (by omega) (by omega) (by omega)
theorem zfV(v w:VN)(hv:v.raw 1000000=true)(hw:w.raw 1000000=true):PCall P 22 [opC 23,v.c,w.c] (z37 v w).c:=
 zf7 23 V3.pmul v w hv hw fun a b x y z x' y' z'=>zgp _ _ _ _ _ _ x y z x' y' z' (by omega) (by omega) (by omega)
theorem zeI(v:VN)(k:RN)(hv:v.raw 1000000=true)(hk:k.raw 1000000=true):PCall P 22 [opC 23,v.c,z3g k k k] (z37 v ⟨k,k,k⟩).c:=
 zfV v ⟨k,k,k⟩ hv (U2.2 ⟨hk,hk,hk⟩)
theorem zh3 (a b c : Int) (ha : -9223372036854775808 ≤ a ∧ a ≤ 9223372036854775807) (hb : -9223372036854775808 ≤ b ∧ b ≤ 9223372036854775807) (hc : -9223372036854775808 ≤ c ∧ c ≤ 9223372036854775807) :
    PCall P 9 [J1 a,J1 b,J1 c] (oV a b c).c:=by rw[z8g];exact zff a b c ha hb hc
theorem zgI(a b c d:K)(ha:a.sz≤100000)(hb:b.sz≤100000)(hc:c.sz≤100000)(hd:d.sz≤100000):PCall P 64 [Z1 a,Z1 b,Z1 c,Z1 d] (Z1 (a*d-b*c)):=by
 have m1:=K.sz_mul a d
 have m2:=K.sz_mul b c
 exact zfT a b c d (by omega) (by omega) (by omega)
theorem zbW(v w:VN)(a:VN.raw 1000000 v=true)(d:VN.raw 1000000 w=true):PCall P 11 [v.c,w.c] (z3g (V9 v w).x (V9 v w).y (V9 v w).z):=
 j3 (.r 6 (zh2 v w a d) (.c (lq 30 30) .nil)) (by kernel_rfl)
theorem zd5(v w:VN)(a:VN.raw 1000000 v=true)(d:VN.raw 1000000 w=true)(e:RN.raw 1000000 (z37 v w).x=true)(f:RN.raw 1000000 (z37 v w).y=true)(g:RN.raw 1000000 (z5p (z37 v w).x (z37 v w).y)=true)(i:RN.raw 1000000 (z37 v w).z=true):PCall P 46 [v.c,w.c] (RN.c (z5p (z5p (z37 v w).x (z37 v w).y) (z37 v w).z)):=
 j3 (.r 6 (zfV v w a d) (.c (lq 30 30) (.r 13 (zbO ((z37 v w).x) ((z37 v w).y) e f) (.r 16 (zbO (z5p (z37 v w).x (z37 v w).y) ((z37 v w).z) g i) (.c (lq 10 10) .nil))))) (by kernel_rfl)
theorem zej(x y z x' y' z':K)(a:x.sz≤1000000)(d:y.sz≤1000000)(e:z.sz≤1000000)(f:x'.sz≤1000000)(g:y'.sz≤1000000)(i:z'.sz≤1000000)(j:y.sz≤100000)(k:z.sz≤100000)(l:y'.sz≤100000)(m:z'.sz≤100000)(n:z.sz≤100000)(o:x.sz≤100000)(p:z'.sz≤100000)(q:x'.sz≤100000)(s:x.sz≤100000)(t:y.sz≤100000)(u:x'.sz≤100000)(v:y'.sz≤100000):PCall P 47 [z6n x y z,z6n x' y' z'] (z6n (y*z'-z*y') (z*x'-x*z') (x*y'-y*x')):=
 j3 (.r 4 (z7L x y z a d e) (.r 8 (z7L x' y' z' f g i) (.r 20 (zgI y z y' z' j k l m) (.r 29 (zgI z x z' x' n o p q) (.r 38 (zgI x y x' y' s t u v) (.c (lq 30 30) .nil)))))) (by kernel_rfl)
theorem zds(v:VN)(k:RN)(a:VN.raw 1000000 v=true)(d:RN.raw 1000000 k=true):PCall P 12 [v.c,k.c] (z3g (z37 v {x:=k,y:=k,z:=k}).x (z37 v {x:=k,y:=k,z:=k}).y (z37 v {x:=k,y:=k,z:=k}).z):=
 j3 (.r 9 (zeI v k a d) (.c (lq 30 30) .nil)) (by kernel_rfl)
theorem z77(v w:VN)(hv:v.raw 1000000=true)(hw:w.raw 1000000=true):PCall P 11 [v.c,w.c] (V9 v w).c:=zbW v w hv hw
theorem z7I(v:VN)(k:RN):z37 v ⟨k,k,k⟩=j6 v k:=by
 unfold z37 j6
 cases ev:toV v with
 |none=>rfl
 |some a=>
  have e:toV ⟨k,k,k⟩=(toO k).map fun c=>⟨c,c,c⟩:=by
   unfold toV
   cases ek:toO k<;>rfl
  rw[e]
  cases ek:toO k<;>rfl
theorem z3l(v:VN)(k:RN)(hv:v.raw 1000000=true)(hk:k.raw 1000000=true):PCall P 12 [v.c,k.c] (j6 v k).c:=by
 rw[←z7I]
 exact zds v k hv hk
theorem z7M(v w:VN):z5p (z5p (z37 v w).x (z37 v w).y) (z37 v w).z=zdx v w:=by
 unfold zdx z37
 cases ev:toV v with
 |none=>show z5p (z5p .zero .zero) .zero= .zero;unfold z5p;rw[z3m];rfl
 |some a=>
  cases ew:toV w with
  |none=>show z5p (z5p .zero .zero) .zero= .zero;unfold z5p;rw[z3m];rfl
  |some b=>
   show z5p (z5p (.ofK (a.x*b.x)) (.ofK (a.y*b.y))) (.ofK (a.z*b.z))= .ofK (a.x*b.x+a.y*b.y+a.z*b.z)
   unfold z5p
   simp only[z5i,z6j]
   rfl
theorem z9X(v w:VN)(hv:v.raw 1000=true)(hw:w.raw 1000=true):PCall P 47 [v.c,w.c] (z25 v w).c:=by
 have hv':=VN.raw_mono hv (show 1000≤1000000 by decide)
 have hw':=VN.raw_mono hw (show 1000≤1000000 by decide)
 unfold z25
 cases ev:toV v with
 |none=>exact zeD v w (z3j ev) hv'
 |some a=>
  cases ew:toV w with
  |none=>exact zes v w (z9E ev) (z3j ew) hv' hw'
  |some b=>
   obtain⟨x,y,z⟩:=z2b ev hv
   obtain⟨x',y',z'⟩:=z2b ew hw
   rw[zbf ev,zbf ew]
   refine zej _ _ _ _ _ _ ?_ ?_ ?_ ?_ ?_ ?_ ?_ ?_ ?_ ?_ ?_ ?_ ?_ ?_ ?_ ?_ ?_ ?_<;>omega
noncomputable def zV(v:VN):Bool:=rnB v.x (oV 0 0 0).x&&(rnB v.y (oV 0 0 0).y&&(rnB v.z (oV 0 0 0).z&&true))
def plR(x y z d:RN):CV:= .agg (x.l++(y.l++(z.l++d.l)))
structure PN where
 n:VN
 d:RN
def PN.c(p:PN):CV:=plR p.n.x p.n.y p.n.z p.d
def PN.zero:PN:=⟨.zero,.zero⟩
def PN.raw(k:Nat)(p:PN):Bool:=p.n.raw k&&p.d.raw k
theorem PN.raw_iff{k:Nat}{p:PN}:p.raw k=true↔p.n.raw k=true∧p.d.raw k=true:=by unfold PN.raw;simp
theorem zfp (a b c : Int) (ha : -9223372036854775808 ≤ a ∧ a ≤ 9223372036854775807) (hb : -9223372036854775808 ≤ b ∧ b ≤ 9223372036854775807) (hc : -9223372036854775808 ≤ c ∧ c ≤ 9223372036854775807) :
    PCall P 7 [J1 a,J1 b,J1 c] (oV a b c).c:=by rw[z8g];exact zbZ a b c ha hb hc
theorem zgu(a b c:Int)(h1:(a==b)=true):PCall P 30 [J1 a,J1 b,J1 c] (.lit (.int .i64 a)):=
 j3 (.b 4 h1 .nil) (by kernel_rfl)
theorem zfb(a b c:Int)(h1:(a==b)=false)(h2:(b==0)=true):PCall P 30 [J1 a,J1 b,J1 c] (.lit (.int .i64 a)):=
 j3 (.b 4 h1 (.b 9 h2 .nil)) (by kernel_rfl)
theorem zer(a b c:Int)(h1:(a==b)=false)(h2:(b==0)=false)(h3:(a==0)=true):PCall P 30 [J1 a,J1 b,J1 c] (.lit (.int .i64 b)):=
 j3 (.b 4 h1 (.b 9 h2 (.b 13 h3 .nil))) (by kernel_rfl)
theorem zeR(a b c:Int)(h1:(a==b)=false)(h2:(b==0)=false)(h3:(a==0)=false):PCall P 30 [J1 a,J1 b,J1 c] (.lit (.int .i64 (i64.wrap (a*c)))):=
 j3 (.b 4 h1 (.b 9 h2 (.b 13 h3 .nil))) (by kernel_rfl)
theorem zeU(k a b:Int)(d:(-9223372036854775808:Int)≤k∧k≤9223372036854775807)(e:SmlZ a)(f:SmlZ b)(g:Sml (a.natAbs*b.natAbs))(i:SmlZ k)(j:SmlZ (a*b))(l:Sml (k.natAbs*(a*b).natAbs)):PCall P 33 [J1 k,Q2 a,Q2 b] (.agg [.lit (.bool (decide (k*(a*b)<0))),.lit (.string (bytesOf (k*(a*b)).natAbs))]):=
 j3 (.r 4 (z0j k d) (.r 7 (W1 a b e f g) (.r 8 (W1 k (a*b) i j l) (.c (lq 2 2) .nil)))) (by kernel_rfl)
def z4s(a b c:Int):Int:=if a=b∨b=0 then a else if a=0 then b else a*c
theorem z15(a b c:Int)(ha: -1≤a∧a≤1)(hc: -1≤c∧c≤1):PCall P 30 [J1 a,J1 b,J1 c] (J1 (z4s a b c)):=by
 unfold z4s
 by_cases h1:a=b
 · rw[if_pos (.inl h1)]
   exact zgu a b c (by simp[h1])
 · by_cases h2:b=0
   · rw[if_pos (.inr h2)]
     exact zfb a b c (by simp[h1]) (by simp[h2])
   · rw[if_neg (by rintro(h|h)<;>contradiction)]
     by_cases h3:a=0
     · rw[if_pos h3]
       exact zer a b c (by simp[h1]) (by simp[h2]) (by simp[h3])
     · rw[if_neg h3]
       have:=zeR a b c (by simp[h1]) (by simp[h2]) (by simp[h3])
       have hw:i64.wrap (a*c)=a*c:=by
        have:a= -1∨a=1:=by omega
        rcases this with h|h<;>rw[h]<;>exact w64 (by omega)
       rwa[hw]at this
theorem z6e(k a b:Int){n m:Nat}(hk: -100≤k∧k≤100)(ha:By n a)(hb:By m b)(hn:n+m+1<1073741824):PCall P 33 [J1 k,Q2 a,Q2 b] (Q2 (k*(a*b))):=by
 have hk':By 1 k:=by unfold By;omega
 have hab:=ha.mul hb
 exact zeU k a b (by omega) (ha.sml (by omega)) (hb.sml (by omega)) (ha.sm2 hb (by omega)) (hk'.sml (by decide)) (hab.sml (by omega)) (hk'.sm2 hab (by omega))
theorem zeu(a b:Int)(c:SmlZ a)(d:SmlZ b)(e:Sml (a.natAbs+b.natAbs)):PCall P 51 [Q2 a,Q2 b] (.lit (.int .i64 (a-b).sign)):=
 j3 (.r 5 (z74 a b c d e) (.r 6 (z05 (a-b)) .nil)) (by kernel_rfl)
end Go.Fw
