/- A part of the proof that the law returns true for every input: an executor for the model's code, and what functions of the program compute. -/
import Derived.Test.YtcafjpldfnegiaaGreatDoorB11
import Derived.Test.YtcafjpldfnegiaaGreatDoorB13
import Derived.Test.YtcafjpldfnegiaaGreatDoorB15
import Derived.Test.YtcafjpldfnegiaaGreatDoorB39
import Derived.Test.YtcafjpldfnegiaaGreatDoorB42
import Derived.Test.YtcafjpldfnegiaaGreatDoorB44
import Derived.KernelRfl
import Derived.Deep.Slices
open Go IntKind
namespace Go.Fw
set_option maxRecDepth 100000
theorem zm8(l:List (Int×Int))(m:VN)(g:decide ((↑l.length:Int)>12)=true):PCall P 13 [rdV l,m.c] (.lit (.bool true)):=
 j5 (.r 2 (z38) (.b 9 g (.r 15 (z38) .nil))) (by kernel_rfl)
theorem znm(l:List (Int×Int))(m:VN)(g:decide ((↑l.length:Int)>12)=false)(g2:zf6 m=false)(s11_0:VN.raw 2000000 m=true):PCall P 13 [rdV l,m.c] (.lit (.bool true)):=
 j5 (.r 2 (z38) (.b 9 g (.r 11 ((zaf (m) s11_0).eqB g2) (.r 15 (z38) .nil)))) (by kernel_rfl)
theorem zoo(l:List (Int×Int))(m:VN)(g:decide ((↑l.length:Int)>12)=false)(g2:zf6 m=true)(e:((z4F l).snd != 0)=true)(h1:((z4F l).2==20)=true)(s11_0:VN.raw 2000000 m=true)(s16_0:l.length<2^30)(s17_0:l.length≤12):PCall P 13 [rdV l,m.c] (.lit (.bool true)):=
 j5 (.r 2 (z38) (.c g (.o 9 (.b false) (.r 11 ((zaf (m) s11_0).eqB g2) (.r 16 (zd5 (l) s16_0) (.r 17 (zfL (l) s17_0) (.c (lq 30 30) (.c e (.c h1 (.o 26 (.b true) (.o 29 (.b true) .nil))))))))))) (by kernel_rfl)
theorem znE(l:List (Int×Int))(m:VN)(g:decide ((↑l.length:Int)>12)=false)(g2:zf6 m=true)(e:((z4F l).snd != 0)=true)(h1:((z4F l).2==20)=false)(s11_0:VN.raw 2000000 m=true)(s16_0:l.length<2^30)(s17_0:l.length≤12):PCall P 13 [rdV l,m.c] (.lit (.bool ((z4F l).2==1))):=
 j5 (.r 2 (z38) (.c g (.o 9 (.b false) (.r 11 ((zaf (m) s11_0).eqB g2) (.r 16 (zd5 (l) s16_0) (.r 17 (zfL (l) s17_0) (.c (lq 30 30) (.c e (.c h1 (.o 26 (.b true) (.o 29 (.b false) .nil))))))))))) (by kernel_rfl)
theorem zmI(l:List (Int×Int))(m:VN)(g:decide ((↑l.length:Int)>12)=false)(g2:zf6 m=true)(e:((z4F l).snd != 0)=false)(f1:((z6C l (z4F l).fst).snd==0)=true)(f2:((z6C l m).snd==0)=true)(c:decide (zoq (z6C l (z4F l).fst).fst (z6C l m).fst≤0)=true)(s11_0:VN.raw 2000000 m=true)(s16_0:l.length<2^30)(s17_0:l.length≤12)(s28_0:l.length<2^30)(s30_0:l.length≤12)(s30_1:VN.raw 8000 (z4F l).fst=true)(s38_0:l.length<2^30)(s40_0:l.length≤12)(s40_1:VN.raw 8000 m=true)(s56_0:RN.raw 1000000 (z6C l (z4F l).fst).fst=true)(s56_1:RN.raw 1000000 (z6C l m).fst=true)(s56_2:RN.raw 1000000 (z4U (z6C l (z4F l).fst).fst (z6C l m).fst)=true)(s61_0:RN.raw 1000000 (z6C l (z4F l).fst).fst=true):PCall P 13 [rdV l,m.c] (.lit (.bool (decide (z8L (z6C l (z4F l).fst).fst≥0)))):=
 j5 (.r 2 (z38) (.c g (.o 9 (.b false) (.r 11 ((zaf (m) s11_0).eqB g2) (.r 16 (zd5 (l) s16_0) (.r 17 (zfL (l) s17_0) (.c (lq 30 30) (.c e (.o 26 (.b false) (.r 28 (zd5 (l) s28_0) (.r 30 (z9K (l) ((z4F l).fst) s30_0 s30_1) (.c (lq 10 10) (.r 38 (zd5 (l) s38_0) (.r 40 (z9K (l) (m) s40_0 s40_1) (.c (lq 10 10) (.c f1 (.c f2 (.o 49 (.b true) (.o 53 (.b true) (.r 56 (zi2 ((z6C l (z4F l).fst).fst) ((z6C l m).fst) s56_0 s56_1 s56_2) (.c c (.o 59 (.b true) (.r 61 (zbJ ((z6C l (z4F l).fst).fst) s61_0) .nil))))))))))))))))))))))) (by kernel_rfl)
end Go.Fw
open Go
namespace Go.Fw
set_option maxRecDepth 100000
theorem z9g(l:List (Int×Int)):(∃e:Int,(e=1∨e=20)∧z4F l=(.zero,e))∨(z5Y l=true∧K.sgn (z7o (z0g l).a (z0g l).b (z0g l).c)≠0∧z4F l=(kv (z3a l),0)):=by
 unfold z4F
 cases g:z5Y l
 · exact .inl ⟨1,.inl rfl,rfl⟩
 · by_cases h:K.sgn (z7o (z0g l).a (z0g l).b (z0g l).c)=0
   · rw[if_pos rfl,if_pos h];exact .inl ⟨20,.inr rfl,rfl⟩
   · rw[if_pos rfl,if_neg h];exact .inr ⟨rfl,h,rfl⟩
theorem zbt(l:List (Int×Int))(m:VN)(hm:m.raw 2000000=true):PCall P 13 [rdV l,m.c] (.lit (.bool true)):=by
 cases g:decide ((l.length:Int)>12)
 case true=>exact zm8 l m g
 have hl:l.length≤12:=by have:=of_decide_eq_false g;omega
 cases g2:zf6 m
 case false=>exact znm l m g g2 hm
 have s:l.length<2^30:=by omega
 rcases z9g l with⟨e,he,hf⟩|⟨go,hs,hf⟩
 · have hne:((z4F l).2 != (0:Int))=true:=by rw[hf];rcases he with rfl|rfl<;>rfl
   rcases he with rfl|rfl
   · exact(znE l m g g2 hne (by rw[hf];rfl) hm s hl).eqB (by rw[hf];rfl)
   · exact zoo l m g g2 hne (by rw[hf];rfl) hm s hl
 · obtain⟨hr,mk,rfl⟩:=zkw g2
   have r1:(z4F l).1=kv (z3a l):=by rw[hf]
   have hz:=zjh go hl
   have hz':(kv (z3a l)).raw 7439=true:=zd0 hz
   have m1:=zcD (l:=l) hz' hl
   have m2:=zcD (l:=l) hr hl
   have k1:=ze4 go (z3a l)
   have k2:=ze4 go mk
   rw[k1]at m1
   rw[k2]at m2
   have m3:=zah m1 m2
   refine(zmI l (kv mk) g g2 (by rw[hf];rfl) (by rw[r1,k1];rfl) (by rw[k2];rfl) (by rw[r1,k1,k2,znN];exact decide_eq_true (zpA hs mk)) hm s hl s hl (by rw[r1];exact VN.raw_mono hz' (by decide)) s hl (VN.raw_mono hr (by decide)) (by rw[r1,k1];exact RN.raw_mono m1 (by decide)) (by rw[k2];exact RN.raw_mono m2 (by decide)) (by rw[r1,k1,k2];exact RN.raw_mono m3 (by decide)) (by rw[r1,k1];exact RN.raw_mono m1 (by decide))).eqB ?_
   rw[r1,k1,zcb]
   exact decide_eq_true (zpp (z3a l) l 0 (by rw[K.sgn_zero.2 rfl];decide))
end Go.Fw
open Go Go.Proofs Go.Proofs.YtcafjpldfnegiaaGreatDoor
namespace Go.Fw
open Go.ChangeShapes Go.WideShapes Go.ChangeAt Go.RowKit
set_option maxRecDepth 100000
theorem zbA{α:Type}[Inhabited α] {n:Nat}{q:Nat→α→Prop}(h: ∀i,i<n→ ∃x,q i x): ∃f:Nat→α,∀i,i<n→q i (f i):=
 ⟨fun i=>if hi:i<n then(h i hi).choose else default,fun i hi=>by simp only[dif_pos hi];exact(h i hi).choose_spec⟩
theorem z6q {w : World} {base : Nat} {a : Addr} {n : Nat} {cs : List Value} (h : w.cells? base a n = some cs) (hn : 0 < n) :
    a.spot=none∧ ∃c T fz,w.heap[a.block]?=some (.cells c T fz)∧(c.toList.drop a.off).take n=cs:=by
 obtain⟨_,hlen,hi⟩:=World.cells?_some h
 have h0:=hi 0 hn
 have e0:a.add 0=a:=rfl
 rw[e0]at h0
 unfold World.cell? at h0
 split at h0
 · rename_i c T fz hc
   split at h0
   · rw[List.getElem?_eq_getElem (by omega)]at h0;cases h0
   · rename_i hs
     have hspot:a.spot=none:=by cases e:a.spot with|none=>rfl|some s=>rw[e]at hs;exact absurd rfl hs
     refine⟨hspot,c,T,fz,hc,?_⟩
     refine List.ext_getElem? fun i=>?_
     by_cases hin:i<n
     · rw[List.getElem?_take_of_lt hin,List.getElem?_drop,←hi i hin]
       unfold World.cell? Addr.add
       by_cases hi0:i=0
       · subst hi0
         rw[if_pos rfl,hc]
         simp[hspot]
       · rw[if_neg hi0,hc]
         simp
     · rw[List.getElem?_eq_none (by rw[List.length_take];omega),List.getElem?_eq_none (by omega)]
 · rw[List.getElem?_eq_getElem (by omega)]at h0;cases h0
def zii(b:Nat)(cs:List Value):Imm:=fun k=>if k=b then some cs else none
theorem zad(Im:Imm): ∀l:List Value,CV.repL Im (l.map .lit) l
 | []=>by simp only[List.map_nil,CV.repL]
 |x::l=>by
  simp only[List.map_cons,CV.repL]
  exact⟨x,l,rfl,by simp only[CV.rep],zad Im l⟩
def zoX(x:Int×Int):List Value:=[.int .i64 x.1,.int .i64 x.2]
theorem zdB(l:List (Int×Int)):flat rdL l=(l.flatMap zoX).map .lit:=by
 induction l with
 |nil=>rfl
 |cons x l ih=>rw[z1T,ih,List.flatMap_cons,List.map_append];rfl
theorem z8X(a:Addr)(n:Nat):(a.add n).block=a.block∧(a.add n).off=a.off+n:=by
 unfold Addr.add
 split
 · rename_i h;subst h;exact⟨rfl,rfl⟩
 · exact⟨rfl,rfl⟩
section
variable{H:Type}{enc:TypeId×Value→H}{W:World}{base:Nat}{sp:Nat→Bool}{hd:Bool}
theorem zgy {t e : TypeId} {v : Value} {d : DataW H} {ps : List MemPlace} (hu : Tryz.prog.underlying t = some (.slice e)) (he : z2y Tryz.prog 8 e = some [.i .i64, .i .i64]) (hc : Tryz.prog.cellsOf e = 2) (hv : ∃ a len cap, v = .slice a len cap) (h : DataW.Trod enc Tryz.prog W base sp hd t v d ps) :
    ∃l:List (Int×Int),∃Im:Imm,ImOk Im W∧(rdV l).rep Im v:=by
 obtain⟨fuel,hx⟩:=h
 obtain⟨a0,len0,cap0,rfl⟩:=hv
 rcases Deep.open_slice hu hx with⟨h1,_⟩|⟨a,len,cap,m,n,D,Pl,h1,hb,hl,hm,hmm,_,hel⟩
 · simp only[Value.cells,List.cons.injEq,and_true]at h1
   injection h1 with e1 e2 e3
   subst e1 e2 e3
   refine⟨[],fun _=>none,(fun b cs hb=>by cases hb),?_⟩
   unfold rdV CV.rep
   exact⟨none,0,rfl,Nat.le_refl _,.inl ⟨rfl,rfl⟩⟩
 · simp only[Value.cells,List.cons.injEq,and_true]at h1
   injection h1 with e1 e2 e3
   subst e1
   obtain rfl:=e2.symm
   obtain rfl:=e3.symm
   have hlm:len≤m:=by rw[hmm];split<;>omega
   rw[hc]at hel
   obtain⟨f,hf⟩:=zbA (α:=Int×Int) (n:=len) (q:=fun i x=>W.cells? base (a.add (i*2)) 2=some (zoX x)) (fun i hi=>by
    obtain⟨cs,k1,k2⟩:=hel i (by omega)
    have k3:=z1M 8 n e cs _ _ k2 he
    simp only[CTs,CT.ok]at k3
    obtain⟨_,_,rfl,⟨x,rfl,_⟩,_,_,rfl,⟨y,rfl,_⟩,rfl⟩:=k3
    exact⟨(x,y),k1⟩)
   by_cases h0:len=0
   · subst h0
     refine⟨[],fun _=>none,(fun b cs hb=>by cases hb),?_⟩
     unfold rdV CV.rep
     exact⟨some a,cap,rfl,hl,.inl ⟨rfl,rfl⟩⟩
   · obtain⟨hs,c,T,fz,hcell,_⟩:=z6q (hf 0 (by omega)) (by decide)
     rw[(z8X a (0*2)).1]at hcell
     have hs':a.spot=none:=hs
     have step: ∀k,k<len→(c.toList.drop (a.off+k*2)).take 2=zoX (f k):=fun k hk=>by
      obtain⟨_,c',T',fz',h2,h3⟩:=z6q (hf k hk) (by decide)
      rw[(z8X a (k*2)).1,hcell]at h2
      injection h2 with h2
      injection h2 with h2
      subst h2
      rw[(z8X a (k*2)).2]at h3
      exact h3
     have all: ∀k,k≤len→(c.toList.drop a.off).take (k*2)=((List.range k).map f).flatMap zoX:=by
      intro k
      induction k with
      |zero=>intro _;simp
      |succ k ih=>
       intro hk
       rw[List.range_succ,List.map_append,List.flatMap_append,←ih (by omega),Nat.succ_mul,List.take_add,List.drop_drop,step k (by omega)]
       simp
     refine⟨(List.range len).map f,zii a.block c.toList,?_,?_⟩
     · intro b cs hbb
       unfold zii at hbb
       split at hbb
       · rename_i hbe
         subst hbe
         injection hbb with hbb
         exact⟨c,T,fz,hcell,hbb⟩
       · cases hbb
     · unfold rdV CV.rep
       have hlen:(flat rdL ((List.range len).map f)).length=len*2:=by rw[z27 z1C,List.length_map,List.length_range]
       refine⟨some a,cap,by rw[List.length_map,List.length_range],by rw[List.length_map,List.length_range];exact hl,.inr ⟨a.block,a.off,c.toList,?_,?_,?_⟩⟩
       · rw[←hs']
       · unfold zii;rw[if_pos rfl]
       · rw[hlen,all len (Nat.le_refl _),zdB]
         exact zad _ _
end
theorem ze2 {f : FuncId} {cs : List CV} {W : World} {args : Array Value} (Im : Imm) (him : ImOk Im W) (h : PCall P f cs (.lit (.bool true))) (ha : CV.repL Im cs args.toList) :
    Calls Tryz.prog f args W fun e W'=>e= .returned (.bool true)∧Below W.heap.size W W':=by
 refine(h Im W args him ha).mono ?_
 rintro e W' ⟨y,v,I',rfl,rfl,hv,_,_,hb,_⟩
 simp only[CV.rep]at hv
 subst hv
 exact⟨rfl,hb⟩
end Go.Fw
open Go Go.Proofs Go.Proofs.YtcafjpldfnegiaaGreatDoor
namespace Go.Fw
set_option maxRecDepth 100000
def RN.v(x:RN):List Value:=[.bool x.b0,.string x.s0,.bool x.b1,.string x.s1,.bool x.b2,.string x.s2,.bool x.b3,.string x.s3,.bool x.b4,.string x.s4]
abbrev zpr:List CT:=[.b,.s,.b,.s,.b,.s,.b,.s,.b,.s,.b,.s,.b,.s,.b,.s,.b,.s,.b,.s,.b,.s,.b,.s,.b,.s,.b,.s,.b,.s]
theorem z7t{ts:List CT}{l:List Value}(h:CTs (.b:: .s:: .b:: .s:: .b:: .s:: .b:: .s:: .b:: .s::ts) l): ∃(x:RN) (m:List Value),l=x.v++m∧CTs ts m:=by
 simp only[CTs,CT.ok]at h
 obtain⟨_,_,rfl,⟨b0,rfl⟩,_,_,rfl,⟨s0,rfl⟩,_,_,rfl,⟨b1,rfl⟩,_,_,rfl,⟨s1,rfl⟩,_,_,rfl,⟨b2,rfl⟩,_,_,rfl,⟨s2,rfl⟩,_,_,rfl,⟨b3,rfl⟩,_,_,rfl,⟨s3,rfl⟩,_,_,rfl,⟨b4,rfl⟩,_,m,rfl,⟨s4,rfl⟩,hm⟩:=h
 exact⟨⟨b0,s0,b1,s1,b2,s2,b3,s3,b4,s4⟩,m,rfl,hm⟩
theorem zfR{ts:List CT}{l:List Value}(h:CTs (zpr++ts) l): ∃(x y z:RN) (m:List Value),l=x.v++(y.v++(z.v++m))∧CTs ts m:=by
 obtain⟨x,m1,rfl,h1⟩:=z7t h
 obtain⟨y,m2,rfl,h2⟩:=z7t h1
 obtain⟨z,m3,rfl,h3⟩:=z7t h2
 exact⟨x,y,z,m3,rfl,h3⟩
theorem zbQ{l:List Value}(h:CTs zpr l): ∃x y z:RN,l=x.v++(y.v++z.v):=by
 obtain⟨x,y,z,m,rfl,h4⟩:=zfR (ts:=[]) h
 obtain rfl:m=[]:=h4
 exact⟨x,y,z,by simp⟩
theorem zql:z2y Tryz.prog 8 51=some zpr:=by kernel_rfl
theorem zhm(I:Imm)(x y z:RN):CV.rep I (z5D x y z) (.agg (x.v++(y.v++z.v)).toArray):=zko I (x.v++(y.v++z.v))
end Go.Fw
open Go Go.Proofs Go.Proofs.YtcafjpldfnegiaaGreatDoor
namespace Go.Fw
open Go.ChangeShapes Go.WideShapes Go.ChangeAt Go.RowKit
set_option maxRecDepth 100000
theorem zdI{n:Nat}{x y z:RN}(h:Bk n (x.v++(y.v++z.v))):(VN.mk x y z).raw n=true:=by
 have e: ∀w:RN,(∀s,Value.string s∈w.v→s.size≤n)→w.raw n=true:=fun w hw=>by
  unfold RN.raw
  simp only[Bool.and_eq_true,decide_eq_true_eq]
  exact⟨⟨⟨⟨hw _ (by simp[RN.v]),hw _ (by simp[RN.v])⟩,hw _ (by simp[RN.v])⟩,hw _ (by simp[RN.v])⟩,hw _ (by simp[RN.v])⟩
 exact z07.2 ⟨e x fun s hs=>h s (List.mem_append_left _ hs),e y fun s hs=>h s (List.mem_append_right _ (List.mem_append_left _ hs)),e z fun s hs=>h s (List.mem_append_right _ (List.mem_append_right _ hs))⟩
theorem zci {H : Type} {enc : TypeId × Value → H} (W : World) (base : Nat) (args : Array Value) (ds gs : List (DataW H)) (before : List MemPlace)
    (hval: ∀(j:Nat) t v,Tryz.f13.params[j]?=some t→args[j]?=some v→Value.okWide Tryz.prog W .any base t v)
    (hW:DataW.Whole enc Tryz.prog Tryz.f13.params.toList Rows.calibrateLeastSpec.vars false W args.toList ds gs before) (hk:Rows.uptoSmall H (ds++gs)=true):
    Calls Tryz.prog 13 args W fun e W'=>e= .returned (.bool true)∧Below W.heap.size W W':=by
 obtain⟨p,q,hA,hV,_,_,_⟩:=hW
 rw[Tryz.params13]at hA hval
 obtain⟨v0,vs0,d0,ds0,p0,q0,ha0,hd0,_,h0,r0⟩:=trodAll_cons hA
 obtain⟨v1,vs1,d1,ds1,p1,q1,ha1,hd1,_,h1,r1⟩:=trodAll_cons r0
 obtain⟨hz,hzd,_⟩:=trodAll_nil r1
 subst hz ha1
 obtain rfl:args= #[v0,v1]:=by cases args;simp_all
 obtain⟨l0,Im,him,rp0⟩:=zgy Tryz.underlying68 (by kernel_rfl) (by kernel_rfl) (okWide_slice Tryz.underlying68 (hval 0 68 v0 rfl rfl)) h0
 obtain⟨cs1,rfl,hc1,hb1⟩:=zaD 8 zql (by kernel_rfl) (hval 1 51 v1 rfl rfl) h1
 obtain⟨x1,y1,z1,rfl⟩:=zbQ hc1
 have hr:(VN.mk x1 y1 z1).raw 2000000=true:=by
  refine VN.raw_mono (zdI hb1) ?_
  have h:=of_decide_eq_true hk
  subst hd0 hd1
  simp only[List.cons_append,Rows.uptoBulkAll]at h
  omega
 exact ze2 Im him (zbt l0 ⟨x1,y1,z1⟩ hr) ⟨_,_,rfl,rp0,⟨_,_,rfl,zhm _ _ _ _,rfl⟩⟩
end Go.Fw
