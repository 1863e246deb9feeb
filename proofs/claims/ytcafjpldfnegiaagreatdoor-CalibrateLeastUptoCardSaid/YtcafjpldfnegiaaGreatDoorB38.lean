/- A part of the proof that the law returns true for every input: an executor for the model's code, and what functions of the program compute. -/
import Derived.Test.YtcafjpldfnegiaaGreatDoorB11
import Derived.Test.YtcafjpldfnegiaaGreatDoorB15
import Derived.Test.YtcafjpldfnegiaaGreatDoorB28
import Derived.Test.YtcafjpldfnegiaaGreatDoorB36
import Derived.Test.YtcafjpldfnegiaaGreatDoorB37
import Derived.KernelRfl
import Derived.Maps.Range
import Derived.WideMake
import Derived.Tactics
import Derived.Tactics2
import Derived.Laws.Sem
open Go Go.ChangeMaps
namespace Go.Fw
set_option maxRecDepth 100000
noncomputable def z0v:Code:=match(Go.Proofs.Tryz.f190).body with|some c=>c|none=> .skip
noncomputable def reg2:Code:=z8K [true,true,false,false] z0v
noncomputable def reg3:Code:=z8K [true,true,false,true,true,true,false] z0v
noncomputable def reg4:Code:=z8K [true,true,false,true,true,true,true,true,true,false] z0v
noncomputable def zh1:Code:=z8K [true,true,false,true,true,true,true,true,true,true] z0v
noncomputable def zq0:Code:=z8K [true,true,true,false] z0v
noncomputable def zqd:Code:=z8K [true,true,true,true,false] z0v
noncomputable def z2l:Code:= .seq reg3 (.seq (.cond (.tmp 23) .skip (.exit 0)) (.block 1 (.seq reg4 zh1)))
theorem zbu:z0v= .seq (z8K [false] z0v) (.seq (z8K [true,false] z0v) (.seq (.seq reg2 (.block 0 (.loop z2l))) (.seq zq0 (.seq zqd .ret)))):=by kernel_rfl
theorem zk4 {P : Program} (w : World) (mty kt et : TypeId) (r clock : Nat) (s : Int) (val : Value) (es : Array MapEntry) (hm : P.underlying mty = some (.map kt et)) (hk : P.underlying kt = some (.int .i64)) (hb : w.heap[r]? = some (.map es clock))
    (hf:Instr.findNow (.int .i64) (.int .i64 s) es.toList 0=some none):
    (Instr.mapUpdate mty (.map (some r)) (.int .i64 s) val).run P w= .ok () {w with heap:=w.heap.setIfInBounds r (.map (es.push {key:= .int .i64 s,val:=val,born:=clock}) (clock+1))}:=by
 have hc:(Instr.checkKey false 10000 kt (.int .i64 s)).run P w= .ok () w:=MapKept.run_checkKey (k:= .int .i64 s) hk (by simp[MapKept.IsKey]) false 9999
 simp[Instr.mapUpdate,run_underlying hm,MapKept.run_getObj_map hb,hc,MapKept.run_findKey hk hf,MapKept.run_setObj_map _ hb,Result.andThen]
theorem zhE(h:Array Obj)(x y:Obj):(h.push x).setIfInBounds h.size y=h.push y:=by
 apply Array.toList_inj.1;simp
def z1B(n2 n3 n6:Int):Array MapEntry:= #[⟨.int .i64 2,.int .i64 n2,0⟩,⟨.int .i64 3,.int .i64 n3,1⟩,⟨.int .i64 6,.int .i64 n6,2⟩]
theorem z8Y {P : Program} (w : World) (clock : Nat) (s : Int) (val : Value) (es : Array MapEntry) (hm : P.underlying 224 = some (.map 3 3)) (hk : P.underlying 3 = some (.int .i64))
    (hf:Instr.findNow (.int .i64) (.int .i64 s) es.toList 0=some none):
    (Instr.mapUpdate 224 (.map (some w.heap.size)) (.int .i64 s) val).run P (w.alloc (.map es clock))= .ok () (w.alloc (.map (es.push {key:= .int .i64 s,val:=val,born:=clock}) (clock+1))):=by
 rw[zk4 (P:=P) _ 224 3 3 w.heap.size clock s val es hm hk (heap_alloc_new w _) hf]
 show Result.ok () ({w.alloc (.map es clock)with heap:=(w.heap.push (.map es clock)).setIfInBounds w.heap.size _}:World)=_
 rw[zhE];rfl
theorem zit (a : Act) (w : World) (n2 n3 n6 : Int) (hz : a.tmps.size = 42) (h1 : a.tmps[1]'(by omega) = .int .i64 n2) (h2 : a.tmps[2]'(by omega) = .int .i64 n3) (h3 : a.tmps[3]'(by omega) = .int .i64 n6) :
    reg2.wp P (fun e a' w'=>e= .normal∧a'.defers=a.defers∧(∃x16 x17 x18 x19 x20,a'.tmps=((((((a.tmps.setIfInBounds 16 x16).setIfInBounds 17 x17).setIfInBounds 18 x18).setIfInBounds 19 x19).setIfInBounds 20 x20).setIfInBounds 21 (.pointer (some ⟨w.heap.size+1,0,none⟩))))∧
     w'=(w.alloc (.map (z1B n2 n3 n6) 3)).alloc (.mapIter (some w.heap.size) 3 #[] 3)) a w:=by
 have hmm:=fun t w=>run_makeMap_plain (P:=P) w t
 have hu:=Go.Proofs.Tryz.underlying224
 have hk:=Go.Proofs.Tryz.underlying3
 have hup0:=fun(w:World) (val:Value)=>z8Y (P:=P) w 0 2 val #[] hu hk rfl
 have hup1:=fun(w:World) (v1 val:Value)=>z8Y (P:=P) w 1 3 val #[⟨.int .i64 2,v1,0⟩] hu hk rfl
 have hup2:=fun(w:World) (v1 v2 val:Value)=>z8Y (P:=P) w 2 6 val #[⟨.int .i64 2,v1,0⟩,⟨.int .i64 3,v2,1⟩] hu hk rfl
 have hrg:=fun(w:World) es=>run_range_map (P:=P) (w.alloc (.map es 3)) 224 3 3 w.heap.size es 3 hu (heap_alloc_new w _)
 unfold reg2 z0v
 unfold Go.Proofs.Tryz.f190
 dsimp only[z8K]
 go_wp2
 exact⟨⟨_,_,_,_,_,rfl⟩,rfl⟩
theorem zga (a : Act) (w : World) (r : Nat) (hz : a.tmps.size = 42) (h21 : a.tmps[21]'(by omega) = .pointer (some ⟨r, 0, none⟩))
    (hrun: ∀ty,(Instr.next (.pointer (some ⟨r,0,none⟩)) false ty).run P w= .ok (.tuple #[.bool false]) w):
    reg3.wp P (fun e a' w'=>e= .normal∧a'.defers=a.defers∧(∃x22,a'.tmps=((a.tmps.setIfInBounds 22 x22).setIfInBounds 23 (.bool false)))∧w'=w) a w:=by
 unfold reg3 z0v
 unfold Go.Proofs.Tryz.f190
 dsimp only[z8K]
 go_wp2
 exact⟨_,rfl⟩
theorem zfq (a : Act) (w w2 : World) (r : Nat) (x y : Value) (hz : a.tmps.size = 42) (h21 : a.tmps[21]'(by omega) = .pointer (some ⟨r, 0, none⟩))
    (hrun: ∀ty,(Instr.next (.pointer (some ⟨r,0,none⟩)) false ty).run P w= .ok (.tuple #[.bool true,x,y]) w2):
    reg3.wp P (fun e a' w'=>e= .normal∧a'.defers=a.defers∧(∃x22,a'.tmps=((a.tmps.setIfInBounds 22 x22).setIfInBounds 23 (.bool true)))∧w'=w2) a w:=by
 unfold reg3 z0v
 unfold Go.Proofs.Tryz.f190
 dsimp only[z8K]
 go_wp2
 exact⟨_,rfl⟩
theorem ziZ (a : Act) (w : World) (r : Nat) (x y : Value) (hz : a.tmps.size = 42) (h21 : a.tmps[21]'(by omega) = .pointer (some ⟨r, 0, none⟩))
    (hrun:(Instr.entry (.pointer (some ⟨r,0,none⟩))).run P w= .ok (.tuple #[x,y]) w):
    reg4.wp P (fun e a' w'=>e= .normal∧a'.defers=a.defers∧(∃x24 x25 x26,a'.tmps=(((((a.tmps.setIfInBounds 24 x24).setIfInBounds 25 x25).setIfInBounds 26 x26).setIfInBounds 12 x).setIfInBounds 13 y))∧w'=w) a w:=by
 unfold reg4 z0v
 unfold Go.Proofs.Tryz.f190
 dsimp only[z8K]
 go_wp2
 exact⟨_,_,_,rfl⟩
def z9u(r:Nat):MV:= .cv (.lit (.pointer (some ⟨r,0,none⟩)))
def tmN(a n2 n3 n6 d:Int)(k v it t:MV):List MV:=
 [.cv (j6 a),.cv (j6 n2),.cv (j6 n3),.cv (j6 n6),.cv (j6 d),.unk,.unk,.unk,.unk,.unk,.ptr 0 0,.ptr 1 0,k,v,.unk,.unk,.unk,.unk,.unk,.unk,.unk,it,.unk,t,
  .unk,.unk,.unk,.unk,.unk,.unk,.unk,.unk,.unk,.unk,.unk,.unk,.unk,.unk,.unk,.unk,.unk,.unk]
def ZN:List MV:=(List.replicate 5 [MV.cv (.lit (.bool false)),MV.cv (.lit (.string ⟨#[]⟩))]).flatten
noncomputable def hpN(acc:K):List Blk:=[some ZN,some (MV.cv (Z9 acc)).cells]
theorem z4N{I:Imm}{p:Pl}{tm:List MV}{a:Act}(h:MV.repL I p tm a.tmps.toList){n:Nat}(hn:tm.length=n):a.tmps.size=n∧ ∀(i:Nat) (v:Value) (hi:i<a.tmps.size),tm[i]?=some (.cv (.lit v))→a.tmps[i]=v:=by
 have hl:=MV.repL_length h
 simp only[Array.length_toList]at hl
 refine⟨by omega,fun i v hi hv=>?_⟩
 obtain⟨y,hy,hr⟩:=MV.repL_get h hv
 simp only[Array.getElem?_toList]at hy
 rw[Array.getElem?_eq_getElem hi]at hy
 cases hy
 exact Z1 hr
theorem z1A{I:Imm}{p:Pl}(y:Value):MV.rep I p .unk y:=trivial
theorem z3I{I:Imm}{p:Pl}(y:Value):MV.rep I p (.cv (.lit y)) y:=by simp[MV.rep,CV.rep]
theorem zpM{w w1:World}(h:w1=w∨w1=w.drew)(r:Nat)(o o':Obj)(hr:w.heap[r]?=some o'):(setBlock w1 r o).heap[r]?=some o∧(∀x,x≠r→(setBlock w1 r o).heap[x]?=w.heap[x]?)∧(setBlock w1 r o).heap.size=w.heap.size:=by
 have h1:w1.heap=w.heap:=by rcases h with h|h<;>rw[h]<;>rfl
 have h2:(setBlock w1 r o).heap=w.heap.setIfInBounds r o:=by show w1.heap.setIfInBounds r o=_;rw[h1]
 rw[h2]
 have:=MapKept.heap_set (o':=o) hr
 exact⟨this.1,this.2,Array.size_setIfInBounds⟩
theorem HRel.iter {w0 : Start} {hp : List Blk} {I : Imm} {p : Pl} {w w1 : World} (H : HRel w0 hp I p w) {r : Nat} {q : Option Nat} {s c : Nat} {n : Array Nat} (hr : w.heap[r]? = some (.mapIter q s n c)) (hw : w1 = w ∨ w1 = w.drew) (ho : w0.own r) (hp' : ∀ i κ, p i ≠ some (r, κ)) (o : Obj) :
    HRel w0 hp I p (setBlock w1 r o):=by
 obtain⟨e1,e2,e3⟩:=zpM hw r o _ hr
 refine⟨⟨?_,?_,?_,by rw[e3];exact H.below.size,fun k hk=>?_⟩,fun b cs hb=>?_,H.imf,fun i cells hi=>?_,H.inj⟩
 · rcases hw with rfl|rfl<;>exact H.below.os
 · rcases hw with rfl|rfl<;>exact H.below.tape
 · rcases hw with rfl|rfl<;>exact H.below.output
 · rw[e2 k (fun e=>hk (e ▸ ho))];exact H.below.block k hk
 · obtain⟨c',T,fz,g1,g2⟩:=H.im b cs hb
   refine⟨c',T,fz,?_,g2⟩
   rw[e2 b (fun e=>by rw[e,hr]at g1;cases g1)];exact g1
 · obtain⟨b,κ,c',T,g1,g2,g3⟩:=H.live i cells hi
   exact⟨b,κ,c',T,g1,by rw[e2 b (fun e=>hp' i κ (e ▸ g1))];exact g2,g3⟩
end Go.Fw
open Go Go.ChangeMaps
namespace Go.Fw
set_option maxRecDepth 100000
theorem HRel.allocO{w0:Start}{hp:List Blk}{I:Imm}{p:Pl}{w:World}(H:HRel w0 hp I p w)(o:Obj):HRel w0 hp I p (w.alloc o):=by
 refine⟨H.below.alloc o,H.im.alloc o,H.imf,fun i cells hi=>?_,H.inj⟩
 obtain⟨b,κ,c',T,g1,g2,g3⟩:=H.live i cells hi
 have hlt:b<w.heap.size:=by
  rcases Nat.lt_or_ge b w.heap.size with g|g
  · exact g
  · rw[Array.getElem?_eq_none g]at g2;cases g2
 exact⟨b,κ,c',T,g1,(heap_alloc_old w o hlt).trans g2,g3⟩
theorem zke{w0:Start}{s:St}{I:Imm}{p:Pl}{a:Act}{w:World}(h:SRel w0 s I p a w)(hB:z3U s p)(hl:z3h s.hp=true){i b κ:Nat}(hi:p i=some (b,κ)):b<w.heap.size∧w0.own b:=by
 have hil:i<s.hp.length:=by
  rcases Nat.lt_or_ge i s.hp.length with g|g
  · exact g
  · rw[hB i g]at hi;cases hi
 obtain⟨c,hc⟩:=z21 _ i hl hil
 obtain⟨b',κ',c',T,g1,g2,_,_,g5,_⟩:=h.hp.live i c hc
 rw[g1]at hi;cases hi
 refine⟨?_,g5⟩
 rcases Nat.lt_or_ge b w.heap.size with g|g
 · exact g
 · rw[Array.getElem?_eq_none g]at g2;cases g2
theorem zhn {R : Goal} {k : List Item} {hp : List Blk} {a n2 n3 n6 d : Int} (hl : z3h hp = true)
    (h: ∀r,OkX P 190 k ⟨tmN a n2 n3 n6 d .unk .unk (z9u r) .unk,hp⟩ R (XI r (z1B n2 n3 n6) 3 #[])):Ok P 190 (.code reg2::k) ⟨tmN a n2 n3 n6 d .unk .unk .unk .unk,hp⟩ R:=by
 intro w0 I p act w b cs h1 h2 h3 h31 h32 h4 h5
 obtain⟨hz,hg⟩:=z4N h4.tm (n:=42) rfl
 obtain⟨a',w1,⟨g1,⟨x16,x17,x18,x19,x20,g2⟩,g3⟩,hst⟩:=z2c (P:=P) (b:=b) (k:=k) (cs:=cs) (zit act w n2 n3 n6 hz (hg 1 _ (by omega) rfl) (hg 2 _ (by omega) rfl) (hg 3 _ (by omega) rfl))
 subst g3
 have htm:MV.repL I p (tmN a n2 n3 n6 d .unk .unk (z9u (w.heap.size+1)) .unk) a'.tmps.toList:=by
  rw[g2]
  simp only[Array.toList_setIfInBounds]
  exact MV.repL_set (MV.repL_set (MV.repL_set (MV.repL_set (MV.repL_set (MV.repL_set h4.tm 16 (z1A x16)) 17 (z1A x17)) 18 (z1A x18)) 19 (z1A x19)) 20 (z1A x20)) 21 (z3I _)
 have hlv:=fun {i b κ:Nat}=>zke h4 h5 hl (i:=i) (b:=b) (κ:=κ)
 obtain⟨e,w',fr,k1,k2,k3⟩:=h (w.heap.size+1) w0 I p a' _ b cs h1 h2 h3 h31 h32 ⟨htm,by rw[g1];exact h4.defers,(h4.hp.allocO _).allocO _⟩ h5
  ⟨⟨w.heap.size, (heap_alloc_old (w.alloc (.map (z1B n2 n3 n6) 3)) _ (by show w.heap.size < (w.heap.push _).size; rw [Array.size_push]; omega)).trans (heap_alloc_new w _), by
      have:=heap_alloc_new (w.alloc (.map (z1B n2 n3 n6) 3)) (.mapIter (some w.heap.size) 3 #[] 3)
      rw[show(w.alloc (.map (z1B n2 n3 n6) 3)).heap.size=w.heap.size+1 from Array.size_push _]at this
      exact this,fun i κ hi=>absurd (hlv hi).1 (by omega)⟩,
   fun i κ hi=>absurd (hlv hi).1 (by omega),.inl (Nat.le_succ_of_le h4.hp.below.size),fun i b κ hi=>(hlv hi).2⟩
 exact⟨e,w',fr,k1,.of_steps hst k2,k3⟩
theorem zdQ {k : List Item} {hp : List Blk} {a n2 n3 n6 d : Int} {r : Nat}
    (w0:Start) (I:Imm) (p:Pl) (act:Act) (w:World) (h4:SRel w0 ⟨tmN a n2 n3 n6 d .unk .unk (z9u r) .unk,hp⟩ I p act w)
    (hrun: ∀ty,(Instr.next (.pointer (some ⟨r,0,none⟩)) false ty).run P w= .ok (.tuple #[.bool false]) w) (b:Frame) (cs:List Frame):
    ∃a',SRel w0 ⟨tmN a n2 n3 n6 d .unk .unk (z9u r) (.cv (.lit (.bool false))),hp⟩ I p a' w∧Steps P (lone (b.at act (.code reg3::k)) cs w) (lone (b.at a' k) cs w):=by
 obtain⟨hz,hg⟩:=z4N h4.tm (n:=42) rfl
 obtain⟨a',w1,⟨g1,⟨x22,g2⟩,g3⟩,hst⟩:=z2c (P:=P) (b:=b) (k:=k) (cs:=cs) (zga act w r hz (hg 21 _ (by omega) rfl) hrun)
 subst g3
 refine⟨a',⟨?_,by rw[g1];exact h4.defers,h4.hp⟩,hst⟩
 rw[g2]
 simp only[Array.toList_setIfInBounds]
 exact MV.repL_set (MV.repL_set h4.tm 22 (z1A x22)) 23 (z3I _)
theorem zc2 {_R : Goal} {k : List Item} {hp : List Blk} {a n2 n3 n6 d : Int} {r : Nat} {seen : Array Nat} {es : Array MapEntry} {e : MapEntry}
    (w0:Start) (I:Imm) (p:Pl) (act:Act) (w w1:World) (h4:SRel w0 ⟨tmN a n2 n3 n6 d .unk .unk (z9u r) .unk,hp⟩ I p act w) (hX:XI r es 3 seen w0 p w) (hw:w1=w∨w1=w.drew)
    (hrun: ∀ty bm,w.heap[bm]?=some (.map es 3)→w.heap[r]?=some (.mapIter (some bm) 3 seen 3)→(Instr.next (.pointer (some ⟨r,0,none⟩)) false ty).run P w= .ok (.tuple #[.bool true,e.key,e.val]) (setBlock w1 r (.mapIter (some bm) 3 (seen.push e.born) 3))) (b:Frame) (cs:List Frame):
    ∃a' w',SRel w0 ⟨tmN a n2 n3 n6 d .unk .unk (z9u r) (.cv (.lit (.bool true))),hp⟩ I p a' w'∧XI r es 3 (seen.push e.born) w0 p w'∧Steps P (lone (b.at act (.code reg3::k)) cs w) (lone (b.at a' k) cs w'):=by
 obtain⟨hz,hg⟩:=z4N h4.tm (n:=42) rfl
 obtain⟨bm,m1,m2,m3⟩:=hX.m
 obtain⟨a',w2,⟨g1,⟨x22,g2⟩,g3⟩,hst⟩:=z2c (P:=P) (b:=b) (k:=k) (cs:=cs) (zfq act w _ r e.key e.val hz (hg 21 _ (by omega) rfl) (fun ty=>hrun ty bm m1 m2))
 subst g3
 obtain⟨e1,e2,_⟩:=zpM hw r (.mapIter (some bm) 3 (seen.push e.born) 3) _ m2
 refine⟨a',_,⟨?_,by rw[g1];exact h4.defers,h4.hp.iter m2 hw hX.own hX.pr _⟩,⟨⟨bm,(e2 bm (fun h=>by rw[h,m2]at m1;cases m1)).trans m1,e1,m3⟩,hX.pr,hX.own,hX.ps⟩,hst⟩
 rw[g2]
 simp only[Array.toList_setIfInBounds]
 exact MV.repL_set (MV.repL_set h4.tm 22 (z1A x22)) 23 (z3I _)
theorem zjO {R : Goal} {k : List Item} {hp : List Blk} {a n2 n3 n6 d : Int} {r : Nat} {seen : Array Nat} {es : Array MapEntry} {e : MapEntry} (he : e ∈ es.toList) (hn : (es.toList.map (·.born)).Nodup)
    (h:OkX P 190 k ⟨tmN a n2 n3 n6 d (.cv (.lit e.key)) (.cv (.lit e.val)) (z9u r) (.cv (.lit (.bool true))),hp⟩ R (XI r es 3 (seen.push e.born))):
    OkX P 190 (.code reg4::k) ⟨tmN a n2 n3 n6 d .unk .unk (z9u r) (.cv (.lit (.bool true))),hp⟩ R (XI r es 3 (seen.push e.born)):=by
 intro w0 I p act w b cs h1 h2 h3 h31 h32 h4 h5 h6
 obtain⟨hz,hg⟩:=z4N h4.tm (n:=42) rfl
 obtain⟨bm,m1,m2,m3⟩:=h6.m
 obtain⟨a',w2,⟨g1,⟨x24,x25,x26,g2⟩,g3⟩,hst⟩:=z2c (P:=P) (b:=b) (k:=k) (cs:=cs) (ziZ act w r e.key e.val hz (hg 21 _ (by omega) rfl) (run_entry_at w r bm 3 seen es 3 e m2 m1 he hn))
 subst g3
 have htm:MV.repL I p (tmN a n2 n3 n6 d (.cv (.lit e.key)) (.cv (.lit e.val)) (z9u r) (.cv (.lit (.bool true)))) a'.tmps.toList:=by
  rw[g2]
  simp only[Array.toList_setIfInBounds]
  exact MV.repL_set (MV.repL_set (MV.repL_set (MV.repL_set (MV.repL_set h4.tm 24 (z1A x24)) 25 (z1A x25)) 26 (z1A x26)) 12 (z3I _)) 13 (z3I _)
 obtain⟨e,w',fr,k1,k2,k3⟩:=h w0 I p a' _ b cs h1 h2 h3 h31 h32 ⟨htm,by rw[g1];exact h4.defers,h4.hp⟩ h5 h6
 exact⟨e,w',fr,k1,.of_steps hst k2,k3⟩
end Go.Fw
open Go Go.ChangeMaps
namespace Go.Fw
set_option maxRecDepth 100000
def zpo:List Nat:=[0,1,2,3,4,10,11,21]
theorem ziH {R : Goal} {k : List Item} {a n2 n3 n6 d key v : Int} {acc root : K} {r : Nat} {es : Array MapEntry} {seen : Array Nat} (hR : R.n = 0)
    (hv:v.natAbs<256) (hroot:PCall P 235 [j6 key] (Z9 root)) (hsr:root.sz≤1) (hs:acc.sz<10000)
    (h:OkX P 190 k ⟨tmN a n2 n3 n6 d .unk .unk (z9u r) .unk,hpN (acc+K.ofInt v*root)⟩ R (XI r es 3 seen)):
    OkX P 190 (.code zh1::k) ⟨tmN a n2 n3 n6 d (.cv (.lit (.int .i64 key))) (.cv (.lit (.int .i64 v))) (z9u r) (.cv (.lit (.bool true))),hpN acc⟩ R (XI r es 3 seen):=by
 have hsv:(K.ofInt v).sz≤1:=K.sz_int v (Nat.le_refl _) (by omega)
 have hsm:=K.sz_mul (K.ofInt v) root
 have c1:PCall P 144 [j6 v] (Z9 (K.ofInt v)):=z0o v (by omega)
 have c2:PCall P 136 [Z9 (K.ofInt v),Z9 root] (Z9 (K.ofInt v*root)):=z58 _ _ (by omega)
 have c3:PCall P 137 [Z9 acc,Z9 (K.ofInt v*root)] (Z9 (acc+K.ofInt v*root)):=z6D _ _ (by omega)
 have z1:CvL ZN:=CvL.map_cv (List.replicate 5 [CV.lit (.bool false),CV.lit (.string ⟨#[]⟩)]).flatten
 have z2:CvL (MV.cv (Z9 (acc+K.ofInt v*root))).cells:=CvL.map_cv _
 exact OkX.regS (ors:=[(2,.r (Z9 (K.ofInt v))),(4,.r (Z9 root)),(5,.r (Z9 (K.ofInt v*root))),(6,.r (Z9 (acc+K.ofInt v*root)))]) zpo [0,1]
  (by kernel_rfl) rfl (.cons c1 (.cons hroot (.cons c2 (.cons c3 (.cons (show 10≤10 by decide) (.cons z1 (.cons z2 .nil))))))) rfl rfl hR h
def z0V(n2 n3 n6:Int)(seen:Array Nat):K:=
 (if seen.contains 0 then K.ofInt 0 else K.ofInt n2*K.r2)+(if seen.contains 1 then K.ofInt 0 else K.ofInt n3*K.r3)+(if seen.contains 2 then K.ofInt 0 else K.ofInt n6*K.r6)
theorem zch{n2 n3 n6:Int}{seen:Array Nat}(h:(leftOf (z1B n2 n3 n6) seen).size=0)(acc:K):acc+z0V n2 n3 n6 seen=acc:=by
 have:=all_seen _ _ h
 have h0:seen.contains 0=true:=this ⟨.int .i64 2,.int .i64 n2,0⟩ (by simp[z1B])
 have h1:seen.contains 1=true:=this ⟨.int .i64 3,.int .i64 n3,1⟩ (by simp[z1B])
 have h2:seen.contains 2=true:=this ⟨.int .i64 6,.int .i64 n6,2⟩ (by simp[z1B])
 unfold z0V
 rw[h0,h1,h2]
 exact(show ∀ρ:Nat→K,ρ 0+(CR.ofInt 0+CR.ofInt 0+CR.ofInt 0)=ρ 0 from fun ρ=>CR.ring ρ rfl) (CR.vr [acc])
theorem z5q {n2 n3 n6 : Int} {seen : Array Nat} {acc : K} :
    (seen.contains 0=false→acc+K.ofInt n2*K.r2+z0V n2 n3 n6 (seen.push 0)=acc+z0V n2 n3 n6 seen)∧
    (seen.contains 1=false→acc+K.ofInt n3*K.r3+z0V n2 n3 n6 (seen.push 1)=acc+z0V n2 n3 n6 seen)∧
    (seen.contains 2=false→acc+K.ofInt n6*K.r6+z0V n2 n3 n6 (seen.push 2)=acc+z0V n2 n3 n6 seen):=by
 unfold z0V
 simp only[contains_push]
 refine⟨fun h=>?_,fun h=>?_,fun h=>?_⟩
 · rw[h,show(1==0:Bool)=false from rfl,show(2==0:Bool)=false from rfl,show(0==0:Bool)=true from rfl,Bool.or_false,Bool.or_false,Bool.or_true]
   exact(show ∀ρ:Nat→K,ρ 0+ρ 1+(CR.ofInt 0+ρ 2+ρ 3)=ρ 0+(ρ 1+ρ 2+ρ 3)from fun ρ=>CR.ring ρ rfl) (CR.vr [acc,_,_,_])
 · rw[h,show(0==1:Bool)=false from rfl,show(2==1:Bool)=false from rfl,show(1==1:Bool)=true from rfl,Bool.or_false,Bool.or_false,Bool.or_true]
   exact(show ∀ρ:Nat→K,ρ 0+ρ 2+(ρ 1+CR.ofInt 0+ρ 3)=ρ 0+(ρ 1+ρ 2+ρ 3)from fun ρ=>CR.ring ρ rfl) (CR.vr [acc,_,_,_])
 · rw[h,show(0==2:Bool)=false from rfl,show(1==2:Bool)=false from rfl,show(2==2:Bool)=true from rfl,Bool.or_false,Bool.or_false,Bool.or_true]
   exact(show ∀ρ:Nat→K,ρ 0+ρ 3+(ρ 1+ρ 2+CR.ofInt 0)=ρ 0+(ρ 1+ρ 2+ρ 3)from fun ρ=>CR.ring ρ rfl) (CR.vr [acc,_,_,_])
theorem zbm {R : Goal} {k : List Item} {a n2 n3 n6 d : Int} {tot : K} (hR : R.n = 0) (h2 : n2.natAbs < 256) (h3 : n3.natAbs < 256) (h6 : n6.natAbs < 256)
    (hk:Ok P 190 k ⟨tmN a n2 n3 n6 d .unk .unk .unk .unk,hpN tot⟩ R): ∀(n:Nat) (seen:Array Nat) (acc:K) (r:Nat),(leftOf (z1B n2 n3 n6) seen).size=n→acc+z0V n2 n3 n6 seen=tot→acc.sz+10*n<1000→
     OkX P 190 (.code z2l:: .inLoop z2l:: .inBlock 0::k) ⟨tmN a n2 n3 n6 d .unk .unk (z9u r) .unk,hpN acc⟩ R (XI r (z1B n2 n3 n6) 3 seen):=by
 intro n
 induction n using Nat.strongRecOn with
 |ind n ih=>
 intro seen acc r hn ht hs
 show OkX P 190 (.code (.seq reg3 (.seq (.cond (.tmp 23) .skip (.exit 0)) (.block 1 (.seq reg4 zh1))))::_) _ _ _
 refine OkX.step ?_ (fun b a cs w=>step_seq)
 intro w0 I p act w b cs q1 q2 q3 q31 q32 q4 q5 q6
 obtain⟨bm,m1,m2,m3⟩:=q6.m
 have hst: ∀x∈(z1B n2 n3 n6).toList,x.born<3:=by simp[z1B]
 have hnd:((z1B n2 n3 n6).toList.map (·.born)).Nodup:=by simp[z1B]
 rcases run_next_at (P:=P) w 0 r bm 3 3 seen (z1B n2 n3 n6) 3 m2 m1 hst (Nat.le_refl _)with⟨h0,hrun⟩|⟨e,he,w1,hal,hrun⟩
 · obtain⟨a',hrel,hst⟩:=zdQ (k:= .code (.seq (.cond (.tmp 23) .skip (.exit 0)) (.block 1 (.seq reg4 zh1))):: .inLoop z2l:: .inBlock 0::k) w0 I p act w q4 (fun ty=>hrun) b cs
   rw[←ht,zch h0]at hk
   have z1:CvL ZN:=CvL.map_cv (List.replicate 5 [CV.lit (.bool false),CV.lit (.string ⟨#[]⟩)]).flatten
   have z2:CvL (MV.cv (Z9 acc)).cells:=CvL.map_cv _
   have hfin:Ok P 190 (.code (.seq (.cond (.tmp 23) .skip (.exit 0)) (.block 1 (.seq reg4 zh1))):: .inLoop z2l:: .inBlock 0::k) ⟨tmN a n2 n3 n6 d .unk .unk (z9u r) (.cv (.lit (.bool false))),hpN acc⟩ R:=by
    refine Ok.step ?_ (fun b a cs w=>step_seq)
    refine Ok.cond (t:=false) (d:=false) rfl rfl ?_
    refine Ok.step (todo':=k) ?_ (fun b a cs w=>step_exit (by rfl))
    exact Ok.sel [0,1,2,3,4,10,11] [0,1] rfl (by rw[hR];rfl) (show AllP [CvL ZN,CvL (MV.cv (Z9 acc)).cells]from⟨z1,z2⟩) hk
   obtain⟨e,w',fr,k1,k2,k3⟩:=hfin w0 I p a' w b cs q1 q2 q3 q31 q32 hrel q5
   exact⟨e,w',fr,k1,.of_steps hst k2,k3⟩
 · obtain ⟨a', w', hrel, hX, hst⟩ := zc2 (_R := R) (k := .code (.seq (.cond (.tmp 23) .skip (.exit 0)) (.block 1 (.seq reg4 zh1))) :: .inLoop z2l :: .inBlock 0 :: k) w0 I p act w w1 q4 q6 hal (fun ty bm' g1 g2 => by
     rw[m2]at g2;cases g2;exact hrun) b cs
   have hem:=(mem_left he).1
   have hsh:=left_shrinks (z1B n2 n3 n6) seen e he
   have hns:=(mem_left he).2
   have step5 : ∀ {key v : Int} {root : K}, e.key = .int .i64 key → e.val = .int .i64 v → v.natAbs < 256 → PCall P 235 [j6 key] (Z9 root) → root.sz ≤ 1 → acc + K.ofInt v * root + z0V n2 n3 n6 (seen.push e.born) = tot →
       OkX P 190 (.code (.seq (.cond (.tmp 23) .skip (.exit 0)) (.block 1 (.seq reg4 zh1))):: .inLoop z2l:: .inBlock 0::k) ⟨tmN a n2 n3 n6 d .unk .unk (z9u r) (.cv (.lit (.bool true))),hpN acc⟩ R (XI r (z1B n2 n3 n6) 3 (seen.push e.born)):=by
    intro key v root hk1 hv1 hv2 hr1 hr2 hr3
    refine OkX.step ?_ (fun b a cs w=>step_seq)
    refine OkX.cond (t:=true) (d:=true) rfl rfl ?_
    refine OkX.step ?_ (fun b a cs w=>step_skip)
    refine OkX.step ?_ (fun b a cs w=>step_block)
    refine OkX.step ?_ (fun b a cs w=>step_seq)
    refine zjO hem hnd ?_
    rw[hk1,hv1]
    refine ziH hR hv2 hr1 hr2 (by omega) ?_
    refine OkX.step ?_ (fun b a cs w=>step_inBlock)
    refine OkX.step ?_ (fun b a cs w=>step_inLoop)
    have hsv:(K.ofInt v).sz≤1:=K.sz_int v (Nat.le_refl _) (by omega)
    have hsm:=K.sz_mul (K.ofInt v) root
    have hsa:=K.sz_add acc (K.ofInt v*root)
    exact ih _ (hn ▸ hsh) (seen.push e.born) _ r rfl hr3 (by omega)
   have hall:OkX P 190 (.code (.seq (.cond (.tmp 23) .skip (.exit 0)) (.block 1 (.seq reg4 zh1))):: .inLoop z2l:: .inBlock 0::k) ⟨tmN a n2 n3 n6 d .unk .unk (z9u r) (.cv (.lit (.bool true))),hpN acc⟩ R (XI r (z1B n2 n3 n6) 3 (seen.push e.born)):=by
    have hcase:e=⟨.int .i64 2,.int .i64 n2,0⟩∨e=⟨.int .i64 3,.int .i64 n3,1⟩∨e=⟨.int .i64 6,.int .i64 n6,2⟩:=by simpa[z1B]using hem
    rcases hcase with rfl|rfl|rfl
    · exact step5 rfl rfl h2 ziY (by decide) ((z5q.1 hns).trans ht)
    · exact step5 rfl rfl h3 zjJ (by decide) ((z5q.2.1 hns).trans ht)
    · exact step5 rfl rfl h6 zhB (by decide) ((z5q.2.2 hns).trans ht)
   obtain⟨e,w',fr,k1,k2,k3⟩:=hall w0 I p a' w' b cs q1 q2 q3 q31 q32 hrel q5 hX
   exact⟨e,w',fr,k1,.of_steps hst k2,k3⟩
end Go.Fw
open Go Go.ChangeMaps
namespace Go.Fw
set_option maxRecDepth 100000
def zh9(a n2 n3 n6:Int):K:=K.ofInt a+(K.ofInt n2*K.r2+K.ofInt n3*K.r3+K.ofInt n6*K.r6)
theorem z0p (a n2 n3 n6 d : Int) (ha : a.natAbs < 256) (h2 : n2.natAbs < 256) (h3 : n3.natAbs < 256) (h6 : n6.natAbs < 256) (hd : d.natAbs < 256) (hd0 : K.ofInt d ≠ 0) :
    PCall P 190 [j6 a,j6 n2,j6 n3,j6 n6,j6 d] (Z9 (K.div (zh9 a n2 n3 n6) (K.ofInt d))):=by
 have hsz: ∀v:Int,v.natAbs<256→(K.ofInt v).sz≤1:=fun v hv=>K.sz_int v (Nat.le_refl _) (by omega)
 have z1:CvL ZN:=CvL.map_cv (List.replicate 5 [CV.lit (.bool false),CV.lit (.string ⟨#[]⟩)]).flatten
 have z2:CvL (MV.cv (Z9 (K.ofInt a))).cells:=CvL.map_cv _
 have c1:PCall P 144 [j6 a] (Z9 (K.ofInt a)):=z0o a (by omega)
 have c2:PCall P 144 [j6 d] (Z9 (K.ofInt d)):=z0o d (by omega)
 have sm:=fun(v:Int) (w:K) (hv:v.natAbs<256) (hw:w.sz≤1)=>Nat.le_trans (K.sz_mul (K.ofInt v) w) (Nat.add_le_add_right (Nat.add_le_add (hsz v hv) hw) 1)
 have t2:=sm n2 K.r2 h2 (show K.r2.sz≤1 by decide)
 have t3:=sm n3 K.r3 h3 (show K.r3.sz≤1 by decide)
 have t6:=sm n6 K.r6 h6 (show K.r6.sz≤1 by decide)
 have u1:=K.sz_add (K.ofInt n2*K.r2) (K.ofInt n3*K.r3)
 have u2:=K.sz_add (K.ofInt n2*K.r2+K.ofInt n3*K.r3) (K.ofInt n6*K.r6)
 have u3:=K.sz_add (K.ofInt a) (K.ofInt n2*K.r2+K.ofInt n3*K.r3+K.ofInt n6*K.r6)
 have ua:=hsz a ha
 have ud:=hsz d hd
 have hs:(zh9 a n2 n3 n6).sz≤100:=by unfold zh9;omega
 have c3:PCall P 147 [Z9 (zh9 a n2 n3 n6),Z9 (K.ofInt d)] (.tup [Z9 (K.div (zh9 a n2 n3 n6) (K.ofInt d)),j6 0]):=zgL _ _ hd0 (by omega)
 refine z2E (todo:=[.code z0v]) (s:=⟨([j6 a,j6 n2,j6 n3,j6 n6,j6 d].map .cv)++List.replicate 37 undefM,[]⟩) (rs:=_) rfl ?_
 rw[zbu]
 refine Ok.step ?_ (fun b a cs w=>step_seq)
 refine Ok.regS (s':=⟨(([j6 a,j6 n2,j6 n3,j6 n6,j6 d].map MV.cv)++List.replicate 5 .unk++[.ptr 0 0]++List.replicate 31 .unk),[some ZN]⟩) (ors:=[]) [0,1,2,3,4,10] [0] (by kernel_rfl) rfl (.cons z1 .nil) rfl ?_
 refine Ok.step ?_ (fun b a cs w=>step_seq)
 refine Ok.regS (s':=⟨tmN a n2 n3 n6 d .unk .unk .unk .unk,hpN (K.ofInt a)⟩) (ors:=[(1,.r (Z9 (K.ofInt a)))]) [0,1,2,3,4,10,11] [0,2] (by kernel_rfl) rfl (.cons c1 (.cons (show 10≤10 by decide) (.cons z1 (.cons z2 .nil)))) rfl ?_
 refine Ok.step ?_ (fun b a cs w=>step_seq)
 refine Ok.step ?_ (fun b a cs w=>step_seq)
 refine zhn rfl (fun r=>?_)
 refine OkX.step ?_ (fun b a cs w=>step_block)
 refine OkX.step ?_ (fun b a cs w=>step_loop)
 refine zbm (tot:=zh9 a n2 n3 n6) rfl h2 h3 h6 ?_ 3 #[] (K.ofInt a) r (by simp[leftOf,z1B]) (by simp[z0V,zh9]) (by omega)
 exact okR (ors:=[(2,.r (Z9 (K.ofInt d))),(3,.r (.tup [Z9 (K.div (zh9 a n2 n3 n6) (K.ofInt d)),j6 0]))]) (by kernel_rfl) (.cons c2 (.cons c3 (.cons (show 10≤10 by decide) (.cons (show 10≤10 by decide) .nil)))) rfl
end Go.Fw
open Go
namespace Go.Fw
set_option maxRecDepth 100000
def z49(i:Nat):K:=
 match i with
 |0=>⟨1,0,0,0,1,by decide,by decide⟩
 |1=>⟨0,1,0,1,4,by decide,by decide⟩
 |2=>⟨0,0,1,0,2,by decide,by decide⟩
 |3=>⟨0,1,0,0,2,by decide,by decide⟩
 |4=>⟨1,0,0,0,2,by decide,by decide⟩
 |5=>⟨0,-1,0,1,4,by decide,by decide⟩
 |_=>⟨0,0,0,0,1,by decide,by decide⟩
theorem kq(x y:K)(h0:x.c0=y.c0)(h1:x.c1=y.c1)(h2:x.c2=y.c2)(h3:x.c3=y.c3)(h4:x.d=y.d):Z9 x=Z9 y:=zgQ h0 h1 h2 h3 h4
theorem z9a {i a b c e d : Int} {v : CV} (h : PCall P 190 [j6 a, j6 b, j6 c, j6 e, j6 d] v) (hi : 0 ≤ i ∧ i < 7)
    (hrun:zbE P 122 [j6 i] [(26,.r v)] false 100000= .ret v [35≤35,0≤i∧i<7,5≤5,(0:Int)≤0∧(0:Int)<5,(0:Int)≤1∧(1:Int)<5,(0:Int)≤2∧(2:Int)<5,(0:Int)≤3∧(3:Int)<5,(0:Int)≤4∧(4:Int)<5,PCall P 190 [j6 a,j6 b,j6 c,j6 e,j6 d] v,10≤10]):PCall P 122 [j6 i] v:=
 zgJ hrun (.cons (by decide) (.cons hi (.cons (by decide) (.cons (by decide) (.cons (by decide) (.cons (by decide) (.cons (by decide) (.cons (by decide) (.cons h (.cons (by decide) .nil))))))))))
theorem zbT:PCall P 122 [j6 0] (Z9 (z49 0)):=z9a ((z0p (1) (0) (0) (0) (1) (by decide) (by decide) (by decide) (by decide) (by decide) (by decide)).eq (kq _ (z49 0) (by decide) (by decide) (by decide) (by decide) (by decide))) (by decide) (by kernel_rfl)
theorem zdK:PCall P 122 [j6 1] (Z9 (z49 1)):=z9a ((z0p (0) (1) (0) (1) (4) (by decide) (by decide) (by decide) (by decide) (by decide) (by decide)).eq (kq _ (z49 1) (by decide) (by decide) (by decide) (by decide) (by decide))) (by decide) (by kernel_rfl)
theorem zcf:PCall P 122 [j6 2] (Z9 (z49 2)):=z9a ((z0p (0) (0) (1) (0) (2) (by decide) (by decide) (by decide) (by decide) (by decide) (by decide)).eq (kq _ (z49 2) (by decide) (by decide) (by decide) (by decide) (by decide))) (by decide) (by kernel_rfl)
theorem zc7:PCall P 122 [j6 3] (Z9 (z49 3)):=z9a ((z0p (0) (1) (0) (0) (2) (by decide) (by decide) (by decide) (by decide) (by decide) (by decide)).eq (kq _ (z49 3) (by decide) (by decide) (by decide) (by decide) (by decide))) (by decide) (by kernel_rfl)
theorem zcw:PCall P 122 [j6 4] (Z9 (z49 4)):=z9a ((z0p (1) (0) (0) (0) (2) (by decide) (by decide) (by decide) (by decide) (by decide) (by decide)).eq (kq _ (z49 4) (by decide) (by decide) (by decide) (by decide) (by decide))) (by decide) (by kernel_rfl)
theorem zcl:PCall P 122 [j6 5] (Z9 (z49 5)):=z9a ((z0p (0) (-1) (0) (1) (4) (by decide) (by decide) (by decide) (by decide) (by decide) (by decide)).eq (kq _ (z49 5) (by decide) (by decide) (by decide) (by decide) (by decide))) (by decide) (by kernel_rfl)
theorem zc5:PCall P 122 [j6 6] (Z9 (z49 6)):=z9a ((z0p (0) (0) (0) (0) (1) (by decide) (by decide) (by decide) (by decide) (by decide) (by decide)).eq (kq _ (z49 6) (by decide) (by decide) (by decide) (by decide) (by decide))) (by decide) (by kernel_rfl)
theorem z1v(i:Int)(h:0≤i∧i<7):PCall P 122 [j6 i] (Z9 (z49 i.toNat)):=by
 have hc:i=0∨i=1∨i=2∨i=3∨i=4∨i=5∨i=6:=by omega
 rcases hc with rfl|rfl|rfl|rfl|rfl|rfl|rfl
 · exact zbT
 · exact zdK
 · exact zcf
 · exact zc7
 · exact zcw
 · exact zcl
 · exact zc5
end Go.Fw
open Go IntKind
namespace Go.Fw
set_option maxRecDepth 100000
theorem zhR(i:Int)(h1:decide (i.tmod 24<0)=true):PCall P 31 [j6 i] (.lit (.int .i64 (i64.wrap (i.tmod 24+24)))):=
 j5 (.c (nz 24) (.b 6 h1 .nil)) (by kernel_rfl)
theorem ziW(i:Int)(h1:decide (i.tmod 24<0)=false):PCall P 31 [j6 i] (.lit (.int .i64 (i.tmod 24))):=
 j5 (.c (nz 24) (.b 6 h1 .nil)) (by kernel_rfl)
end Go.Fw
open Go
namespace Go.Fw
theorem znY(i:Int):(decide (i.tmod 24<0)=true→IntKind.i64.wrap (i.tmod 24+24)=i%24)∧(decide (i.tmod 24<0)=false→i.tmod 24=i%24)∧(IntKind.i64.wrap (i.tmod 24+24)).tmod 24=i%24:=by
 have e:=Int.mul_tdiv_add_tmod i 24
 have b1:=Int.tmod_lt_of_pos i (show(0:Int)<24 by decide)
 have b2:=Int.lt_tmod_of_pos i (show(0:Int)<24 by decide)
 generalize i.tmod 24=t at e b1 b2 ⊢
 generalize i.tdiv 24=q at e
 rw[w64 (by omega),Int.tmod_eq_emod_of_nonneg (by omega)]
 simp only[decide_eq_true_eq,decide_eq_false_iff_not]
 omega
theorem z2t(i:Int):PCall P 31 [j6 i] (j6 (i%24)):=by
 cases h:decide (i.tmod 24<0)with
 |true=>exact(zhR i h).eq (congrArg (fun x=>j6 x) ((znY i).1 h))
 |false=>exact(ziW i h).eq (congrArg (fun x=>j6 x) ((znY i).2.1 h))
end Go.Fw
open Go IntKind
namespace Go.Fw
set_option maxRecDepth 100000
theorem zhi(i:Int)(h1:decide (i%24>12)=true)(h2:decide (i64.wrap ((24:Int)-i%24)>6)=true)(s15_0:(0:Int)≤i64.wrap ((12:Int)-i64.wrap ((24:Int)-i%24))∧i64.wrap ((12:Int)-i64.wrap ((24:Int)-i%24))<7)(s16_0:Smk (z49 (i64.wrap ((12:Int)-i64.wrap ((24:Int)-i%24))).toNat)):PCall P 33 [j6 i] (Z9 (-z49 (i64.wrap ((12:Int)-i64.wrap ((24:Int)-i%24))).toNat)):=
 j5 (.r 2 (z2t (i)) (.b 6 h1 (.b 12 h2 (.r 15 (z1v (i64.wrap ((12:Int)-i64.wrap ((24:Int)-i%24))) s15_0) (.r 16 (z9X (z49 (i64.wrap ((12:Int)-i64.wrap ((24:Int)-i%24))).toNat) s16_0) (.c (lq 10 10) .nil)))))) (by kernel_rfl)
theorem ziP(i:Int)(h1:decide (i%24>12)=true)(h2:decide (i64.wrap ((24:Int)-i%24)>6)=false)(s14_0:(0:Int)≤i64.wrap ((24:Int)-i%24)∧i64.wrap ((24:Int)-i%24)<7):PCall P 33 [j6 i] (Z9 (z49 (i64.wrap ((24:Int)-i%24)).toNat)):=
 j5 (.r 2 (z2t (i)) (.b 6 h1 (.b 12 h2 (.r 14 (z1v (i64.wrap ((24:Int)-i%24)) s14_0) (.c (lq 10 10) .nil))))) (by kernel_rfl)
theorem ziG(i:Int)(h1:decide (i%24>12)=false)(h2:decide (i%24>6)=true)(s12_0:(0:Int)≤i64.wrap ((12:Int)-i%24)∧i64.wrap ((12:Int)-i%24)<7)(s13_0:Smk (z49 (i64.wrap ((12:Int)-i%24)).toNat)):PCall P 33 [j6 i] (Z9 (-z49 (i64.wrap ((12:Int)-i%24)).toNat)):=
 j5 (.r 2 (z2t (i)) (.b 6 h1 (.b 9 h2 (.r 12 (z1v (i64.wrap ((12:Int)-i%24)) s12_0) (.r 13 (z9X (z49 (i64.wrap ((12:Int)-i%24)).toNat) s13_0) (.c (lq 10 10) .nil)))))) (by kernel_rfl)
theorem zjE(i:Int)(h1:decide (i%24>12)=false)(h2:decide (i%24>6)=false)(s11_0:(0:Int)≤i%24∧i%24<7):PCall P 33 [j6 i] (Z9 (z49 (i%24).toNat)):=
 j5 (.r 2 (z2t (i)) (.b 6 h1 (.b 9 h2 (.r 11 (z1v (i%24) s11_0) (.c (lq 10 10) .nil))))) (by kernel_rfl)
end Go.Fw
open Go
namespace Go.Fw
def z6Q(i:Int):K:=
 let j:=i%24
 let k:=if j>12 then 24-j else j
 if k>6 then-z49 (12-k).toNat else z49 k.toNat
def zaF(i:Int):K:=z6Q (i%24-6)
theorem zcp(n:Nat):Smk (z49 n):=by
 match n with
 |0=>decide
 |1=>decide
 |2=>decide
 |3=>decide
 |4=>decide
 |5=>decide
 |_+6=>exact(by decide:Smk (z49 6))
theorem z8G(i:Int):PCall P 33 [j6 i] (Z9 (z6Q i)):=by
 have e1:IntKind.i64.wrap (24-i%24)=24-i%24:=w64 (by omega)
 have e2:IntKind.i64.wrap (12-i%24)=12-i%24:=w64 (by omega)
 have e3:IntKind.i64.wrap (12-(24-i%24))=12-(24-i%24):=w64 (by omega)
 cases h1:decide (i%24>12)with
 |true=>
  have h1':=of_decide_eq_true h1
  cases h2:decide (24-i%24>6)with
  |true=>
   have h2':=of_decide_eq_true h2
   refine(zhi i h1 (by rw[e1];exact h2) (by rw[e1,e3];omega) (zcp _)).eq ?_
   rw[e1,e3];simp only[z6Q,if_pos h1',if_pos h2']
  |false=>
   have h2':=of_decide_eq_false h2
   refine(ziP i h1 (by rw[e1];exact h2) (by rw[e1];omega)).eq ?_
   rw[e1];simp only[z6Q,if_pos h1',if_neg h2']
 |false=>
  have h1':=of_decide_eq_false h1
  cases h2:decide (i%24>6)with
  |true=>
   have h2':=of_decide_eq_true h2
   refine(ziG i h1 h2 (by rw[e2];omega) (zcp _)).eq ?_
   rw[e2];simp only[z6Q,if_neg h1',if_pos h2']
  |false=>
   have h2':=of_decide_eq_false h2
   refine(zjE i h1 h2 (by omega)).eq ?_
   simp only[z6Q,if_neg h1',if_neg h2']
end Go.Fw
open Go
namespace Go.Fw
set_option maxRecDepth 100000
theorem Sm3.of{x:K}(h:x.c0.natAbs<256∧x.c1.natAbs<256∧x.c2.natAbs<256∧x.c3.natAbs<256∧x.d.natAbs<256):Sm3 x:=by
 intro i hi
 have k:(256:Nat)≤256^3:=by decide
 have:i=0∨i=1∨i=2∨i=3∨i=4:=by omega
 rcases this with rfl|rfl|rfl|rfl|rfl
 · exact Nat.lt_of_lt_of_le h.1 k
 · exact Nat.lt_of_lt_of_le h.2.1 k
 · exact Nat.lt_of_lt_of_le h.2.2.1 k
 · exact Nat.lt_of_lt_of_le h.2.2.2.1 k
 · exact Nat.lt_of_lt_of_le h.2.2.2.2 k
end Go.Fw
open Go IntKind
namespace Go.Fw
set_option maxRecDepth 100000
theorem zhO(i:Int):PCall P 35 [j6 i] (Z9 (z6Q (i64.wrap (i%24-6)))):=
 j5 (.r 2 (z2t (i)) (.r 4 (z8G (i64.wrap (i%24-6))) (.c (lq 10 10) .nil))) (by kernel_rfl)
end Go.Fw
open Go
namespace Go.Fw
theorem zd2(i:Int):PCall P 35 [j6 i] (Z9 (zaF i)):=(zhO i).eq (by rw[w64 (by omega)];rfl)
end Go.Fw
open Go
namespace Go.Fw
theorem CvL.own(l:List CV):CvL (own l):=CvL.map_cv l
theorem zdm(a b:List CV):own (a++b)=own a++own b:=by simp[own]
end Go.Fw
open Go
namespace Go.Fw
def th(t:Nat→Bool)(p:Nat):MV:= .cv (.lit (.bool (t p)))
end Go.Fw
open Go
namespace Go.Fw
set_option maxRecDepth 100000
def zkQ(x:K):Bool:=decide (x.c0.natAbs<256)&&decide (x.c1.natAbs<256)&&decide (x.c2.natAbs<256)&&decide (x.c3.natAbs<256)&&decide (x.d.natAbs<256)
theorem Sm3.b{x:K}(h:zkQ x=true):Sm3 x:=by
 simp only[zkQ,Bool.and_eq_true,decide_eq_true_eq]at h
 exact Sm3.of ⟨h.1.1.1.1,h.1.1.1.2,h.1.1.2,h.1.2,h.2⟩
theorem zeI(i:Int):z6Q i=z6Q (i%24):=by simp only[z6Q,Int.emod_emod_of_dvd i (Int.dvd_refl 24)]
theorem zgs(i:Int):zaF i=zaF (i%24):=by simp only[zaF,Int.emod_emod_of_dvd i (Int.dvd_refl 24)]
theorem zo1: ∀i:_root_.Fin 24,zkQ (z6Q i.val)=true∧zkQ (zaF i.val)=true:=by decide+kernel
theorem zpR(i:Int): ∃a:_root_.Fin 24,i%24=(a.val:Int):=⟨⟨(i%24).toNat,by omega⟩,by simp only;omega⟩
theorem zor{i:Int}{a:_root_.Fin 24}(h:i%24=(a.val:Int)):z6Q i=z6Q a.val:=by rw[zeI i,h]
theorem zms{i:Int}{a:_root_.Fin 24}(h:i%24=(a.val:Int)):zaF i=zaF a.val:=by rw[zgs i,h]
end Go.Fw
open Go
namespace Go.Fw
def zbs(x:K):List CV:=[.lit (.bool (decide (x.c0<0))),X3 (bytesOf x.c0.natAbs),.lit (.bool (decide (x.c1<0))),X3 (bytesOf x.c1.natAbs),.lit (.bool (decide (x.c2<0))),X3 (bytesOf x.c2.natAbs),.lit (.bool (decide (x.c3<0))),X3 (bytesOf x.c3.natAbs),.lit (.bool (decide (x.d<0))),X3 (bytesOf x.d.natAbs)]
def z99(x y z:K):CV:= .agg (zbs x++(zbs y++zbs z))
end Go.Fw
