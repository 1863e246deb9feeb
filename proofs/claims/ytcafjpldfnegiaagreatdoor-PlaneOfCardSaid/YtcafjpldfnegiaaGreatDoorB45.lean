/- A part of the proof that the law returns true for every input: an executor for the model's code, and what functions of the program compute. -/
import Derived.Test.YtcafjpldfnegiaaGreatDoorB11
import Derived.Test.YtcafjpldfnegiaaGreatDoorB15
import Derived.Test.YtcafjpldfnegiaaGreatDoorB43
import Derived.Test.YtcafjpldfnegiaaGreatDoorB44
import Derived.KernelRfl
open Go Go.RowKit
namespace Go.Fw
set_option maxRecDepth 100000
theorem z99{x y:RN}{n:Nat}(hx:x.raw n=true)(hy:y.raw n=true):(J8 x y).1.raw (8*n+7)=true:=by
 have h1:=z1i hx
 have h2:=z1i hy
 unfold J8
 cases ex:toO x with
 |none=>exact z1h (o:=none) (Nat.zero_le _)
 |some a=>
  cases ey:toO y with
  |none=>exact z1h (o:=none) (Nat.zero_le _)
  |some b=>
   rw[ex]at h1
   rw[ey]at h2
   dsimp only
   split
   · exact z1h (o:=none) (Nat.zero_le _)
   · have:=K.sz_div a b
     refine RN.ofK_raw _ ?_
     have h1:a.sz≤n:=h1
     have h2:b.sz≤n:=h2
     omega
theorem z7n{x:RN}{n:Nat}(hx:x.raw n=true):(z70 x).raw n=true:=by
 unfold z70
 split
 · exact z4M hx
 · exact z4M (z4M hx)
theorem zek:(oN 1).raw 1=true:=by rw[z9R];kernel_rfl
theorem zf6{x:RN}(hx:x.raw 1000=true):(z92 x).raw 10000=true:=RN.raw_mono (z99 (RN.raw_mono zek (by decide)) (z7n hx)) (by decide)
theorem zqQ{p:PN}{x:RN}(hp:p.raw 1000=true)(hx:x.raw 1000=true):(∀q∈(zkN p x).2.1,q)∧ ∀q∈(zla p x).2.1,q:=by
 obtain⟨hn,hd⟩:=PN.raw_iff.1 hp
 have k:=RN.raw_mono (zf6 hx) (show 10000≤1000000 by decide)
 have x1:=RN.raw_mono hx (show 1000≤1000000 by decide)
 rw[zlY,zkQ]
 constructor
 · intro q hq
   simp only[List.mem_cons,List.not_mem_nil,or_false]at hq
   rcases hq with rfl|rfl|rfl|rfl
   · exact z25 1 (by decide)
   · exact zhu x x1
   · exact z3s _ _ (RN.raw_mono zek (by decide)) (z7n x1)
   · decide
 · intro q hq
   simp only[List.mem_cons,List.not_mem_nil,or_false]at hq
   rcases hq with rfl|rfl|rfl|rfl
   · exact zfs _ _ (VN.raw_mono hn (by decide)) k
   · exact z0r _ _ (RN.raw_mono hd (by decide)) k
   · decide
   · decide
def z8W(b0 b1 b2 b3:Nat):Pl:=fun k=>if k=0 then some (b0,40)else if k=1 then some (b1,40)else if k=2 then some (b2,1)else if k=3 then some (b3,10)else none
theorem z4V{b0 b1 b2 b3 i b κ:Nat}(h:z8W b0 b1 b2 b3 i=some (b,κ)):i=0∧b=b0∨i=1∧b=b1∨i=2∧b=b2∨i=3∧b=b3:=by
 unfold z8W at h
 split at h
 · cases h;exact .inl ⟨by assumption,rfl⟩
 · split at h
   · cases h;exact .inr (.inl ⟨by assumption,rfl⟩)
   · split at h
     · cases h;exact .inr (.inr (.inl ⟨by assumption,rfl⟩))
     · split at h
       · cases h;exact .inr (.inr (.inr ⟨by assumption,rfl⟩))
       · cases h
theorem zsT{I:Imm}{q:Pl}: ∀(n:Nat) (l:List Value),l.length=n→MV.repL I q (List.replicate n .unk) l
 |0,l,h=>List.eq_nil_of_length_eq_zero h
 |n+1,[],h=>by cases h
 |n+1,x::xs,h=>⟨x,xs,rfl,trivial,zsT n xs (by simpa using h)⟩
theorem PN.a_size(p:PN):p.a.size=40:=by
 unfold PN.a
 rw[Array.size_append,Array.size_append,Array.size_append];rfl
theorem zhV{I:Imm}{q:Pl}{c v:Array Value}{l:List CV}(hl:l=v.toList.map .lit)(hs:c.size=v.size)(h:MV.repL I q (own l) (c.toList.take (own l).length)):c=v:=by
 subst hl
 rw[List.take_of_length_le (by unfold own;simp;omega)]at h
 unfold own at h
 rw[MV.repL_map_cv]at h
 exact Array.ext' (z1J h)
theorem zcx (p : PN) (x : RN) (hp : p.raw 1000 = true) (hx : x.raw 1000 = true) {l m : Nat} (W : World) (b0 b1 b2 bx : Nat) (h01 : b0 < b1) (h12 : b1 < b2) (h2x : b2 < bx)
    (H0:W.heap[b0]?=some (.cells p.a 99 (0,0))) (H1:W.heap[b1]?=some (.cells PN.zero.a 99 (0,0))) (H2:W.heap[b2]?=some (.cells #[.int .i64 0] 24 (0,0))) (Hx:W.heap[bx]?=some (.cells x.a 39 (0,0)))
    (a:Act) (t:Value) (ts:List Value) (ha:a.tmps.toList=t:: .pointer (some ⟨b0,0,none⟩):: .pointer (some ⟨b1,0,none⟩):: .pointer (some ⟨b2,0,none⟩):: .pointer (some ⟨bx,0,none⟩)::ts) (hts:ts.length=26) (hd:a.defers=[]):
    (Code.region 6 (zi1 P 91 6) true).wpIn (Fence.wide.inRound l) m P (fun e a1 W1=>e= .normal∧(Code.region 7 (zi1 P 91 7) true).wpIn (Fence.wide.inRound l) m P (fun e a2 W2=>e= .normal∧a2.defers=[]∧
     Below b0 W W2∧(∀B,KeepsFrom B W W2)∧(∃T,W2.heap[b1]?=some (.cells (z4u p x).a T (0,0)))∧ ∃T,W2.heap[b2]?=some (.cells #[.int .i64 0] T (0,0))) a1 W1) a W:=by
 obtain⟨o6,o7⟩:=zqQ hp hx
 have hlt:=(Array.getElem?_eq_some_iff.1 Hx).1
 have own: ∀(v:Array Value) {c:List CV},c=v.toList.map .lit→MV.repL (fun _=>none) (z8W b0 b1 b2 bx) (own c) (v.toList.take (Go.Fw.own c).length):=by
  intro v c hc
  rw[hc,List.take_of_length_le (by unfold Go.Fw.own;simp)]
  exact zkU _
 have R:SRel ⟨W,fun _=>none,z8W b0 b1 b2 bx⟩ (zrz p x) (fun _=>none) (z8W b0 b1 b2 bx) a W:=by
  refine⟨?_,hd,⟨rfl,rfl,rfl,Nat.le_refl _,fun _ _=>rfl⟩,(fun b cs hb=>by cases hb),(fun b hb=>(hb rfl).elim),?_,?_⟩
  · rw[ha]
    exact⟨_,_,rfl,trivial,_,_,rfl,⟨b0,40,rfl,rfl⟩,_,_,rfl,⟨b1,40,rfl,rfl⟩,_,_,rfl,⟨b2,1,rfl,rfl⟩,_,_,rfl,⟨bx,10,rfl,rfl⟩,zsT 26 ts hts⟩
  · intro i cells hi
    match i,hi with
    |0,hi=>cases hi;exact⟨b0,40,_,_,rfl,H0,PN.a_size p,own p.a (zah p),.inr ⟨0,40,rfl⟩,rfl⟩
    |1,hi=>cases hi;exact⟨b1,40,_,_,rfl,H1,PN.a_size .zero,own PN.zero.a (zah .zero),.inr ⟨1,40,rfl⟩,rfl⟩
    |2,hi=>cases hi;exact⟨b2,1,_,_,rfl,H2,rfl,own #[.int .i64 0] rfl,.inr ⟨2,1,rfl⟩,rfl⟩
    |3,hi=>cases hi;exact⟨bx,10,_,_,rfl,Hx,rfl,own x.a rfl,.inr ⟨3,10,rfl⟩,rfl⟩
    |k+4,hi=>cases hi
  · intro i j ci cj b κ b' κ' _ _ hne h1 h2
    rcases z4V h1 with⟨e,rfl⟩|⟨e,rfl⟩|⟨e,rfl⟩|⟨e,rfl⟩<;>rcases z4V h2 with⟨e',rfl⟩|⟨e',rfl⟩|⟨e',rfl⟩|⟨e',rfl⟩<;>omega
 have B:z2x (zrz p x) (z8W b0 b1 b2 bx):=by
  intro k hk
  have:4≤k:=hk
  unfold z8W
  rw[if_neg (by omega),if_neg (by omega),if_neg (by omega),if_neg (by omega)]
 refine wpIn_mono (z6K (zmc p x) (by kernel_rfl) o6 R B) ?_
 rintro e a1 W1 ⟨rfl,I1,p1,hI1,R1,B1,hp1⟩
 refine⟨rfl,wpIn_mono (z6K (ziu p x) (by kernel_rfl) o7 R1 B1) ?_⟩
 rintro e a2 W2 ⟨rfl,I2,p2,hI2,R2,B2,hp2⟩
 have hle:(z8W b0 b1 b2 bx).le p2:=fun k v hk=>hp2 k v (hp1 k v hk)
 have blw:=R2.hp.below
 have kept: ∀k,k<W.heap.size→k≠b0→k≠b1→k≠b2→k≠bx→W2.heap[k]?=W.heap[k]?:=by
  intro k hk n0 n1 n2 n3
  refine blw.block k ?_
  rintro(h|⟨i,κ,h⟩)
  · have:W.heap.size≤k:=h
    omega
  · rcases z4V h with⟨_,e⟩|⟨_,e⟩|⟨_,e⟩|⟨_,e⟩<;>contradiction
 refine⟨rfl,R2.defers,⟨blw.os,blw.tape,blw.output,blw.size,fun k hk=>kept k (by omega) (by omega) (by omega) (by omega) (by omega)⟩,fun B=>⟨blw.size,fun k o _ hk ho=>?_⟩,?_,?_⟩
 · refine(kept k (Array.getElem?_eq_some_iff.1 hk).1 ?_ ?_ ?_ ?_).trans hk
   · rintro rfl;rw[H0]at hk;cases hk;cases ho
   · rintro rfl;rw[H1]at hk;cases hk;cases ho
   · rintro rfl;rw[H2]at hk;cases hk;cases ho
   · rintro rfl;rw[Hx]at hk;cases hk;cases ho
 · obtain⟨b,κ,c,T,k1,k2,k3,k4,_⟩:=R2.hp.live 1 _ (znA p x)
   rw[hle 1 (b1,40) rfl]at k1
   injection k1 with k1
   injection k1 with k1 k1'
   subst k1 k1'
   refine⟨T,?_⟩
   rw[k2,zhV (v:=(z4u p x).a) (zah _) (k3.trans (PN.a_size _).symm) k4]
 · obtain⟨b,κ,c,T,k1,k2,k3,k4,_⟩:=R2.hp.live 2 _ (zmr p x)
   rw[hle 2 (b2,1) rfl]at k1
   injection k1 with k1
   injection k1 with k1 k1'
   subst k1 k1'
   refine⟨T,?_⟩
   rw[k2,zhV (v:= #[.int .i64 0]) rfl k3 k4]
end Go.Fw
open Go Go.RowKit Go.Shelf Go.Proofs
namespace Go.Fw
attribute [local go_sem] Oper.semAt_some
set_option maxRecDepth 100000
set_option maxHeartbeats 1000000
theorem zfy (F : Fence) (n : Nat) (h : F.fn 168) (hro : F.round = none) (a : Array Value) (w : World) :
    CallsIn F n Tryz.prog 168 #[.agg a] w fun e w'=>e= .returned (.func (.func 221) #[] #[.pointer (some ⟨w.heap.size,0,none⟩)])∧w'=w.alloc (.cells a 51):=by
 refine callsIn_of_wp Tryz.func168 rfl h ?_ hro
 simp only[Tryz.ntmps168,List.size_toArray,List.length_cons,List.length_nil,Nat.reduceAdd,Nat.reduceSub,Array.replicate_succ,Array.replicate_zero,List.push_toArray,List.append_toArray,List.nil_append,List.cons_append]
 gi_wp2
 go_ret
 exact⟨rfl,rfl⟩
theorem z5Z{x:RN}{v:Array Value}{w:World}{b k:Nat}(h:w.heap[b]?=some (.cells v 51 (0,0)))(hv:(v.toList.drop k).take 10=x.a.toList):(Instr.loadAt 39 (.pointer (some ⟨b,k,none⟩))).run Tryz.prog w= .ok (.agg x.a) w:=
 z4o Tryz.underlying39 h (by rw[z6b,hv]) (by rw[z6b];rfl)
theorem z9c {α : Type} (enc : α → Array Value) (u0 u1 u2 : α) (F : Fence) (n : Nat) (h : F.fn 221) (hro : F.round = none) (hn : 1 ≤ n) (Bn n₀ : Nat) (x y z : RN) (w : World) (hBn : Bn < w.heap.size) (hn0 : Bn < n₀)
    (hc:w.heap[Bn]?=some (.cells (x.a++(y.a++z.a)) 51 (0,0)))
    (e0:enc u0= #[.agg x.a]) (e1:enc u1= #[.agg y.a]) (e2:enc u2= #[.agg z.a]):
    SeqStopsK F n Tryz.prog 221 #[.pointer (some ⟨Bn,0,none⟩)] enc (Below n₀) (fun ys=>ys=[u0,u1,u2]) (fun pre=>pre<+:[u0,u1,u2]) 3 w:=fun l J Jx W hW hJ hJx hY h0=>by
 refine callsIn_of_wp Tryz.func221 rfl h ?_ hro
 simp only[Tryz.ntmps221,List.size_toArray,List.length_cons,List.length_nil,Nat.reduceAdd,Nat.reduceSub,Array.replicate_succ,Array.replicate_zero,List.push_toArray,List.append_toArray,List.nil_append,List.cons_append]
 have hb:=(hW.block Bn hBn).trans hc
 have l0:(Instr.loadAt 39 (.pointer (some ⟨Bn,0,none⟩))).run Tryz.prog W= .ok (.agg x.a) W:=z5Z (x:=x) hb (by simp[RN.a])
 obtain⟨fn,tmps,assign,body,hy,hR⟩:=hY [] u0 W h0 (by simp)
 rw[e0]at hy
 gi_wp2_with (refine z0h rfl rfl rfl l0 ?_)
 refine hR.mono ?_
 rintro e W3 (⟨rfl,hJ3,hk3⟩|⟨rfl,hJx3⟩)
 · have hb3:=(hk3.block Bn hn0).trans hb
   have l1:(Instr.loadAt 39 (.pointer (some ⟨Bn,10,none⟩))).run Tryz.prog W3= .ok (.agg y.a) W3:=z5Z (x:=y) hb3 (by simp[RN.a])
   obtain⟨fn,tmps,assign,body,hy,hR⟩:=hY _ u1 W3 hJ3 (by simp)
   rw[e1]at hy
   gi_wp2_with (refine z3m rfl rfl rfl l1 ?_)
   refine hR.mono ?_
   rintro e W4 (⟨rfl,hJ4,hk4⟩|⟨rfl,hJx4⟩)
   · have hb4:=(hk4.block Bn hn0).trans hb3
     have l2:(Instr.loadAt 39 (.pointer (some ⟨Bn,20,none⟩))).run Tryz.prog W4= .ok (.agg z.a) W4:=z5Z (x:=z) hb4 (by simp[RN.a])
     obtain⟨fn,tmps,assign,body,hy,hR⟩:=hY _ u2 W4 hJ4 (by simp)
     rw[e2]at hy
     gi_wp2_with (refine z3m rfl rfl rfl l2 ?_)
     refine hR.mono ?_
     rintro e W5 (⟨rfl,hJ5,hk5⟩|⟨rfl,hJx5⟩)
     · gi_wp2
       go_end0
       exact⟨⟨_,rfl⟩,.inl ⟨_,rfl,hJ5⟩⟩
     · gi_wp2
       go_end0
       exact⟨⟨_,rfl⟩,.inr ⟨_,by simp,hJx5⟩⟩
   · gi_wp2
     refine⟨fun _ h=>(by cases h),?_⟩
     gi_wp2
     go_end0
     exact⟨⟨_,rfl⟩,.inr ⟨_,by simp,hJx4⟩⟩
 · gi_wp2
   refine⟨fun _ h=>(by cases h),?_⟩
   gi_wp2
   go_end0
   exact⟨⟨_,rfl⟩,.inr ⟨_,by simp,hJx3⟩⟩
end Go.Fw
open Go Go.RowKit Go.Shelf Go.Proofs
namespace Go.Fw
attribute [local go_sem] Oper.semAt_some
set_option maxRecDepth 100000
set_option maxHeartbeats 1000000
theorem zdL:Tryz.prog.cellsOf 99=40:=by kernel_rfl
theorem zc1{p:PN}{w:World}{b:Nat}{T:TypeId}(h:w.heap[b]?=some (.cells p.a T (0,0))):(Instr.loadAt 99 (.pointer (some ⟨b,0,none⟩))).run Tryz.prog w= .ok (.agg p.a) w:=
 z4o Tryz.underlying99 h (by rw[zdL,List.drop_zero,List.take_of_length_le (by rw[Array.length_toList,p.a_size];exact Nat.le_refl _)]) (by rw[zdL,p.a_size])
theorem zic{p:PN}{w:World}{b:Nat}{T:TypeId}(h:w.heap[b]?=some (.cells p.a T (0,0))):(Instr.loadAt 51 (.pointer (some ⟨b,0,none⟩))).run Tryz.prog w= .ok (.agg (p.n.x.a++(p.n.y.a++p.n.z.a))) w:=
 z4o Tryz.underlying51 h (by rw[z7A];simp[PN.a,RN.a]) (by rw[z7A];simp[RN.a_size])
theorem PCall.flat1{f:FuncId}{c:CV}{a:Array Value}{v:Value}(h:PCall P f [c] (.lit v))(hc:c= .agg (a.toList.map .lit))(w:World):Calls P f #[.agg a] w fun e w'=>e= .returned v∧Below w.heap.size w w':=by
 refine(h (fun _=>none) w #[.agg a] (fun b cs hb=>by cases hb) ⟨_,_,rfl,by rw[hc];exact⟨_,rfl,z36 _ _⟩,rfl⟩).mono ?_
 rintro e w' ⟨y,v',I,rfl,rfl,hr,_,_,hb,_⟩
 exact⟨by rw[show y=v from hr],hb⟩
theorem zdW(p:PN):p.c= .agg (p.a.toList.map .lit):=by rw[←zah];rfl
noncomputable def can(p:PN):PN×Int:=
 if z0a p.n.x≠0 then(z4u p p.n.x,0)else if z0a p.n.y≠0 then(z4u p p.n.y,0)else if z0a p.n.z≠0 then(z4u p p.n.z,0)else(.zero,1)
abbrev RNk:={x:RN//x.raw 1000=true}
abbrev enS(x:RNk):Array Value:= #[.agg x.1.a]
theorem zaw{F:Fence}{n id:Nat}{P:Program}{ops ra:Array Oper}{Q:Exit→Act→World→Prop}{a:Act}{w:World}(h:ra=ops)(hw:(Code.region id ra true).wpIn F n P Q a w):(Code.region id ops true).wpIn F n P Q a w:=h ▸ hw
theorem ztv {P : Program} {fn : Func} {i j : Nat} {t1 t2 : TypeId} (hf : fn.results.toList = [.cell i t1, .cell j t2]) {a : Array Value} {w : World} {p1 p2 : Addr} {v1 v2 : Value} (ha : a.getD i undef = .pointer (some p1)) (hb : a.getD j undef = .pointer (some p2))
    (h1:(loadVar t1 p1).run P w= .ok v1 w) (h2:(loadVar t2 p2).run P w= .ok v2 w):(results fn a).run P w= .ok (.tuple #[v1,v2]) w:=by
 refine z3L (P:=P) (fn:=fn) (a:=⟨a,[]⟩) (ys:=[v1,v2]) ?_
 rw[hf,List.mapM_cons,Sem.run_bind]
 simp only[ha,hb,List.mapM_cons,List.mapM_nil,Sem.run_bind,asAddr,Sem.run_pure,Result.andThen_ok,h1,h2]
theorem zgZ{w:World}{b:Nat}{T:TypeId}{n:Int}(h:w.heap[b]?=some (.cells #[.int .i64 n] T (0,0))):(loadVar 24 ⟨b,0,none⟩).run Tryz.prog w= .ok (.int .i64 n) w:=by
 obtain⟨y,h1,_,h3⟩:=z3M (P:=Tryz.prog) (w:=w) (off:=0) (U:=24) h Tryz.underlying24 (by kernel_rfl:Tryz.prog.cellsOf 24=1) (l:=[.int .i64 n]) rfl rfl (fun _=>rfl)
 rw[h1,←(List.cons.inj (h3 rfl)).1]
theorem zeS{p:PN}{w:World}{b:Nat}{T:TypeId}(h:w.heap[b]?=some (.cells p.a T (0,0))):(loadVar 99 ⟨b,0,none⟩).run Tryz.prog w= .ok (.agg p.a) w:=by
 have:=zc1 h
 simpa[Instr.loadAt,Instr.sureAddr]using this
theorem zox (p : PN) (hp : p.raw 1000 = true) (hok : p.ok = true) (hnz : z0a p.n.x = 0 → z0a p.n.y = 0 → z0a p.n.z = 0 → False) (w : World) :
    CallsIn Fence.wide 6 Tryz.prog 91 #[.agg p.a] w fun e W'=>e= .returned (.tuple #[.agg (can p).1.a,.int .i64 (can p).2])∧Below w.heap.size w W':=by
 obtain⟨hpn,hpd⟩:=PN.raw_iff.1 hp
 obtain⟨hx,hy,hz⟩:=z0q.1 hpn
 have hV:=fun W=>callsIn_wide (n:=5).2 ((z2X p (PN.raw_iff.2 ⟨VN.raw_mono hpn (by decide),RN.raw_mono hpd (by decide)⟩)).flat1 (zdW p) W)
 rw[hok]at hV
 have hS:=fun(u:RNk) (m:Nat) W=>callsIn_wide (n:=m).2 ((z0n u.1 (RN.raw_mono u.2 (by decide))).num W)
 obtain⟨A,hA⟩: ∃A,p.a=A:=⟨_,rfl⟩
 rw[hA]at hV ⊢
 obtain⟨Y,hY⟩: ∃Y,p.n.x.a++(p.n.y.a++p.n.z.a)=Y:=⟨_,rfl⟩
 refine callsIn_of_wp_marks Tryz.func91 rfl trivial ?_ rfl
 simp only[Tryz.ntmps91,List.size_toArray,List.length_cons,List.length_nil,Nat.reduceAdd,Nat.reduceSub,Array.replicate_succ,Array.replicate_zero,List.push_toArray,List.append_toArray,List.nil_append,List.cons_append]
 have hb: ∀Z:Array Value,(((w.alloc (.cells A 99)).alloc (.cells Z 99)).alloc (.cells #[.int .i64 0] 24)).heap[w.heap.size]?=some (.cells A 99 (0,0)):=fun Z=>
  (Below.heap_alloc _ _ _ (by simp;omega)).trans ((Below.heap_alloc _ _ _ (by simp)).trans (World.alloc_heap_new w _))
 have hb1: ∀Z:Array Value,(((w.alloc (.cells A 99)).alloc (.cells Z 99)).alloc (.cells #[.int .i64 0] 24)).heap[w.heap.size+1]?=some (.cells Z 99 (0,0)):=fun Z=>
  (Below.heap_alloc _ _ _ (by simp)).trans (by have:=World.alloc_heap_new (w.alloc (.cells A 99)) (.cells Z 99);rwa[World.size_alloc]at this)
 have hb2: ∀Z:Array Value,(((w.alloc (.cells A 99)).alloc (.cells Z 99)).alloc (.cells #[.int .i64 0] 24)).heap[w.heap.size+1+1]?=some (.cells #[.int .i64 0] 24 (0,0)):=fun Z=>by
  have:=World.alloc_heap_new ((w.alloc (.cells A 99)).alloc (.cells Z 99)) (.cells #[.int .i64 0] 24);rwa[World.size_alloc,World.size_alloc]at this
 have hB0: ∀Z:Array Value,Below w.heap.size w (((w.alloc (.cells A 99)).alloc (.cells Z 99)).alloc (.cells #[.int .i64 0] 24)):=fun Z=>(((Below.refl _ w).alloc (Nat.le_refl _) _).alloc (by simp) _).alloc (by simp;omega) _
 have hs0: ∀Z:Array Value,(((w.alloc (.cells A 99)).alloc (.cells Z 99)).alloc (.cells #[.int .i64 0] 24)).heap.size=w.heap.size+3:=fun Z=>by simp
 have hl:=fun Z=>zc1 (p:=p) (by rw[hA];exact hb Z)
 rw[hA]at hl
 have hl51: ∀W:World,W.heap[w.heap.size]?=some (.cells A 99 (0,0))→(Instr.loadAt 51 (.pointer (some ⟨w.heap.size,0,none⟩))).run Tryz.prog W= .ok (.agg Y) W:=fun W h=>by rw[←hY];exact zic (by rw[hA];exact h)
 gi_wp2_with (first|(refine⟨trivial,?_⟩;gi_at_call 79;refine(hV _).mono ?_;rintro e W1 ⟨rfl,hB1⟩;have q0:=(hB1.block w.heap.size (by rw[hs0];omega)).trans (hb _);have q1:=(hB1.block (w.heap.size+1) (by rw[hs0];omega)).trans (hb1 _);have q2:=(hB1.block (w.heap.size+1+1) (by rw[hs0];omega)).trans (hb2 _);have hBW:=(hB0 _).trans (hB1.mono (by rw[hs0];omega));have hsz:=hB1.size;rw[hs0]at hsz;have hl2:=hl51 _ q0;clear hB1 hl)|(refine⟨trivial,?_⟩;gi_at_call 168;refine(zfy Fence.wide 5 trivial rfl _ _).mono ?_;rintro e w' ⟨rfl,rfl⟩)|refine z0h rfl rfl rfl hl2 ?_|refine z0h rfl rfl rfl (hl _) ?_)
 clear hb hb1 hb2 hB0 hs0 hl51 hl2
 have Z1:W1.heap[w.heap.size+1]?=some (.cells PN.zero.a 99 (0,0)):=q1
 clear q1
 obtain⟨W0,hW0⟩: ∃W0,W1.alloc (.cells Y 51)=W0:=⟨_,rfl⟩
 have f0:W0.heap[w.heap.size]?=some (.cells A 99 (0,0)):=by rw[←hW0];exact(Below.heap_alloc _ _ _ (by omega)).trans q0
 have f1:W0.heap[w.heap.size+1]?=some (.cells PN.zero.a 99 (0,0)):=by rw[←hW0];exact(Below.heap_alloc _ _ _ (by omega)).trans Z1
 have f2:W0.heap[w.heap.size+1+1]?=some (.cells #[.int .i64 0] 24 (0,0)):=by rw[←hW0];exact(Below.heap_alloc _ _ _ (by omega)).trans q2
 have fY:W0.heap[W1.heap.size]?=some (.cells Y 51 (0,0)):=by rw[←hW0];exact World.alloc_heap_new W1 _
 have hB0:Below w.heap.size w W0:=by rw[←hW0];exact hBW.alloc (by omega) _
 have hs:W0.heap.size=W1.heap.size+1:=by rw[←hW0];simp
 rw[hW0]
 rw[←hY]at fY
 clear hW0
 refine wpIn_rangeFunc_ownH rfl (by decide) (gf:=221) (lb:= #[.pointer (some ⟨W1.heap.size,0,none⟩)]) rfl trivial (enters_of Tryz.func221 (by kernel_rfl) rfl)
  (z9c enS ⟨_,hx⟩ ⟨_,hy⟩ ⟨_,hz⟩ Fence.wide 5 trivial rfl (by decide) W1.heap.size W0.heap.size p.n.x p.n.y p.n.z W0 (by omega) (by omega) fY rfl rfl rfl) belowK_t (belowK_b (Nat.le_refl _)) (Below.refl _ _) (fun _=>rfl)
  (fun pre W=>((∀u∈pre,z0a u.1=0)∧W.heap[w.heap.size]?=some (.cells A 99 (0,0))∧W.heap[w.heap.size+1]?=some (.cells PN.zero.a 99 (0,0))∧W.heap[w.heap.size+1+1]?=some (.cells #[.int .i64 0] 24 (0,0)))∧Below W0.heap.size W0 W)
  (fun c pre W=>(c= .ret∧ ∃(q:List RNk) (u:RNk) (T T':TypeId),pre=q++[u]∧(∀u∈q,z0a u.1=0)∧z0a u.1≠0∧W.heap[w.heap.size+1]?=some (.cells (z4u p u.1).a T (0,0))∧W.heap[w.heap.size+1+1]?=some (.cells #[.int .i64 0] T' (0,0)))∧Below w.heap.size w W)
  (OwnFrom.and (OwnFrom.and (ownFrom_pure _ _) (OwnFrom.and (z1t _ _ (fun _=>A) 99) (OwnFrom.and (z1t _ _ (fun _=>PN.zero.a) 99) (z1t _ _ (fun _=> #[.int .i64 0]) 24)))) (ownFrom_below (Nat.le_refl _) (Nat.le_refl _)))
  (fun c=>OwnFrom.and (fun s X X' row h hg hr=>by
   obtain⟨hc,q,u,T,T',e1,e2,e3,e4,e5⟩:=h
   exact⟨hc,q,u,T,T',e1,e2,e3,z1t _ _ (fun(_:Unit)=>(z4u p u.1).a) T () X X' row e4 hg hr,z1t _ _ (fun(_:Unit)=> #[.int .i64 0]) T' () X X' row e5 hg hr⟩) (ownFrom_below (by omega) (by omega)))
  ⟨⟨by simp,f0,f1,f2⟩,Below.refl _ _⟩
  (fun x a' W=> ∃Bx,w.heap.size+1+1<Bx∧W.heap[Bx]?=some (.cells x.1.a 39 (0,0))∧a'={tmps:= #[.agg A,.pointer (some ⟨w.heap.size,0,none⟩),.pointer (some ⟨w.heap.size+1,0,none⟩),.pointer (some ⟨w.heap.size+1+1,0,none⟩),.pointer (some ⟨Bx,0,none⟩),undef,.agg A,.bool true,.bool false,undef,.pointer (some ⟨w.heap.size,0,none⟩),.agg Y,.func (.func 221) #[] #[.pointer (some ⟨W1.heap.size,0,none⟩)],.agg x.1.a,undef,undef,undef,undef,undef,undef,undef,undef,undef,undef,undef,undef,undef,undef,undef,undef,undef],defers:=[]})
  (fun x a' _ X X' row hs hg hr=>by obtain⟨Bx,e1,e2,e3⟩:=hs;exact⟨Bx,e1,z1t _ Bx (fun(_:Unit)=>x.1.a) 39 () X X' row e2 hg hr,e3⟩)
  ?assign ?body ?done ?stop
 case assign=>
  rintro l pre x W K ⟨⟨hp0,F0,F1,F2⟩,hB1⟩ hK
  dsimp only[enS]
  have hst:=z8i x.1 W #[.bool false,.string ⟨#[]⟩,.bool false,.string ⟨#[]⟩,.bool false,.string ⟨#[]⟩,.bool false,.string ⟨#[]⟩,.bool false,.string ⟨#[]⟩] rfl
  gi_wp2_with (refine z2F rfl rfl rfl rfl hst ?_)
  have al: ∀{k:Nat} {o:Obj},W.heap[k]?=some o→(W.alloc (.cells x.1.a 39)).heap[k]?=some o:=fun h=>(Below.heap_alloc W _ _ (Array.getElem?_eq_some_iff.1 h).1).trans h
  exact hK _ _ ((KeepsOthers.alloc _ _).from _) ((Below.refl _ W).alloc hB1.size _) ⟨⟨hp0,al F0,al F1,al F2⟩,hB1.alloc hB1.size _⟩ ⟨W.heap.size,(Array.getElem?_eq_some_iff.1 F2).1,World.alloc_heap_new W _,rfl⟩
 case body=>
  rintro l pre x a' W hl ⟨r,hr⟩ ⟨⟨hp0,F0,F1,F2⟩,hB1⟩ ⟨Bx,hBx,bX,rfl⟩ hlt
  have hld:=zak bX
  have nd:(Fence.wide.inRound l).depth.isSome=true→1≤4:=fun h=>by cases h
  gi_wp2_with (refine z0h rfl rfl rfl hld ?_)
  refine⟨trivial,?_⟩
  refine(CallsIn.inRound l (hS x _ _)).mono ?_
  rintro e W2 ⟨rfl,hB2⟩
  dsimp only
  gi_step
  gi_step
  gi_step
  have k0:=(hB2.block _ (Array.getElem?_eq_some_iff.1 F0).1).trans F0
  have k1:=(hB2.block _ (Array.getElem?_eq_some_iff.1 F1).1).trans F1
  have k2:=(hB2.block _ (Array.getElem?_eq_some_iff.1 F2).1).trans F2
  have kx:=(hB2.block _ (Array.getElem?_eq_some_iff.1 bX).1).trans bX
  have hB3:=hB1.trans (hB2.mono hB1.size)
  have hB5:=hB0.trans (hB3.mono hB0.size)
  by_cases hk:z0a x.1=0
  · rw[show(z0a x.1 != 0)=false by rw[hk];rfl]
    gi_wp2
    exact⟨z2q hB2 _,hB2.mono hB1.size,⟨fun u hu=>(List.mem_append.1 hu).elim (hp0 u) (fun e=>by simp at e;subst e;exact hk),k0,k1,k2⟩,hB3⟩
  · rw[show(z0a x.1 != 0)=true by simp[hk]]
    rw[←hA]at k0
    gi_step
    gi_step
    gi_step
    gi_step
    gi_step
    gi_step
    refine zaw (ra:=zi1 P 91 6) (by kernel_rfl) (wpIn_mono (zcx p x.1 hp x.2 W2 _ _ _ Bx (by omega) (by omega) hBx k0 k1 k2 kx _ _ _ rfl rfl rfl) ?_)
    rintro e a1 W3 ⟨rfl,h7⟩
    gi_step
    gi_step
    gi_step
    refine zaw (ra:=zi1 P 91 7) (by kernel_rfl) (wpIn_mono h7 ?_)
    rintro e a2 W4 ⟨rfl,hd2,hB4,hK4,⟨T,hP⟩,⟨T',hE⟩⟩
    gi_step
    gi_step
    gi_step
    gi_step
    exact⟨(z2q hB2 _).trans (hK4 _),⟨rfl,pre,x,T,T',rfl,hp0,hk,hP,hE⟩,hB5.trans hB4⟩
 case done=>
  rintro D zs W hD rfl ⟨⟨hp0,_⟩,_⟩ hK
  have q0:=hp0 ⟨_,hx⟩ (List.mem_cons_self ..)
  have q1:=hp0 ⟨_,hy⟩ (List.mem_cons_of_mem _ (List.mem_cons_self ..))
  have q2:=hp0 ⟨_,hz⟩ (List.mem_cons_of_mem _ (List.mem_cons_of_mem _ (List.mem_cons_self ..)))
  exact(hnz q0 q1 q2).elim
 case stop=>
  rintro D c pre W hD hpre ⟨⟨rfl,q,u,T,T',e1,e2,e3,e4,e5⟩,hB1⟩ hK
  have nD: ∀{k:Nat} {c:Array Value} {t:TypeId},W.heap[k]?=some (.cells c t (0,0))→(W.putObj D (.deferred none)).heap[k]?=some (.cells c t (0,0)):=fun {k c t} h=>
   ((grownBy_putObj' W D (.deferred none)).block k (Array.getElem?_eq_some_iff.1 h).1 (fun e=>by cases e;rw[hK]at h;cases h)).trans h
  gi_wp2
  refine⟨by simp,.inl ⟨_,_,rfl,run_takeDeferred hK,?_⟩⟩
  have hcan:can p=(z4u p u.1,0):=by
   rw[e1]at hpre
   unfold can
   match q,hpre,e2 with
   | [],hp,_=>
    have e:u=⟨p.n.x,hx⟩:=(List.cons_prefix_cons.1 hp).1
    subst e
    rw[if_pos e3]
   | [a],hp,h2=>
    obtain⟨ea,hp⟩:=List.cons_prefix_cons.1 hp
    have e:u=⟨p.n.y,hy⟩:=(List.cons_prefix_cons.1 hp).1
    have ha:=h2 a (List.mem_cons_self ..)
    subst e ea
    rw[if_neg (fun h=>h ha),if_pos e3]
   | [a,b],hp,h2=>
    obtain⟨ea,hp⟩:=List.cons_prefix_cons.1 hp
    obtain⟨eb,hp⟩:=List.cons_prefix_cons.1 hp
    have e:u=⟨p.n.z,hz⟩:=(List.cons_prefix_cons.1 hp).1
    have ha:=h2 a (List.mem_cons_self ..)
    have hb:=h2 b (List.mem_cons_of_mem _ (List.mem_cons_self ..))
    subst e ea eb
    rw[if_neg (fun h=>h ha),if_neg (fun h=>h hb),if_pos e3]
   |a::b::c::r,hp,_=>
    have:=hp.length_le
    simp at this
  rw[hcan]
  exact⟨_,ztv rfl rfl rfl (zeS (nD e4)) (zgZ (nD e5)),rfl,hB1.trans (belowK_b (w:=w) (Nat.le_refl _) W D _ _ (by have:=hB0.size;omega) hK rfl rfl)⟩
theorem PCall.of_calls{P:Program}{f:FuncId}{c v:CV}{x y:Value}(hc: ∀Im z,c.rep Im z→z=x)(hv: ∀Im,v.rep Im y)(h: ∀w,Calls P f #[x] w fun e w'=>e= .returned y∧Below w.heap.size w w'):PCall P f [c] v:=by
 intro Im w vs hIm hvs
 obtain⟨y0,ys,e1,hr,e2⟩:=hvs
 have e3:vs= #[x]:=by
  apply Array.ext'
  rw[e1,e2,hc _ _ hr]
 subst e3
 refine(h w).mono ?_
 rintro e w' ⟨rfl,hB⟩
 exact⟨y,v,Im,rfl,rfl,hv Im,Im.le_refl,(fun b cs hb=>by obtain⟨c,T,fz,k1,k2⟩:=hIm b cs hb;exact⟨c,T,fz,(hB.block b (Array.getElem?_eq_some_iff.1 k1).1).trans k1,k2⟩),hB,fun b hb=> .inl hb⟩
theorem zha{Im:Imm}(a:Array Value):(CV.agg (a.toList.map .lit)).rep Im (.agg a):=⟨_,rfl,z36 _ _⟩
theorem zcK{Im:Imm}(a:Array Value)(z:Value)(h:(CV.agg (a.toList.map .lit)).rep Im z):z= .agg a:=by
 obtain⟨arr,rfl,hr⟩:=h
 rw[Array.ext' (z1J hr)]
theorem zoI{Im:Imm}(q:PN):q.c.rep Im (.agg q.a):=by
 rw[zdW]
 generalize q.a=a
 exact zha a
theorem zjZ{Im:Imm}(q:PN)(z:Value)(h:q.c.rep Im z):z= .agg q.a:=by
 rw[zdW]at h
 generalize q.a=a at*
 exact zcK a z h
theorem zm8{Im:Imm}(q:PN)(n:Int):(CV.tup [q.c,j4 n]).rep Im (.tuple #[.agg q.a,.int .i64 n]):=by
 have:=zoI (Im:=Im) q
 generalize q.c=c at*
 generalize q.a=a at*
 exact⟨_,rfl,_,_,rfl,this,_,_,rfl,rfl,rfl⟩
theorem zsr(p:PN)(hp:p.raw 1000=true)(hok:p.ok=true)(hnz:z0a p.n.x=0→z0a p.n.y=0→z0a p.n.z=0→False):PCall P 91 [p.c] (.tup [(can p).1.c,j4 (can p).2]):=
 PCall.of_calls (fun _ z h=>zjZ p z h) (fun _=>zm8 _ _) (fun w=>callsIn_wide.1 (zox p hp hok hnz w))
end Go.Fw
open Go IntKind
namespace Go.Fw
set_option maxRecDepth 100000
theorem p34_p1:PCall P 120 [n5C (3:Int) (0:Int) (0:Int) (0:Int) (4:Int)] (.lit (.string ({data:= #[]}++{data:= #[(51:UInt8)]}++({data:= #[(47:UInt8)]}++{data:= #[(52:UInt8)]})++{data:= #[]}))):=
 j3 (.r 3 (zt0) (.c (bq 0 4) (.c (lq 2 2) (.r 19 (p3S) (.r 25 (p3G) (.c (lq 2 2) (.r 29 (p3A) (.r 31 (p3O) (.r 35 (pO4) (.c (lq 2 2) (.c (lq 2 2) (.r 41 (p3S) (.r 49 (zsQ) (.c (lq 2 2) (.r 67 (p3P) (.c (show(1:Int)≤9223372036854775807 from by decide) (.r 76 (pP4) (.c (show(2:Int)≤9223372036854775807 from by decide) (.c (show(3:Int)≤9223372036854775807 from by decide) (.r 82 (zi2) (.c (show(3:Int)≤9223372036854775807 from by decide) (.c (bq 1 4) (.c (lq 2 2) (.r 99 (pS0) (.c (bq 2 4) (.c (lq 2 2) (.r 116 (pS0) (.c (bq 3 4) (.c (lq 2 2) (.r 133 (pS0) .nil)))))))))))))))))))))))))))))) (by kernel_rfl)
theorem p54_p1:PCall P 120 [n5C (5:Int) (0:Int) (0:Int) (0:Int) (4:Int)] (.lit (.string ({data:= #[]}++{data:= #[(53:UInt8)]}++({data:= #[(47:UInt8)]}++{data:= #[(52:UInt8)]})++{data:= #[]}))):=
 j3 (.r 3 (zsZ) (.c (bq 0 4) (.c (lq 2 2) (.r 19 (p5S) (.r 25 (p5G) (.c (lq 2 2) (.r 29 (p5A) (.r 31 (p5O) (.r 35 (pO4) (.c (lq 2 2) (.c (lq 2 2) (.r 41 (p5S) (.r 49 (zsQ) (.c (lq 2 2) (.r 67 (p5P) (.c (show(1:Int)≤9223372036854775807 from by decide) (.r 76 (pP4) (.c (show(2:Int)≤9223372036854775807 from by decide) (.c (show(3:Int)≤9223372036854775807 from by decide) (.r 82 (zi2) (.c (show(3:Int)≤9223372036854775807 from by decide) (.c (bq 1 4) (.c (lq 2 2) (.r 99 (pS0) (.c (bq 2 4) (.c (lq 2 2) (.r 116 (pS0) (.c (bq 3 4) (.c (lq 2 2) (.r 133 (pS0) .nil)))))))))))))))))))))))))))))) (by kernel_rfl)
end Go.Fw
open Go
namespace Go.Fw
set_option maxRecDepth 100000
theorem zna(z:Int)(h: ¬K.sgn (K.ofInt z)<0)(h2: - -(K.ofInt z)=K.ofInt z):z70 (oN z)=oN z:=by
 unfold z70
 rw[zpe,if_neg h,z2M,zhh,zhh,h2]
def k14:K:=⟨1,0,0,0,4,by decide,by decide⟩
theorem zs8:z92 (oN 4)=kN k14:=by
 unfold z92
 rw[zna 4 (by rw[show K.sgn (K.ofInt 4)=1 by kernel_rfl];decide) (by kernel_rfl),z2M,z2M,zaQ _ _ (by rw[show K.sgn (K.ofInt 4)=1 by kernel_rfl];decide),show K.div (K.ofInt 1) (K.ofInt 4)=k14 by kernel_rfl]
theorem zsi(x y z:K):toV ⟨kN x,kN y,kN z⟩=some ⟨x,y,z⟩:=by
 unfold toV
 rw[z0o,z0o,z0o]
theorem zgV(x y z k:K):z3W ⟨kN x,kN y,kN z⟩ (kN k)=⟨kN (x*k),kN (y*k),kN (z*k)⟩:=by
 unfold z3W
 rw[zsi,z0o,z1b,z1b,z1b]
 rfl
theorem zsC:can aP=(cP,0):=by
 unfold can
 rw[if_pos (by show z0a (oN 4)≠0;rw[zpe,show K.sgn (K.ofInt 4)=1 by kernel_rfl];decide)]
 show(z4u aP (oN 4),(0:Int))=_
 unfold z4u
 rw[zs8]
 unfold aP cP
 dsimp only
 rw[z2M,z2M,z2M,z2M,zgV,z2w,show K.ofInt 4*k14=K.ofInt 1 by kernel_rfl,show K.ofInt 0*k14=K.ofInt 0 by kernel_rfl,show K.ofInt 3*k14=k34 by kernel_rfl,show K.ofInt 5*k14=k54 by kernel_rfl,←z2M,←z2M]
theorem zth:PCall P 91 [aP.c] (.tup [cP.c,j4 0]):=by
 have h:=zsr aP (PN.raw_mono zoK (by decide)) zsw (fun h _ _=>by
  have:z0a (oN 4)=0:=h
  rw[zpe,show K.sgn (K.ofInt 4)=1 by kernel_rfl]at this
  exact absurd this (by decide))
 rw[zsC]at h
 exact h
theorem ztw:PCall P 75 [.agg [j4 4,j4 3,j4 0],(oN 5).c] (.tup [aP.c,j4 0]):=zjz (z9l 5) (z0T (Nat.le_trans zs1 (by decide))) (by decide) (by decide)
theorem zt8:PCall P 77 [cP.c] (.tup [.agg [j4 4,j4 3,j4 0],(oN 5).c,j4 0]):=zkS z7k z7k (z2y (Nat.le_trans zqn (by decide))) (by decide) (by decide)
theorem zb4(n:Int)(h: -9223372036854775808≤n∧n≤9223372036854775807):PCall P 40 [j4 n] (oN n).c:=by rw[z9R];exact z3S n h
theorem ztu:PCall P 120 [(kN k34).c] (Y7 ⟨#[51,47,52]⟩):=by rw[z1b];exact p34_p1.eq (by kernel_rfl)
theorem zte:PCall P 120 [(kN k54).c] (Y7 ⟨#[53,47,52]⟩):=by rw[z1b];exact p54_p1.eq (by kernel_rfl)
end Go.Fw
