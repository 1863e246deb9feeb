/- A part of the proof that the law returns true for every input: an executor for the model's code, and what functions of the program compute. -/
import Derived.Test.YtcafjpldfnegiaaGreatDoorB11
import Derived.Test.YtcafjpldfnegiaaGreatDoorB15
import Derived.Test.YtcafjpldfnegiaaGreatDoorB35
import Derived.Test.YtcafjpldfnegiaaGreatDoorB40
import Derived.Test.YtcafjpldfnegiaaGreatDoorB41
import Derived.Test.YtcafjpldfnegiaaGreatDoorB42
import Derived.Test.YtcafjpldfnegiaaGreatDoorB43
import Derived.Test.YtcafjpldfnegiaaGreatDoorB44
import Derived.KernelRfl
open Go Go.RowKit Go.Shelf Go.Proofs
namespace Go.Fw
attribute [local go_sem] Oper.semAt_some
set_option maxRecDepth 100000
set_option maxHeartbeats 1000000
theorem zg6 (F : Fence) (n : Nat) (h : F.fn 168) (hro : F.round = none) (a : Array Value) (w : World) :
    CallsIn F n Tryz.prog 168 #[.agg a] w fun e w'=>e= .returned (.func (.func 221) #[] #[.pointer (some ⟨w.heap.size,0,none⟩)])∧w'=w.alloc (.cells a 51):=by
 refine callsIn_of_wp Tryz.func168 rfl h ?_ hro
 simp only[Tryz.ntmps168,List.size_toArray,List.length_cons,List.length_nil,Nat.reduceAdd,Nat.reduceSub,Array.replicate_succ,Array.replicate_zero,List.push_toArray,List.append_toArray,List.nil_append,List.cons_append]
 gi_wp2
 go_ret
 exact⟨rfl,rfl⟩
theorem z68{x:RN}{v:Array Value}{w:World}{b k:Nat}(h:w.heap[b]?=some (.cells v 51 (0,0)))(hv:(v.toList.drop k).take 10=x.a.toList):(Instr.loadAt 39 (.pointer (some ⟨b,k,none⟩))).run Tryz.prog w= .ok (.agg x.a) w:=
 z44 Tryz.underlying39 h (by rw[z6e,hv]) (by rw[z6e];rfl)
theorem z9e {α : Type} (enc : α → Array Value) (u0 u1 u2 : α) (F : Fence) (n : Nat) (h : F.fn 221) (hro : F.round = none) (hn : 1 ≤ n) (Bn n₀ : Nat) (x y z : RN) (w : World) (hBn : Bn < w.heap.size) (hn0 : Bn < n₀)
    (hc:w.heap[Bn]?=some (.cells (x.a++(y.a++z.a)) 51 (0,0)))
    (e0:enc u0= #[.agg x.a]) (e1:enc u1= #[.agg y.a]) (e2:enc u2= #[.agg z.a]):
    SeqStopsK F n Tryz.prog 221 #[.pointer (some ⟨Bn,0,none⟩)] enc (Below n₀) (fun ys=>ys=[u0,u1,u2]) (fun pre=>pre<+:[u0,u1,u2]) 3 w:=fun l J Jx W hW hJ hJx hY h0=>by
 refine callsIn_of_wp Tryz.func221 rfl h ?_ hro
 simp only[Tryz.ntmps221,List.size_toArray,List.length_cons,List.length_nil,Nat.reduceAdd,Nat.reduceSub,Array.replicate_succ,Array.replicate_zero,List.push_toArray,List.append_toArray,List.nil_append,List.cons_append]
 have hb:=(hW.block Bn hBn).trans hc
 have l0:(Instr.loadAt 39 (.pointer (some ⟨Bn,0,none⟩))).run Tryz.prog W= .ok (.agg x.a) W:=z68 (x:=x) hb (by simp[RN.a])
 obtain⟨fn,tmps,assign,body,hy,hR⟩:=hY [] u0 W h0 (by simp)
 rw[e0]at hy
 gi_wp2_with (refine z0h rfl rfl rfl l0 ?_)
 refine hR.mono ?_
 rintro e W3 (⟨rfl,hJ3,hk3⟩|⟨rfl,hJx3⟩)
 · have hb3:=(hk3.block Bn hn0).trans hb
   have l1:(Instr.loadAt 39 (.pointer (some ⟨Bn,10,none⟩))).run Tryz.prog W3= .ok (.agg y.a) W3:=z68 (x:=y) hb3 (by simp[RN.a])
   obtain⟨fn,tmps,assign,body,hy,hR⟩:=hY _ u1 W3 hJ3 (by simp)
   rw[e1]at hy
   gi_wp2_with (refine z3s rfl rfl rfl l1 ?_)
   refine hR.mono ?_
   rintro e W4 (⟨rfl,hJ4,hk4⟩|⟨rfl,hJx4⟩)
   · have hb4:=(hk4.block Bn hn0).trans hb3
     have l2:(Instr.loadAt 39 (.pointer (some ⟨Bn,20,none⟩))).run Tryz.prog W4= .ok (.agg z.a) W4:=z68 (x:=z) hb4 (by simp[RN.a])
     obtain⟨fn,tmps,assign,body,hy,hR⟩:=hY _ u2 W4 hJ4 (by simp)
     rw[e2]at hy
     gi_wp2_with (refine z3s rfl rfl rfl l2 ?_)
     refine hR.mono ?_
     rintro e W5 (⟨rfl,hJ5,hk5⟩|⟨rfl,hJx5⟩)
     · gi_wp2
       go_end0
       exact⟨⟨_,rfl⟩,.inl ⟨_,rfl,hJ5⟩⟩
     · gi_wp2
       go_end0
       exact⟨⟨_,rfl⟩,.inr ⟨_,by simp,hJx5⟩⟩
   · gi_wp2
     refine⟨fun _ h=>(by cases h),?_⟩
     gi_wp2
     go_end0
     exact⟨⟨_,rfl⟩,.inr ⟨_,by simp,hJx4⟩⟩
 · gi_wp2
   refine⟨fun _ h=>(by cases h),?_⟩
   gi_wp2
   go_end0
   exact⟨⟨_,rfl⟩,.inr ⟨_,by simp,hJx3⟩⟩
end Go.Fw
open Go Go.RowKit Go.Shelf Go.Proofs
namespace Go.Fw
attribute [local go_sem] Oper.semAt_some
set_option maxRecDepth 100000
set_option maxHeartbeats 1000000
theorem zcj:Tryz.prog.cellsOf 99=40:=by kernel_rfl
theorem zex{p:PN}{w:World}{b:Nat}{T:TypeId}(h:w.heap[b]?=some (.cells p.a T (0,0))):(Instr.loadAt 99 (.pointer (some ⟨b,0,none⟩))).run Tryz.prog w= .ok (.agg p.a) w:=
 z44 Tryz.underlying99 h (by rw[zcj,List.drop_zero,List.take_of_length_le (by rw[Array.length_toList,p.a_size];exact Nat.le_refl _)]) (by rw[zcj,p.a_size])
theorem zkF{p:PN}{w:World}{b:Nat}{T:TypeId}(h:w.heap[b]?=some (.cells p.a T (0,0))):(Instr.loadAt 51 (.pointer (some ⟨b,0,none⟩))).run Tryz.prog w= .ok (.agg (p.n.x.a++(p.n.y.a++p.n.z.a))) w:=
 z44 Tryz.underlying51 h (by rw[z7F];simp[PN.a,RN.a]) (by rw[z7F];simp[RN.a_size])
theorem PCall.flat1{f:FuncId}{c:CV}{a:Array Value}{v:Value}(h:PCall P f [c] (.lit v))(hc:c= .agg (a.toList.map .lit))(w:World):Calls P f #[.agg a] w fun e w'=>e= .returned v∧Below w.heap.size w w':=by
 refine(h (fun _=>none) w #[.agg a] (fun b cs hb=>by cases hb) ⟨_,_,rfl,by rw[hc];exact⟨_,rfl,z3k _ _⟩,rfl⟩).mono ?_
 rintro e w' ⟨y,v',I,rfl,rfl,hr,_,_,hb,_⟩
 exact⟨by rw[show y=v from hr],hb⟩
theorem zcY(p:PN):p.c= .agg (p.a.toList.map .lit):=by rw[←zaU];rfl
noncomputable def can(p:PN):PN×Int:=
 if z15 p.n.x≠0 then(z3J p p.n.x,0)else if z15 p.n.y≠0 then(z3J p p.n.y,0)else if z15 p.n.z≠0 then(z3J p p.n.z,0)else(.zero,1)
abbrev RNk:={x:RN//x.raw 1000=true}
abbrev enS(x:RNk):Array Value:= #[.agg x.1.a]
theorem zae{F:Fence}{n id:Nat}{P:Program}{ops ra:Array Oper}{Q:Exit→Act→World→Prop}{a:Act}{w:World}(h:ra=ops)(hw:(Code.region id ra true).wpIn F n P Q a w):(Code.region id ops true).wpIn F n P Q a w:=h ▸ hw
theorem ztd {P : Program} {fn : Func} {i j : Nat} {t1 t2 : TypeId} (hf : fn.results.toList = [.cell i t1, .cell j t2]) {a : Array Value} {w : World} {p1 p2 : Addr} {v1 v2 : Value} (ha : a.getD i undef = .pointer (some p1)) (hb : a.getD j undef = .pointer (some p2))
    (h1:(loadVar t1 p1).run P w= .ok v1 w) (h2:(loadVar t2 p2).run P w= .ok v2 w):(results fn a).run P w= .ok (.tuple #[v1,v2]) w:=by
 refine z3G (P:=P) (fn:=fn) (a:=⟨a,[]⟩) (ys:=[v1,v2]) ?_
 rw[hf,List.mapM_cons,Sem.run_bind]
 simp only[ha,hb,List.mapM_cons,List.mapM_nil,Sem.run_bind,asAddr,Sem.run_pure,Result.andThen_ok,h1,h2]
theorem zfB{w:World}{b:Nat}{T:TypeId}{n:Int}(h:w.heap[b]?=some (.cells #[.int .i64 n] T (0,0))):(loadVar 24 ⟨b,0,none⟩).run Tryz.prog w= .ok (.int .i64 n) w:=by
 obtain⟨y,h1,_,h3⟩:=z3B (P:=Tryz.prog) (w:=w) (off:=0) (U:=24) h Tryz.underlying24 (by kernel_rfl:Tryz.prog.cellsOf 24=1) (l:=[.int .i64 n]) rfl rfl (fun _=>rfl)
 rw[h1,←(List.cons.inj (h3 rfl)).1]
theorem zg0{p:PN}{w:World}{b:Nat}{T:TypeId}(h:w.heap[b]?=some (.cells p.a T (0,0))):(loadVar 99 ⟨b,0,none⟩).run Tryz.prog w= .ok (.agg p.a) w:=by
 have:=zex h
 simpa[Instr.loadAt,Instr.sureAddr]using this
theorem zme (p : PN) (hp : p.raw 1000 = true) (hok : p.ok = true) (hnz : z15 p.n.x = 0 → z15 p.n.y = 0 → z15 p.n.z = 0 → False) (w : World) :
    CallsIn Fence.wide 6 Tryz.prog 91 #[.agg p.a] w fun e W'=>e= .returned (.tuple #[.agg (can p).1.a,.int .i64 (can p).2])∧Below w.heap.size w W':=by
 obtain⟨hpn,hpd⟩:=PN.raw_iff.1 hp
 obtain⟨hx,hy,hz⟩:=Y6.1 hpn
 have hV:=fun W=>callsIn_wide (n:=5).2 ((z1s p (PN.raw_iff.2 ⟨VN.raw_mono hpn (by decide),RN.raw_mono hpd (by decide)⟩)).flat1 (zcY p) W)
 rw[hok]at hV
 have hS:=fun(u:RNk) (m:Nat) W=>callsIn_wide (n:=m).2 ((z2Q u.1 (RN.raw_mono u.2 (by decide))).num W)
 obtain⟨A,hA⟩: ∃A,p.a=A:=⟨_,rfl⟩
 rw[hA]at hV ⊢
 obtain⟨Y,hY⟩: ∃Y,p.n.x.a++(p.n.y.a++p.n.z.a)=Y:=⟨_,rfl⟩
 refine callsIn_of_wp_marks Tryz.func91 rfl trivial ?_ rfl
 simp only[Tryz.ntmps91,List.size_toArray,List.length_cons,List.length_nil,Nat.reduceAdd,Nat.reduceSub,Array.replicate_succ,Array.replicate_zero,List.push_toArray,List.append_toArray,List.nil_append,List.cons_append]
 have hb: ∀Z:Array Value,(((w.alloc (.cells A 99)).alloc (.cells Z 99)).alloc (.cells #[.int .i64 0] 24)).heap[w.heap.size]?=some (.cells A 99 (0,0)):=fun Z=>
  (Below.heap_alloc _ _ _ (by simp;omega)).trans ((Below.heap_alloc _ _ _ (by simp)).trans (World.alloc_heap_new w _))
 have hb1: ∀Z:Array Value,(((w.alloc (.cells A 99)).alloc (.cells Z 99)).alloc (.cells #[.int .i64 0] 24)).heap[w.heap.size+1]?=some (.cells Z 99 (0,0)):=fun Z=>
  (Below.heap_alloc _ _ _ (by simp)).trans (by have:=World.alloc_heap_new (w.alloc (.cells A 99)) (.cells Z 99);rwa[World.size_alloc]at this)
 have hb2: ∀Z:Array Value,(((w.alloc (.cells A 99)).alloc (.cells Z 99)).alloc (.cells #[.int .i64 0] 24)).heap[w.heap.size+1+1]?=some (.cells #[.int .i64 0] 24 (0,0)):=fun Z=>by
  have:=World.alloc_heap_new ((w.alloc (.cells A 99)).alloc (.cells Z 99)) (.cells #[.int .i64 0] 24);rwa[World.size_alloc,World.size_alloc]at this
 have hB0: ∀Z:Array Value,Below w.heap.size w (((w.alloc (.cells A 99)).alloc (.cells Z 99)).alloc (.cells #[.int .i64 0] 24)):=fun Z=>(((Below.refl _ w).alloc (Nat.le_refl _) _).alloc (by simp) _).alloc (by simp;omega) _
 have hs0: ∀Z:Array Value,(((w.alloc (.cells A 99)).alloc (.cells Z 99)).alloc (.cells #[.int .i64 0] 24)).heap.size=w.heap.size+3:=fun Z=>by simp
 have hl:=fun Z=>zex (p:=p) (by rw[hA];exact hb Z)
 rw[hA]at hl
 have hl51: ∀W:World,W.heap[w.heap.size]?=some (.cells A 99 (0,0))→(Instr.loadAt 51 (.pointer (some ⟨w.heap.size,0,none⟩))).run Tryz.prog W= .ok (.agg Y) W:=fun W h=>by rw[←hY];exact zkF (by rw[hA];exact h)
 gi_wp2_with (first|(refine⟨trivial,?_⟩;gi_at_call 79;refine(hV _).mono ?_;rintro e W1 ⟨rfl,hB1⟩;have q0:=(hB1.block w.heap.size (by rw[hs0];omega)).trans (hb _);have q1:=(hB1.block (w.heap.size+1) (by rw[hs0];omega)).trans (hb1 _);have q2:=(hB1.block (w.heap.size+1+1) (by rw[hs0];omega)).trans (hb2 _);have hBW:=(hB0 _).trans (hB1.mono (by rw[hs0];omega));have hsz:=hB1.size;rw[hs0]at hsz;have hl2:=hl51 _ q0;clear hB1 hl)|(refine⟨trivial,?_⟩;gi_at_call 168;refine(zg6 Fence.wide 5 trivial rfl _ _).mono ?_;rintro e w' ⟨rfl,rfl⟩)|refine z0h rfl rfl rfl hl2 ?_|refine z0h rfl rfl rfl (hl _) ?_)
 clear hb hb1 hb2 hB0 hs0 hl51 hl2
 have Z1:W1.heap[w.heap.size+1]?=some (.cells PN.zero.a 99 (0,0)):=q1
 clear q1
 obtain⟨W0,hW0⟩: ∃W0,W1.alloc (.cells Y 51)=W0:=⟨_,rfl⟩
 have f0:W0.heap[w.heap.size]?=some (.cells A 99 (0,0)):=by rw[←hW0];exact(Below.heap_alloc _ _ _ (by omega)).trans q0
 have f1:W0.heap[w.heap.size+1]?=some (.cells PN.zero.a 99 (0,0)):=by rw[←hW0];exact(Below.heap_alloc _ _ _ (by omega)).trans Z1
 have f2:W0.heap[w.heap.size+1+1]?=some (.cells #[.int .i64 0] 24 (0,0)):=by rw[←hW0];exact(Below.heap_alloc _ _ _ (by omega)).trans q2
 have fY:W0.heap[W1.heap.size]?=some (.cells Y 51 (0,0)):=by rw[←hW0];exact World.alloc_heap_new W1 _
 have hB0:Below w.heap.size w W0:=by rw[←hW0];exact hBW.alloc (by omega) _
 have hs:W0.heap.size=W1.heap.size+1:=by rw[←hW0];simp
 rw[hW0]
 rw[←hY]at fY
 clear hW0
 refine wpIn_rangeFunc_ownH rfl (by decide) (gf:=221) (lb:= #[.pointer (some ⟨W1.heap.size,0,none⟩)]) rfl trivial (enters_of Tryz.func221 (by kernel_rfl) rfl)
  (z9e enS ⟨_,hx⟩ ⟨_,hy⟩ ⟨_,hz⟩ Fence.wide 5 trivial rfl (by decide) W1.heap.size W0.heap.size p.n.x p.n.y p.n.z W0 (by omega) (by omega) fY rfl rfl rfl) belowK_t (belowK_b (Nat.le_refl _)) (Below.refl _ _) (fun _=>rfl)
  (fun pre W=>((∀u∈pre,z15 u.1=0)∧W.heap[w.heap.size]?=some (.cells A 99 (0,0))∧W.heap[w.heap.size+1]?=some (.cells PN.zero.a 99 (0,0))∧W.heap[w.heap.size+1+1]?=some (.cells #[.int .i64 0] 24 (0,0)))∧Below W0.heap.size W0 W)
  (fun c pre W=>(c= .ret∧ ∃(q:List RNk) (u:RNk) (T T':TypeId),pre=q++[u]∧(∀u∈q,z15 u.1=0)∧z15 u.1≠0∧W.heap[w.heap.size+1]?=some (.cells (z3J p u.1).a T (0,0))∧W.heap[w.heap.size+1+1]?=some (.cells #[.int .i64 0] T' (0,0)))∧Below w.heap.size w W)
  (OwnFrom.and (OwnFrom.and (ownFrom_pure _ _) (OwnFrom.and (z1q _ _ (fun _=>A) 99) (OwnFrom.and (z1q _ _ (fun _=>PN.zero.a) 99) (z1q _ _ (fun _=> #[.int .i64 0]) 24)))) (ownFrom_below (Nat.le_refl _) (Nat.le_refl _)))
  (fun c=>OwnFrom.and (fun s X X' row h hg hr=>by
   obtain⟨hc,q,u,T,T',e1,e2,e3,e4,e5⟩:=h
   exact⟨hc,q,u,T,T',e1,e2,e3,z1q _ _ (fun(_:Unit)=>(z3J p u.1).a) T () X X' row e4 hg hr,z1q _ _ (fun(_:Unit)=> #[.int .i64 0]) T' () X X' row e5 hg hr⟩) (ownFrom_below (by omega) (by omega)))
  ⟨⟨by simp,f0,f1,f2⟩,Below.refl _ _⟩
  (fun x a' W=> ∃Bx,w.heap.size+1+1<Bx∧W.heap[Bx]?=some (.cells x.1.a 39 (0,0))∧a'={tmps:= #[.agg A,.pointer (some ⟨w.heap.size,0,none⟩),.pointer (some ⟨w.heap.size+1,0,none⟩),.pointer (some ⟨w.heap.size+1+1,0,none⟩),.pointer (some ⟨Bx,0,none⟩),undef,.agg A,.bool true,.bool false,undef,.pointer (some ⟨w.heap.size,0,none⟩),.agg Y,.func (.func 221) #[] #[.pointer (some ⟨W1.heap.size,0,none⟩)],.agg x.1.a,undef,undef,undef,undef,undef,undef,undef,undef,undef,undef,undef,undef,undef,undef,undef,undef,undef],defers:=[]})
  (fun x a' _ X X' row hs hg hr=>by obtain⟨Bx,e1,e2,e3⟩:=hs;exact⟨Bx,e1,z1q _ Bx (fun(_:Unit)=>x.1.a) 39 () X X' row e2 hg hr,e3⟩)
  ?assign ?body ?done ?stop
 case assign=>
  rintro l pre x W K ⟨⟨hp0,F0,F1,F2⟩,hB1⟩ hK
  dsimp only[enS]
  have hst:=z8v x.1 W #[.bool false,.string ⟨#[]⟩,.bool false,.string ⟨#[]⟩,.bool false,.string ⟨#[]⟩,.bool false,.string ⟨#[]⟩,.bool false,.string ⟨#[]⟩] rfl
  gi_wp2_with (refine z2Y rfl rfl rfl rfl hst ?_)
  have al: ∀{k:Nat} {o:Obj},W.heap[k]?=some o→(W.alloc (.cells x.1.a 39)).heap[k]?=some o:=fun h=>(Below.heap_alloc W _ _ (Array.getElem?_eq_some_iff.1 h).1).trans h
  exact hK _ _ ((KeepsOthers.alloc _ _).from _) ((Below.refl _ W).alloc hB1.size _) ⟨⟨hp0,al F0,al F1,al F2⟩,hB1.alloc hB1.size _⟩ ⟨W.heap.size,(Array.getElem?_eq_some_iff.1 F2).1,World.alloc_heap_new W _,rfl⟩
 case body=>
  rintro l pre x a' W hl ⟨r,hr⟩ ⟨⟨hp0,F0,F1,F2⟩,hB1⟩ ⟨Bx,hBx,bX,rfl⟩ hlt
  have hld:=zaS bX
  have nd:(Fence.wide.inRound l).depth.isSome=true→1≤4:=fun h=>by cases h
  gi_wp2_with (refine z0h rfl rfl rfl hld ?_)
  refine⟨trivial,?_⟩
  refine(CallsIn.inRound l (hS x _ _)).mono ?_
  rintro e W2 ⟨rfl,hB2⟩
  dsimp only
  gi_step
  gi_step
  gi_step
  have k0:=(hB2.block _ (Array.getElem?_eq_some_iff.1 F0).1).trans F0
  have k1:=(hB2.block _ (Array.getElem?_eq_some_iff.1 F1).1).trans F1
  have k2:=(hB2.block _ (Array.getElem?_eq_some_iff.1 F2).1).trans F2
  have kx:=(hB2.block _ (Array.getElem?_eq_some_iff.1 bX).1).trans bX
  have hB3:=hB1.trans (hB2.mono hB1.size)
  have hB5:=hB0.trans (hB3.mono hB0.size)
  by_cases hk:z15 x.1=0
  · rw[show(z15 x.1 != 0)=false by rw[hk];rfl]
    gi_wp2
    exact⟨z2x hB2 _,hB2.mono hB1.size,⟨fun u hu=>(List.mem_append.1 hu).elim (hp0 u) (fun e=>by simp at e;subst e;exact hk),k0,k1,k2⟩,hB3⟩
  · rw[show(z15 x.1 != 0)=true by simp[hk]]
    rw[←hA]at k0
    gi_step
    gi_step
    gi_step
    gi_step
    gi_step
    gi_step
    refine zae (ra:=zhu P 91 6) (by kernel_rfl) (wpIn_mono (zc3 p x.1 hp x.2 W2 _ _ _ Bx (by omega) (by omega) hBx k0 k1 k2 kx _ _ _ rfl rfl rfl) ?_)
    rintro e a1 W3 ⟨rfl,h7⟩
    gi_step
    gi_step
    gi_step
    refine zae (ra:=zhu P 91 7) (by kernel_rfl) (wpIn_mono h7 ?_)
    rintro e a2 W4 ⟨rfl,hd2,hB4,hK4,⟨T,hP⟩,⟨T',hE⟩⟩
    gi_step
    gi_step
    gi_step
    gi_step
    exact⟨(z2x hB2 _).trans (hK4 _),⟨rfl,pre,x,T,T',rfl,hp0,hk,hP,hE⟩,hB5.trans hB4⟩
 case done=>
  rintro D zs W hD rfl ⟨⟨hp0,_⟩,_⟩ hK
  have q0:=hp0 ⟨_,hx⟩ (List.mem_cons_self ..)
  have q1:=hp0 ⟨_,hy⟩ (List.mem_cons_of_mem _ (List.mem_cons_self ..))
  have q2:=hp0 ⟨_,hz⟩ (List.mem_cons_of_mem _ (List.mem_cons_of_mem _ (List.mem_cons_self ..)))
  exact(hnz q0 q1 q2).elim
 case stop=>
  rintro D c pre W hD hpre ⟨⟨rfl,q,u,T,T',e1,e2,e3,e4,e5⟩,hB1⟩ hK
  have nD: ∀{k:Nat} {c:Array Value} {t:TypeId},W.heap[k]?=some (.cells c t (0,0))→(W.putObj D (.deferred none)).heap[k]?=some (.cells c t (0,0)):=fun {k c t} h=>
   ((grownBy_putObj' W D (.deferred none)).block k (Array.getElem?_eq_some_iff.1 h).1 (fun e=>by cases e;rw[hK]at h;cases h)).trans h
  gi_wp2
  refine⟨by simp,.inl ⟨_,_,rfl,run_takeDeferred hK,?_⟩⟩
  have hcan:can p=(z3J p u.1,0):=by
   rw[e1]at hpre
   unfold can
   match q,hpre,e2 with
   | [],hp,_=>
    have e:u=⟨p.n.x,hx⟩:=(List.cons_prefix_cons.1 hp).1
    subst e
    rw[if_pos e3]
   | [a],hp,h2=>
    obtain⟨ea,hp⟩:=List.cons_prefix_cons.1 hp
    have e:u=⟨p.n.y,hy⟩:=(List.cons_prefix_cons.1 hp).1
    have ha:=h2 a (List.mem_cons_self ..)
    subst e ea
    rw[if_neg (fun h=>h ha),if_pos e3]
   | [a,b],hp,h2=>
    obtain⟨ea,hp⟩:=List.cons_prefix_cons.1 hp
    obtain⟨eb,hp⟩:=List.cons_prefix_cons.1 hp
    have e:u=⟨p.n.z,hz⟩:=(List.cons_prefix_cons.1 hp).1
    have ha:=h2 a (List.mem_cons_self ..)
    have hb:=h2 b (List.mem_cons_of_mem _ (List.mem_cons_self ..))
    subst e ea eb
    rw[if_neg (fun h=>h ha),if_neg (fun h=>h hb),if_pos e3]
   |a::b::c::r,hp,_=>
    have:=hp.length_le
    simp at this
  rw[hcan]
  exact⟨_,ztd rfl rfl rfl (zg0 (nD e4)) (zfB (nD e5)),rfl,hB1.trans (belowK_b (w:=w) (Nat.le_refl _) W D _ _ (by have:=hB0.size;omega) hK rfl rfl)⟩
theorem PCall.of_calls{P:Program}{f:FuncId}{c v:CV}{x y:Value}(hc: ∀Im z,c.rep Im z→z=x)(hv: ∀Im,v.rep Im y)(h: ∀w,Calls P f #[x] w fun e w'=>e= .returned y∧Below w.heap.size w w'):PCall P f [c] v:=by
 intro Im w vs hIm hvs
 obtain⟨y0,ys,e1,hr,e2⟩:=hvs
 have e3:vs= #[x]:=by
  apply Array.ext'
  rw[e1,e2,hc _ _ hr]
 subst e3
 refine(h w).mono ?_
 rintro e w' ⟨rfl,hB⟩
 exact⟨y,v,Im,rfl,rfl,hv Im,Im.le_refl,(fun b cs hb=>by obtain⟨c,T,fz,k1,k2⟩:=hIm b cs hb;exact⟨c,T,fz,(hB.block b (Array.getElem?_eq_some_iff.1 k1).1).trans k1,k2⟩),hB,fun b hb=> .inl hb⟩
theorem zfV{Im:Imm}(a:Array Value):(CV.agg (a.toList.map .lit)).rep Im (.agg a):=⟨_,rfl,z3k _ _⟩
theorem zes{Im:Imm}(a:Array Value)(z:Value)(h:(CV.agg (a.toList.map .lit)).rep Im z):z= .agg a:=by
 obtain⟨arr,rfl,hr⟩:=h
 rw[Array.ext' (z1Q hr)]
theorem zpw{Im:Imm}(q:PN):q.c.rep Im (.agg q.a):=by
 rw[zcY]
 generalize q.a=a
 exact zfV a
theorem zj8{Im:Imm}(q:PN)(z:Value)(h:q.c.rep Im z):z= .agg q.a:=by
 rw[zcY]at h
 generalize q.a=a at*
 exact zes a z h
theorem zhN{Im:Imm}(q:PN)(n:Int):(CV.tup [q.c,j6 n]).rep Im (.tuple #[.agg q.a,.int .i64 n]):=by
 have:=zpw (Im:=Im) q
 generalize q.c=c at*
 generalize q.a=a at*
 exact⟨_,rfl,_,_,rfl,this,_,_,rfl,rfl,rfl⟩
theorem zoP(p:PN)(hp:p.raw 1000=true)(hok:p.ok=true)(hnz:z15 p.n.x=0→z15 p.n.y=0→z15 p.n.z=0→False):PCall P 91 [p.c] (.tup [(can p).1.c,j6 (can p).2]):=
 PCall.of_calls (fun _ z h=>zj8 p z h) (fun _=>zhN _ _) (fun w=>callsIn_wide.1 (zme p hp hok hnz w))
end Go.Fw
open Go IntKind
namespace Go.Fw
set_option maxRecDepth 100000
theorem p34_p1:PCall P 120 [n5C (3:Int) (0:Int) (0:Int) (0:Int) (4:Int)] (.lit (.string ({data:= #[]}++{data:= #[(51:UInt8)]}++({data:= #[(47:UInt8)]}++{data:= #[(52:UInt8)]})++{data:= #[]}))):=
 j3 (.r 3 (zt3) (.c (bq 0 4) (.c (lq 2 2) (.r 19 (p3S) (.r 25 (p3G) (.c (lq 2 2) (.r 29 (p3A) (.r 31 (p3O) (.r 35 (pO4) (.c (lq 2 2) (.c (lq 2 2) (.r 41 (p3S) (.r 49 (zsA) (.c (lq 2 2) (.r 67 (p3P) (.c (show(1:Int)≤9223372036854775807 from by decide) (.r 76 (pP4) (.c (show(2:Int)≤9223372036854775807 from by decide) (.c (show(3:Int)≤9223372036854775807 from by decide) (.r 82 (zhx) (.c (show(3:Int)≤9223372036854775807 from by decide) (.c (bq 1 4) (.c (lq 2 2) (.r 99 (pS0) (.c (bq 2 4) (.c (lq 2 2) (.r 116 (pS0) (.c (bq 3 4) (.c (lq 2 2) (.r 133 (pS0) .nil)))))))))))))))))))))))))))))) (by kernel_rfl)
theorem p54_p1:PCall P 120 [n5C (5:Int) (0:Int) (0:Int) (0:Int) (4:Int)] (.lit (.string ({data:= #[]}++{data:= #[(53:UInt8)]}++({data:= #[(47:UInt8)]}++{data:= #[(52:UInt8)]})++{data:= #[]}))):=
 j3 (.r 3 (ztc) (.c (bq 0 4) (.c (lq 2 2) (.r 19 (p5S) (.r 25 (p5G) (.c (lq 2 2) (.r 29 (p5A) (.r 31 (p5O) (.r 35 (pO4) (.c (lq 2 2) (.c (lq 2 2) (.r 41 (p5S) (.r 49 (zsA) (.c (lq 2 2) (.r 67 (p5P) (.c (show(1:Int)≤9223372036854775807 from by decide) (.r 76 (pP4) (.c (show(2:Int)≤9223372036854775807 from by decide) (.c (show(3:Int)≤9223372036854775807 from by decide) (.r 82 (zhx) (.c (show(3:Int)≤9223372036854775807 from by decide) (.c (bq 1 4) (.c (lq 2 2) (.r 99 (pS0) (.c (bq 2 4) (.c (lq 2 2) (.r 116 (pS0) (.c (bq 3 4) (.c (lq 2 2) (.r 133 (pS0) .nil)))))))))))))))))))))))))))))) (by kernel_rfl)
end Go.Fw
open Go
namespace Go.Fw
set_option maxRecDepth 100000
theorem znR(z:Int)(h: ¬K.sgn (K.ofInt z)<0)(h2: - -(K.ofInt z)=K.ofInt z):z1H (oN z)=oN z:=by
 unfold z1H
 rw[zra,if_neg h,z2E,zhA,zhA,h2]
def k14:K:=⟨1,0,0,0,4,by decide,by decide⟩
theorem zrL:z8O (oN 4)=kN k14:=by
 unfold z8O
 rw[znR 4 (by rw[show K.sgn (K.ofInt 4)=1 by kernel_rfl];decide) (by kernel_rfl),z2E,z2E,zcX _ _ (by rw[show K.sgn (K.ofInt 4)=1 by kernel_rfl];decide),show K.div (K.ofInt 1) (K.ofInt 4)=k14 by kernel_rfl]
theorem zqM(x y z:K):toV ⟨kN x,kN y,kN z⟩=some ⟨x,y,z⟩:=by
 unfold toV
 rw[z1c,z1c,z1c]
theorem zeW(x y z k:K):z0A ⟨kN x,kN y,kN z⟩ (kN k)=⟨kN (x*k),kN (y*k),kN (z*k)⟩:=by
 unfold z0A
 rw[zqM,z1c,z2i,z2i,z2i]
 rfl
theorem zrV:can aP=(cP,0):=by
 unfold can
 rw[if_pos (by show z15 (oN 4)≠0;rw[zra,show K.sgn (K.ofInt 4)=1 by kernel_rfl];decide)]
 show(z3J aP (oN 4),(0:Int))=_
 unfold z3J
 rw[zrL]
 unfold aP cP
 dsimp only
 rw[z2E,z2E,z2E,z2E,zeW,z58,show K.ofInt 4*k14=K.ofInt 1 by kernel_rfl,show K.ofInt 0*k14=K.ofInt 0 by kernel_rfl,show K.ofInt 3*k14=k34 by kernel_rfl,show K.ofInt 5*k14=k54 by kernel_rfl,←z2E,←z2E]
theorem zt8:PCall P 91 [aP.c] (.tup [cP.c,j6 0]):=by
 have h:=zoP aP (PN.raw_mono zqr (by decide)) zrX (fun h _ _=>by
  have:z15 (oN 4)=0:=h
  rw[zra,show K.sgn (K.ofInt 4)=1 by kernel_rfl]at this
  exact absurd this (by decide))
 rw[zrV]at h
 exact h
theorem zsV:PCall P 75 [.agg [j6 4,j6 3,j6 0],(oN 5).c] (.tup [aP.c,j6 0]):=zhW (z9p 5) (z1y (Nat.le_trans zsf (by decide))) (by decide) (by decide)
theorem zsF:PCall P 77 [cP.c] (.tup [.agg [j6 4,j6 3,j6 0],(oN 5).c,j6 0]):=zjU z7c z7c (z1d (Nat.le_trans zmC (by decide))) (by decide) (by decide)
theorem zbx(n:Int)(h: -9223372036854775808≤n∧n≤9223372036854775807):PCall P 40 [j6 n] (oN n).c:=by rw[z9N];exact z4h n h
theorem zt5:PCall P 120 [(kN k34).c] (Y3 ⟨#[51,47,52]⟩):=by rw[z2i];exact p34_p1.eq (by kernel_rfl)
theorem zsP:PCall P 120 [(kN k54).c] (Y3 ⟨#[53,47,52]⟩):=by rw[z2i];exact p54_p1.eq (by kernel_rfl)
end Go.Fw
open Go IntKind
namespace Go.Fw
set_option maxRecDepth 100000
theorem zk4(h1:(rnB aP.n.x (oV (4:Int) (0:Int) (3:Int)).x&&(rnB aP.n.y (oV (4:Int) (0:Int) (3:Int)).y&&(rnB aP.n.z (oV (4:Int) (0:Int) (3:Int)).z&&true)))=true)(h2:(rnB cP.n.x (oN (1:Int)))=true)(s2_0:(-9223372036854775808:Int)≤5∧(5:Int)≤9223372036854775807)(s42_0:(-9223372036854775808:Int)≤4∧(4:Int)≤9223372036854775807)(s42_1:(-9223372036854775808:Int)≤0∧(0:Int)≤9223372036854775807)(s42_2:(-9223372036854775808:Int)≤3∧(3:Int)≤9223372036854775807)(s49_0:(-9223372036854775808:Int)≤1∧(1:Int)≤9223372036854775807)(s72_0:(-9223372036854775808:Int)≤5∧(5:Int)≤9223372036854775807):PCall P 72 [] (.lit (.bool (rnB (oN (5:Int)) (oN (5:Int))))):=
 j3 (.r 2 (zbx ((5:Int)) s2_0) (.r 3 (zsV) (.c (lq 40 40) (.r 11 (zt8) (.c (lq 40 40) (.r 19 (zsF) (.c (lq 3 3) (.c (lq 10 10) (.r 42 (zhi ((4:Int)) ((0:Int)) ((3:Int)) s42_0 s42_1 s42_2) (.b 45 h1 (.r 49 (zbx ((1:Int)) s49_0) (.b 52 h2 (.r 56 (zt5) (.r 62 (zsP) (.r 72 (zbx ((5:Int)) s72_0) .nil))))))))))))))) (by kernel_rfl)
end Go.Fw
open Go IntKind
namespace Go.Fw
set_option maxRecDepth 100000
theorem zml(v:VN)(s3_0 s3_1 s3_2:(-9223372036854775808:Int)≤0∧(0:Int)≤9223372036854775807):PCall P 66 [v.c] (.lit (.bool (rnB v.x (oV (0:Int) (0:Int) (0:Int)).x&&(rnB v.y (oV (0:Int) (0:Int) (0:Int)).y&&(rnB v.z (oV (0:Int) (0:Int) (0:Int)).z&&true))))):=
 j3 (.r 3 (zhi ((0:Int)) ((0:Int)) ((0:Int)) s3_0 s3_1 s3_2) .nil) (by kernel_rfl)
end Go.Fw
open Go
namespace Go.Fw
set_option maxRecDepth 100000
theorem z7b(v:VN):PCall P 66 [v.c] (.lit (.bool (zV v))):=zml v (by decide) (by decide) (by decide)
theorem zh9{v w:VN}{n:Nat}(hv:v.raw n=true)(hw:w.raw n=true):(zeD v w).raw (n+n+1)=true:=by
 refine z7I ?_
 cases ev:toV v with
 |none=>exact Nat.zero_le _
 |some a=>
  cases ew:toV w with
  |none=>exact Nat.zero_le _
  |some b=>
   obtain⟨x,y,z⟩:=z1t ev hv
   obtain⟨x',y',z'⟩:=z1t ew hw
   have m1:=K.sz_sub a.x b.x
   have m2:=K.sz_sub a.y b.y
   have m3:=K.sz_sub a.z b.z
   show max (a.x-b.x).sz (max (a.y-b.y).sz (a.z-b.z).sz)≤n+n+1
   omega
end Go.Fw
open Go IntKind
namespace Go.Fw
set_option maxRecDepth 100000
theorem znM(x:RN)(h1:decide ((↑x.s0.size:Int)>10)=true):PCall P 74 [x.c,j6 10] (.lit (.bool false)):=
 j3 (.c (bq 0 4) (.b 15 h1 .nil)) (by kernel_rfl)
theorem zr8(x:RN)(h1:decide ((↑x.s0.size:Int)>10)=false)(h2:decide ((↑x.s1.size:Int)>10)=true):PCall P 74 [x.c,j6 10] (.lit (.bool false)):=
 j3 (.c (bq 0 4) (.b 15 h1 (.c (bq 1 4) (.b 31 h2 .nil)))) (by kernel_rfl)
theorem zqz(x:RN)(h1:decide ((↑x.s0.size:Int)>10)=false)(h2:decide ((↑x.s1.size:Int)>10)=false)(h3:decide ((↑x.s2.size:Int)>10)=true):PCall P 74 [x.c,j6 10] (.lit (.bool false)):=
 j3 (.c (bq 0 4) (.b 15 h1 (.c (bq 1 4) (.b 31 h2 (.c (bq 2 4) (.b 47 h3 .nil)))))) (by kernel_rfl)
theorem zoC(x:RN)(h1:decide ((↑x.s0.size:Int)>10)=false)(h2:decide ((↑x.s1.size:Int)>10)=false)(h3:decide ((↑x.s2.size:Int)>10)=false)(h4:decide ((↑x.s3.size:Int)>10)=true):PCall P 74 [x.c,j6 10] (.lit (.bool false)):=
 j3 (.c (bq 0 4) (.b 15 h1 (.c (bq 1 4) (.b 31 h2 (.c (bq 2 4) (.b 47 h3 (.c (bq 3 4) (.b 63 h4 .nil)))))))) (by kernel_rfl)
theorem zna(x:RN)(h1:decide ((↑x.s0.size:Int)>10)=false)(h2:decide ((↑x.s1.size:Int)>10)=false)(h3:decide ((↑x.s2.size:Int)>10)=false)(h4:decide ((↑x.s3.size:Int)>10)=false):PCall P 74 [x.c,j6 10] (.lit (.bool (decide ((↑x.s4.size:Int)≤10)))):=
 j3 (.c (bq 0 4) (.b 15 h1 (.c (bq 1 4) (.b 31 h2 (.c (bq 2 4) (.b 47 h3 (.c (bq 3 4) (.b 63 h4 .nil)))))))) (by kernel_rfl)
end Go.Fw
open Go
namespace Go.Fw
set_option maxRecDepth 100000
theorem z2U(x:RN):PCall P 74 [x.c,j6 10] (.lit (.bool (x.raw 10))):=by
 have big: ∀{n:Nat},¬n≤10→decide ((n:Int)>10)=true:=fun h=>decide_eq_true (by omega)
 have sml: ∀{n:Nat},n≤10→decide ((n:Int)>10)=false:=fun h=>decide_eq_false (by omega)
 unfold RN.raw
 by_cases h0:x.s0.size≤10
 · by_cases h1:x.s1.size≤10
   · by_cases h2:x.s2.size≤10
     · by_cases h3:x.s3.size≤10
       · refine(zna x (sml h0) (sml h1) (sml h2) (sml h3)).eqB ?_
         rw[decide_eq_true h0,decide_eq_true h1,decide_eq_true h2,decide_eq_true h3,Bool.true_and,Bool.true_and,Bool.true_and,Bool.true_and,decide_eq_decide]
         omega
       · refine(zoC x (sml h0) (sml h1) (sml h2) (big h3)).eqB ?_
         simp[h3]
     · refine(zqz x (sml h0) (sml h1) (big h2)).eqB ?_
       simp[h2]
   · refine(zr8 x (sml h0) (big h1)).eqB ?_
     simp[h1]
 · refine(znM x (big h0)).eqB ?_
   simp[h0]
theorem zen:PCall P 72 [] (.lit (.bool true)):=by
 have h:=zk4 (by show(rnB (oN 4) (oV 4 0 3).x&&(rnB (oN 0) (oV 4 0 3).y&&(rnB (oN 3) (oV 4 0 3).z&&true)))=true;rw[zpm,zrJ,zrz,z3M.2 rfl,z3M.2 rfl,z3M.2 rfl];rfl) zsi (by decide) (by decide) (by decide) (by decide) (by decide) (by decide)
 rw[z3M.2 rfl]at h
 exact h
end Go.Fw
open Go IntKind
namespace Go.Fw
set_option maxRecDepth 100000
theorem znJ(v:VN)(h1:(RN.raw 10 v.x)=true)(h2:(RN.raw 10 v.y)=true)(h3:(RN.raw 10 v.z)=true):PCall P 90 [v.c,j6 10] (.lit (.bool true)):=
 j3 (.r 5 ((z2U (v.x)).eqB h1) (.r 10 ((z2U (v.y)).eqB h2) (.r 16 ((z2U (v.z)).eqB h3) .nil))) (by kernel_rfl)
theorem zpf(v:VN)(h1:(RN.raw 10 v.x)=true)(h2:(RN.raw 10 v.y)=true)(h3:(RN.raw 10 v.z)=false):PCall P 90 [v.c,j6 10] (.lit (.bool false)):=
 j3 (.r 5 ((z2U (v.x)).eqB h1) (.r 10 ((z2U (v.y)).eqB h2) (.r 16 ((z2U (v.z)).eqB h3) .nil))) (by kernel_rfl)
theorem zom(v:VN)(h1:(RN.raw 10 v.x)=true)(h2:(RN.raw 10 v.y)=false):PCall P 90 [v.c,j6 10] (.lit (.bool false)):=
 j3 (.r 5 ((z2U (v.x)).eqB h1) (.r 10 ((z2U (v.y)).eqB h2) .nil)) (by kernel_rfl)
theorem zmD(v:VN)(h1:(RN.raw 10 v.x)=false):PCall P 90 [v.c,j6 10] (.lit (.bool false)):=
 j3 (.r 5 ((z2U (v.x)).eqB h1) .nil) (by kernel_rfl)
end Go.Fw
open Go
namespace Go.Fw
set_option maxRecDepth 100000
theorem z8z(v:VN):PCall P 90 [v.c,j6 10] (.lit (.bool (v.raw 10))):=by
 unfold VN.raw z46
 cases h1:v.x.raw 10
 · exact zmD v h1
 · cases h2:v.y.raw 10
   · exact zom v h1 h2
   · cases h3:v.z.raw 10
     · exact zpf v h1 h2 h3
     · exact znJ v h1 h2 h3
end Go.Fw
open Go
namespace Go.Fw
set_option maxRecDepth 100000
theorem z5c(a b:Int)(h:Two a b):PCall P 128 [J5 a,J5 b] (J5 (a*b)):=by
 obtain⟨n,hn,ha,hb⟩:=h
 exact Y2 a b (ha.sml (by omega)) (hb.sml (by omega)) (ha.sm2 hb (by omega))
theorem z9y(k:Nat)(b:Int)(h:Two k b):PCall P 128 [.agg [.lit (.bool false),.lit (.string (bytesOf k))],J5 b] (J5 (k*b)):=by
 have:=z5c k b h
 unfold J5 at this ⊢
 rw[show decide ((k:Int)<0)=false from decide_eq_false (by omega)]at this
 exact this
theorem zn4(a b:Int)(h:Two a b):PCall P 127 [J5 a,J5 b] (J5 (a+b)):=by
 obtain⟨n,hn,ha,hb⟩:=h
 exact z0C a b (ha.sml (by omega)) (hb.sml (by omega)) (ha.sma hb (by omega))
theorem zgr(a b:Int):(if a<b then(-1:Int)else if a=b then 0 else 1)=(a-b).sign:=by
 rcases Int.lt_trichotomy a b with h|h|h
 · rw[if_pos h,Int.sign_eq_neg_one_of_neg (by omega)]
 · rw[if_neg (by omega),if_pos h,h,Int.sub_self];rfl
 · rw[if_neg (by omega),if_neg (by omega),Int.sign_eq_one_of_pos (by omega)]
theorem zmL(a b:Int)(h:Two a b):PCall P 213 [J5 a,J5 b] (j6 (a-b).sign):=by
 obtain⟨n,hn,ha,hb⟩:=h
 rw[←zgr]
 exact zcT a b (ha.sml (by omega)) (hb.sml (by omega))
end Go.Fw
open Go IntKind
namespace Go.Fw
set_option maxRecDepth 100000
theorem zjh(a b:Int)(h1:(a.sign==b.sign)=true):PCall P 151 [J5 a,J5 b] (.lit (.int .i64 a.sign)):=
 j3 (.r 4 (Q5 (a)) (.r 6 (Q5 (b)) (.b 12 h1 .nil))) (by kernel_rfl)
theorem zic(a b:Int)(h1:(a.sign==b.sign)=false)(h2:(b.sign==0)=true):PCall P 151 [J5 a,J5 b] (.lit (.int .i64 a.sign)):=
 j3 (.r 4 (Q5 (a)) (.r 6 (Q5 (b)) (.b 12 h1 (.b 16 h2 .nil)))) (by kernel_rfl)
theorem zkg(a b:Int)(h1:(a.sign==b.sign)=false)(h2:(b.sign==0)=false)(h3:(a.sign==0)=true):PCall P 151 [J5 a,J5 b] (.lit (.int .i64 b.sign)):=
 j3 (.r 4 (Q5 (a)) (.r 6 (Q5 (b)) (.b 12 h1 (.b 16 h2 (.b 19 h3 .nil))))) (by kernel_rfl)
theorem zm2(a b:Int)(h1:(a.sign==b.sign)=false)(h2:(b.sign==0)=false)(h3:(a.sign==0)=false)(s23_0:Two a a)(s24_0:(-9223372036854775808:Int)≤2∧(2:Int)≤9223372036854775807)(s27_0:Two b b)(s28_0:Two (2:Int) (b*b))(s29_0:Two (a*a) ((2:Int)*(b*b))):PCall P 151 [J5 a,J5 b] (.lit (.int .i64 (i64.wrap (a.sign*(a*a-2*(b*b)).sign)))):=
 j3 (.r 4 (Q5 (a)) (.r 6 (Q5 (b)) (.b 12 h1 (.b 16 h2 (.b 19 h3 (.r 23 (z5c (a) (a) s23_0) (.r 24 (Y7 ((2:Int)) s24_0) (.r 27 (z5c (b) (b) s27_0) (.r 28 (z9y (2) (b*b) s28_0) (.r 29 (zmL (a*a) ((2:Int)*(b*b)) s29_0) .nil)))))))))) (by kernel_rfl)
theorem zjK(a b:Int)(s15_0:Two a (-b)):PCall P 152 [J5 a,J5 b] (.agg [.lit (.bool (decide (a+ -b<0))),.lit (.string (bytesOf (a+ -b).natAbs))]):=
 j3 (.r 4 (J2 (a)) (.r 8 (J2 (b)) (.r 14 (V6 (b)) (.r 15 (zn4 (a) (-b) s15_0) (.c (lq 2 2) .nil))))) (by kernel_rfl)
end Go.Fw
open Go
namespace Go.Fw
set_option maxRecDepth 100000
theorem z3X(a b:Int)(h:z5F a b):PCall P 151 [J5 a,J5 b] (j6 (sg2 a b)):=by
 obtain⟨n,hn,ha,hb⟩:=h
 unfold sg2 z5o
 by_cases h1:a.sign=b.sign
 · rw[if_pos (.inl h1)]
   exact zjh a b (by simp[h1])
 · by_cases h2:b.sign=0
   · rw[if_pos (.inr h2)]
     exact zic a b (beq_false_of_ne h1) (by simp[h2])
   · rw[if_neg (by rintro(h|h)<;>contradiction)]
     by_cases h3:a.sign=0
     · rw[if_pos h3]
       exact zkg a b (beq_false_of_ne h1) (beq_false_of_ne h2) (by simp[h3])
     · rw[if_neg h3]
       have:=zm2 a b (beq_false_of_ne h1) (beq_false_of_ne h2) (beq_false_of_ne h3) ⟨n,by omega,ha,ha⟩ (by decide) ⟨n,by omega,hb,hb⟩ ⟨n+n+1,by omega,(show By 1 2 by unfold By;decide).mono (by omega),(hb.mul hb).mono (by omega)⟩ ⟨n+n+1,by omega,(ha.mul ha).mono (by omega),(hb.mul hb).two⟩
       have s1:=z3P a
       have s2:=z3P (a*a-2*(b*b))
       have hw:IntKind.i64.wrap (a.sign*(a*a-2*(b*b)).sign)=a.sign*(a*a-2*(b*b)).sign:=by
        generalize (a*a-2*(b*b)).sign=t at*
        have:a.sign= -1∨a.sign=1:=by omega
        rcases this with h|h<;>rw[h]<;>exact w64 (by omega)
       rw[hw]at this
       exact this
theorem zhd(a b:Int)(h:Two a b):PCall P 152 [J5 a,J5 b] (J5 (a-b)):=by
 obtain⟨n,hn,ha,hb⟩:=h
 have:=zjK a b ⟨n,hn,ha,hb.neg⟩
 rw[←Int.sub_eq_add_neg]at this
 exact this
theorem zat(a b:Int)(h:Two a b):PCall P 130 [c4C a b 0 0,c4C a b 0 0] (c4C (a*a+2*(b*b)) (2*(a*b)) 0 0):=by
 obtain⟨n,hn,ha,hb⟩:=h
 have z:By n 0:=by unfold By;exact Nat.pow_pos (by decide)
 have:=z3Y a b 0 0 a b 0 0 ⟨n,hn,⟨ha,hb,z,z⟩,ha,hb,z,z⟩
 rw[show a*a+2*b*b+3*0*0+6*0*0=a*a+2*(b*b) by grind,show a*b+b*a+3*0*0+3*0*0=2*(a*b) by grind,show a*0+0*a+2*b*0+2*0*b=0 by grind,show a*0+0*a+b*0+0*b=0 by grind]at this
 exact this
end Go.Fw
open Go IntKind
namespace Go.Fw
set_option maxRecDepth 100000
theorem zpu(x:K)(h1:(sg2 x.c0 x.c1==sg2 x.c2 x.c3)=true)(s3_0:x.sz≤1000000)(s12_0:z5F x.c0 x.c1)(s19_0:z5F x.c2 x.c3):PCall P 71 [Q8 x] (.lit (.int .i64 (sg2 x.c0 x.c1))):=
 j3 (.r 3 (z0n (x) s3_0) (.c (bq 0 4) (.c (bq 1 4) (.r 12 (z3X (x.c0) (x.c1) s12_0) (.c (bq 2 4) (.c (bq 3 4) (.r 19 (z3X (x.c2) (x.c3) s19_0) (.b 25 h1 .nil)))))))) (by kernel_rfl)
theorem zoR(x:K)(h1:(sg2 x.c0 x.c1==sg2 x.c2 x.c3)=false)(h2:(sg2 x.c2 x.c3==0)=true)(s3_0:x.sz≤1000000)(s12_0:z5F x.c0 x.c1)(s19_0:z5F x.c2 x.c3):PCall P 71 [Q8 x] (.lit (.int .i64 (sg2 x.c0 x.c1))):=
 j3 (.r 3 (z0n (x) s3_0) (.c (bq 0 4) (.c (bq 1 4) (.r 12 (z3X (x.c0) (x.c1) s12_0) (.c (bq 2 4) (.c (bq 3 4) (.r 19 (z3X (x.c2) (x.c3) s19_0) (.b 25 h1 (.b 29 h2 .nil))))))))) (by kernel_rfl)
theorem zoz(x:K)(h1:(sg2 x.c0 x.c1==sg2 x.c2 x.c3)=false)(h2:(sg2 x.c2 x.c3==0)=false)(h3:(sg2 x.c0 x.c1==0)=true)(s3_0:x.sz≤1000000)(s12_0:z5F x.c0 x.c1)(s19_0:z5F x.c2 x.c3):PCall P 71 [Q8 x] (.lit (.int .i64 (sg2 x.c2 x.c3))):=
 j3 (.r 3 (z0n (x) s3_0) (.c (bq 0 4) (.c (bq 1 4) (.r 12 (z3X (x.c0) (x.c1) s12_0) (.c (bq 2 4) (.c (bq 3 4) (.r 19 (z3X (x.c2) (x.c3) s19_0) (.b 25 h1 (.b 29 h2 (.b 32 h3 .nil)))))))))) (by kernel_rfl)
theorem zp9(x:K)(h1:(sg2 x.c0 x.c1==sg2 x.c2 x.c3)=false)(h2:(sg2 x.c2 x.c3==0)=false)(h3:(sg2 x.c0 x.c1==0)=false)(s3_0:x.sz≤1000000)(s12_0:z5F x.c0 x.c1)(s19_0:z5F x.c2 x.c3)(s47_0:Two x.c0 x.c1)(s64_0:Two x.c2 x.c3)(s67_0:(-9223372036854775808:Int)≤3∧(3:Int)≤9223372036854775807)(s76_0:Two (3:Int) (x.c2*x.c2+2*(x.c3*x.c3)))(s77_0:Two (x.c0*x.c0+2*(x.c1*x.c1)) ((3:Int)*(x.c2*x.c2+2*(x.c3*x.c3))))(s83_0:Two (3:Int) ((2:Int)*(x.c2*x.c3)))(s84_0:Two ((2:Int)*(x.c0*x.c1)) ((3:Int)*((2:Int)*(x.c2*x.c3))))(s85_0:z5F (x.c0*x.c0+2*(x.c1*x.c1)-3*(x.c2*x.c2+2*(x.c3*x.c3))) ((2:Int)*(x.c0*x.c1)-3*((2:Int)*(x.c2*x.c3)))):PCall P 71 [Q8 x] (.lit (.int .i64 (i64.wrap (sg2 x.c0 x.c1*sg2 (x.c0*x.c0+2*(x.c1*x.c1)-3*(x.c2*x.c2+2*(x.c3*x.c3))) ((2:Int)*(x.c0*x.c1)-3*((2:Int)*(x.c2*x.c3))))))):=
 j3 (.r 3 (z0n (x) s3_0) (.c (bq 0 4) (.c (bq 1 4) (.r 12 (z3X (x.c0) (x.c1) s12_0) (.c (bq 2 4) (.c (bq 3 4) (.r 19 (z3X (x.c2) (x.c3) s19_0) (.b 25 h1 (.b 29 h2 (.b 32 h3 (.c (bq 0 4) (.c (bq 1 4) (.c (bq 0 4) (.c (bq 1 4) (.r 47 (zat (x.c0) (x.c1) s47_0) (.c (lq 8 8) (.c (bq 2 4) (.c (bq 3 4) (.c (bq 2 4) (.c (bq 3 4) (.r 64 (zat (x.c2) (x.c3) s64_0) (.c (lq 8 8) (.r 67 (Y7 ((3:Int)) s67_0) (.c (lq 2 2) (.c (bq 0 4) (.c (bq 0 4) (.r 76 (z9y (3) (x.c2*x.c2+2*(x.c3*x.c3)) s76_0) (.r 77 (zhd (x.c0*x.c0+2*(x.c1*x.c1)) ((3:Int)*(x.c2*x.c2+2*(x.c3*x.c3))) s77_0) (.c (bq 1 4) (.c (bq 1 4) (.r 83 (z9y (3) ((2:Int)*(x.c2*x.c3)) s83_0) (.r 84 (zhd ((2:Int)*(x.c0*x.c1)) ((3:Int)*((2:Int)*(x.c2*x.c3))) s84_0) (.r 85 (z3X (x.c0*x.c0+2*(x.c1*x.c1)-3*(x.c2*x.c2+2*(x.c3*x.c3))) ((2:Int)*(x.c0*x.c1)-3*((2:Int)*(x.c2*x.c3))) s85_0) .nil))))))))))))))))))))))))))))))))) (by kernel_rfl)
theorem zlc(x:RN)(g:x.ok=false)(s3_0:RN.raw 1000000 x=true):PCall P 71 [x.c] (.lit (.int .i64 0)):=
 j3 (.r 3 ((V0 (x) s3_0).eqB g) .nil) (by kernel_rfl)
end Go.Fw
