/- A part of the proof that the law returns true for every input: an executor for the model's code, and what functions of the program compute. -/
import Derived.Test.YtcafjpldfnegiaaGreatDoorB11
import Derived.Test.YtcafjpldfnegiaaGreatDoorB15
import Derived.Test.YtcafjpldfnegiaaGreatDoorB35
import Derived.Test.YtcafjpldfnegiaaGreatDoorB40
import Derived.Test.YtcafjpldfnegiaaGreatDoorB41
import Derived.Test.YtcafjpldfnegiaaGreatDoorB42
import Derived.Test.YtcafjpldfnegiaaGreatDoorB43
import Derived.KernelRfl
open Go Go.RowKit Go.Shelf Go.Proofs
namespace Go.Fw
attribute [local go_sem] Oper.semAt_some
set_option maxRecDepth 100000
set_option maxHeartbeats 1000000
theorem coord_in (F : Fence) (n : Nat) (h : F.fn 168) (hro : F.round = none) (a : Array Value) (w : World) :
    CallsIn F n Tryz.prog 168 #[.agg a] w fun e w'=>e= .returned (.func (.func 221) #[] #[.pointer (some ⟨w.heap.size,0,none⟩)])∧w'=w.alloc (.cells a 51):=by
 refine callsIn_of_wp Tryz.func168 rfl h ?_ hro
 simp only[Tryz.ntmps168,List.size_toArray,List.length_cons,List.length_nil,Nat.reduceAdd,Nat.reduceSub,Array.replicate_succ,Array.replicate_zero,List.push_toArray,List.append_toArray,List.nil_append,List.cons_append]
 gi_wp2
 go_ret
 exact⟨rfl,rfl⟩
theorem load_part{x:RN}{v:Array Value}{w:World}{b k:Nat}(h:w.heap[b]?=some (.cells v 51 (0,0)))(hv:(v.toList.drop k).take 10=x.a.toList):(Instr.loadAt 39 (.pointer (some ⟨b,k,none⟩))).run Tryz.prog w= .ok (.agg x.a) w:=
 run_load Tryz.underlying39 h (by rw[cells39,hv]) (by rw[cells39];rfl)
theorem coord_stops {α : Type} (enc : α → Array Value) (u0 u1 u2 : α) (F : Fence) (n : Nat) (h : F.fn 221) (hro : F.round = none) (hn : 1 ≤ n) (Bn n₀ : Nat) (x y z : RN) (w : World) (hBn : Bn < w.heap.size) (hn0 : Bn < n₀)
    (hc:w.heap[Bn]?=some (.cells (x.a++(y.a++z.a)) 51 (0,0)))
    (e0:enc u0= #[.agg x.a]) (e1:enc u1= #[.agg y.a]) (e2:enc u2= #[.agg z.a]):
    SeqStopsK F n Tryz.prog 221 #[.pointer (some ⟨Bn,0,none⟩)] enc (Below n₀) (fun ys=>ys=[u0,u1,u2]) (fun pre=>pre<+:[u0,u1,u2]) 3 w:=fun l J Jx W hW hJ hJx hY h0=>by
 refine callsIn_of_wp Tryz.func221 rfl h ?_ hro
 simp only[Tryz.ntmps221,List.size_toArray,List.length_cons,List.length_nil,Nat.reduceAdd,Nat.reduceSub,Array.replicate_succ,Array.replicate_zero,List.push_toArray,List.append_toArray,List.nil_append,List.cons_append]
 have hb:=(hW.block Bn hBn).trans hc
 have l0:(Instr.loadAt 39 (.pointer (some ⟨Bn,0,none⟩))).run Tryz.prog W= .ok (.agg x.a) W:=load_part (x:=x) hb (by simp[RN.a])
 obtain⟨fn,tmps,assign,body,hy,hR⟩:=hY [] u0 W h0 (by simp)
 rw[e0]at hy
 gi_wp2_with (refine wpListIn_loadA rfl rfl rfl l0 ?_)
 refine hR.mono ?_
 rintro e W3 (⟨rfl,hJ3,hk3⟩|⟨rfl,hJx3⟩)
 · have hb3:=(hk3.block Bn hn0).trans hb
   have l1:(Instr.loadAt 39 (.pointer (some ⟨Bn,10,none⟩))).run Tryz.prog W3= .ok (.agg y.a) W3:=load_part (x:=y) hb3 (by simp[RN.a])
   obtain⟨fn,tmps,assign,body,hy,hR⟩:=hY _ u1 W3 hJ3 (by simp)
   rw[e1]at hy
   gi_wp2_with (refine wpListIn_loadG rfl rfl rfl l1 ?_)
   refine hR.mono ?_
   rintro e W4 (⟨rfl,hJ4,hk4⟩|⟨rfl,hJx4⟩)
   · have hb4:=(hk4.block Bn hn0).trans hb3
     have l2:(Instr.loadAt 39 (.pointer (some ⟨Bn,20,none⟩))).run Tryz.prog W4= .ok (.agg z.a) W4:=load_part (x:=z) hb4 (by simp[RN.a])
     obtain⟨fn,tmps,assign,body,hy,hR⟩:=hY _ u2 W4 hJ4 (by simp)
     rw[e2]at hy
     gi_wp2_with (refine wpListIn_loadG rfl rfl rfl l2 ?_)
     refine hR.mono ?_
     rintro e W5 (⟨rfl,hJ5,hk5⟩|⟨rfl,hJx5⟩)
     · gi_wp2
       go_end0
       exact⟨⟨_,rfl⟩,.inl ⟨_,rfl,hJ5⟩⟩
     · gi_wp2
       go_end0
       exact⟨⟨_,rfl⟩,.inr ⟨_,by simp,hJx5⟩⟩
   · gi_wp2
     refine⟨fun _ h=>(by cases h),?_⟩
     gi_wp2
     go_end0
     exact⟨⟨_,rfl⟩,.inr ⟨_,by simp,hJx4⟩⟩
 · gi_wp2
   refine⟨fun _ h=>(by cases h),?_⟩
   gi_wp2
   go_end0
   exact⟨⟨_,rfl⟩,.inr ⟨_,by simp,hJx3⟩⟩
end Go.Fw
open Go Go.RowKit Go.Shelf Go.Proofs
namespace Go.Fw
attribute [local go_sem] Oper.semAt_some
set_option maxRecDepth 100000
set_option maxHeartbeats 1000000
theorem cells99:Tryz.prog.cellsOf 99=40:=by kernel_rfl
theorem load_pl{p:PN}{w:World}{b:Nat}{T:TypeId}(h:w.heap[b]?=some (.cells p.a T (0,0))):(Instr.loadAt 99 (.pointer (some ⟨b,0,none⟩))).run Tryz.prog w= .ok (.agg p.a) w:=
 run_load Tryz.underlying99 h (by rw[cells99,List.drop_zero,List.take_of_length_le (by rw[Array.length_toList,p.a_size];exact Nat.le_refl _)]) (by rw[cells99,p.a_size])
theorem load_pn{p:PN}{w:World}{b:Nat}{T:TypeId}(h:w.heap[b]?=some (.cells p.a T (0,0))):(Instr.loadAt 51 (.pointer (some ⟨b,0,none⟩))).run Tryz.prog w= .ok (.agg (p.n.x.a++(p.n.y.a++p.n.z.a))) w:=
 run_load Tryz.underlying51 h (by rw[cells51];simp[PN.a,RN.a]) (by rw[cells51];simp[RN.a_size])
theorem PCall.flat1{f:FuncId}{c:CV}{a:Array Value}{v:Value}(h:PCall P f [c] (.lit v))(hc:c= .agg (a.toList.map .lit))(w:World):Calls P f #[.agg a] w fun e w'=>e= .returned v∧Below w.heap.size w w':=by
 refine(h (fun _=>none) w #[.agg a] (fun b cs hb=>by cases hb) ⟨_,_,rfl,by rw[hc];exact⟨_,rfl,repL_lits' _ _⟩,rfl⟩).mono ?_
 rintro e w' ⟨y,v',I,rfl,rfl,hr,_,_,hb,_⟩
 exact⟨by rw[show y=v from hr],hb⟩
theorem pc_map(p:PN):p.c= .agg (p.a.toList.map .lit):=by rw[←pn_map];rfl
noncomputable def can(p:PN):PN×Int:=
 if nSgn p.n.x≠0 then(canBy p p.n.x,0)else if nSgn p.n.y≠0 then(canBy p p.n.y,0)else if nSgn p.n.z≠0 then(canBy p p.n.z,0)else(.zero,1)
abbrev RNk:={x:RN//x.raw 1000=true}
abbrev enS(x:RNk):Array Value:= #[.agg x.1.a]
theorem wpIn_reg{F:Fence}{n id:Nat}{P:Program}{ops ra:Array Oper}{Q:Exit→Act→World→Prop}{a:Act}{w:World}(h:ra=ops)(hw:(Code.region id ra true).wpIn F n P Q a w):(Code.region id ops true).wpIn F n P Q a w:=h ▸ hw
theorem res2 {P : Program} {fn : Func} {i j : Nat} {t1 t2 : TypeId} (hf : fn.results.toList = [.cell i t1, .cell j t2]) {a : Array Value} {w : World} {p1 p2 : Addr} {v1 v2 : Value} (ha : a.getD i undef = .pointer (some p1)) (hb : a.getD j undef = .pointer (some p2))
    (h1:(loadVar t1 p1).run P w= .ok v1 w) (h2:(loadVar t2 p2).run P w= .ok v2 w):(results fn a).run P w= .ok (.tuple #[v1,v2]) w:=by
 refine results_run (P:=P) (fn:=fn) (a:=⟨a,[]⟩) (ys:=[v1,v2]) ?_
 rw[hf,List.mapM_cons,Sem.run_bind]
 simp only[ha,hb,List.mapM_cons,List.mapM_nil,Sem.run_bind,asAddr,Sem.run_pure,Result.andThen_ok,h1,h2]
theorem load_int{w:World}{b:Nat}{T:TypeId}{n:Int}(h:w.heap[b]?=some (.cells #[.int .i64 n] T (0,0))):(loadVar 24 ⟨b,0,none⟩).run Tryz.prog w= .ok (.int .i64 n) w:=by
 obtain⟨y,h1,_,h3⟩:=run_loadVar (P:=Tryz.prog) (w:=w) (off:=0) (U:=24) h Tryz.underlying24 (by kernel_rfl:Tryz.prog.cellsOf 24=1) (l:=[.int .i64 n]) rfl rfl (fun _=>rfl)
 rw[h1,←(List.cons.inj (h3 rfl)).1]
theorem load_plv{p:PN}{w:World}{b:Nat}{T:TypeId}(h:w.heap[b]?=some (.cells p.a T (0,0))):(loadVar 99 ⟨b,0,none⟩).run Tryz.prog w= .ok (.agg p.a) w:=by
 have:=load_pl h
 simpa[Instr.loadAt,Instr.sureAddr]using this
theorem can_in (p : PN) (hp : p.raw 1000 = true) (hok : p.ok = true) (hnz : nSgn p.n.x = 0 → nSgn p.n.y = 0 → nSgn p.n.z = 0 → False) (w : World) :
    CallsIn Fence.wide 6 Tryz.prog 91 #[.agg p.a] w fun e W'=>e= .returned (.tuple #[.agg (can p).1.a,.int .i64 (can p).2])∧Below w.heap.size w W':=by
 obtain⟨hpn,hpd⟩:=PN.raw_iff.1 hp
 obtain⟨hx,hy,hz⟩:=raw3_iff.1 hpn
 have hV:=fun W=>callsIn_wide (n:=5).2 ((PVal_r p (PN.raw_iff.2 ⟨VN.raw_mono hpn (by decide),RN.raw_mono hpd (by decide)⟩)).flat1 (pc_map p) W)
 rw[hok]at hV
 have hS:=fun(u:RNk) (m:Nat) W=>callsIn_wide (n:=m).2 ((FSign_r u.1 (RN.raw_mono u.2 (by decide))).num W)
 obtain⟨A,hA⟩: ∃A,p.a=A:=⟨_,rfl⟩
 rw[hA]at hV ⊢
 obtain⟨Y,hY⟩: ∃Y,p.n.x.a++(p.n.y.a++p.n.z.a)=Y:=⟨_,rfl⟩
 refine callsIn_of_wp_marks Tryz.func91 rfl trivial ?_ rfl
 simp only[Tryz.ntmps91,List.size_toArray,List.length_cons,List.length_nil,Nat.reduceAdd,Nat.reduceSub,Array.replicate_succ,Array.replicate_zero,List.push_toArray,List.append_toArray,List.nil_append,List.cons_append]
 have hb: ∀Z:Array Value,(((w.alloc (.cells A 99)).alloc (.cells Z 99)).alloc (.cells #[.int .i64 0] 24)).heap[w.heap.size]?=some (.cells A 99 (0,0)):=fun Z=>
  (Below.heap_alloc _ _ _ (by simp;omega)).trans ((Below.heap_alloc _ _ _ (by simp)).trans (World.alloc_heap_new w _))
 have hb1: ∀Z:Array Value,(((w.alloc (.cells A 99)).alloc (.cells Z 99)).alloc (.cells #[.int .i64 0] 24)).heap[w.heap.size+1]?=some (.cells Z 99 (0,0)):=fun Z=>
  (Below.heap_alloc _ _ _ (by simp)).trans (by have:=World.alloc_heap_new (w.alloc (.cells A 99)) (.cells Z 99);rwa[World.size_alloc]at this)
 have hb2: ∀Z:Array Value,(((w.alloc (.cells A 99)).alloc (.cells Z 99)).alloc (.cells #[.int .i64 0] 24)).heap[w.heap.size+1+1]?=some (.cells #[.int .i64 0] 24 (0,0)):=fun Z=>by
  have:=World.alloc_heap_new ((w.alloc (.cells A 99)).alloc (.cells Z 99)) (.cells #[.int .i64 0] 24);rwa[World.size_alloc,World.size_alloc]at this
 have hB0: ∀Z:Array Value,Below w.heap.size w (((w.alloc (.cells A 99)).alloc (.cells Z 99)).alloc (.cells #[.int .i64 0] 24)):=fun Z=>(((Below.refl _ w).alloc (Nat.le_refl _) _).alloc (by simp) _).alloc (by simp;omega) _
 have hs0: ∀Z:Array Value,(((w.alloc (.cells A 99)).alloc (.cells Z 99)).alloc (.cells #[.int .i64 0] 24)).heap.size=w.heap.size+3:=fun Z=>by simp
 have hl:=fun Z=>load_pl (p:=p) (by rw[hA];exact hb Z)
 rw[hA]at hl
 have hl51: ∀W:World,W.heap[w.heap.size]?=some (.cells A 99 (0,0))→(Instr.loadAt 51 (.pointer (some ⟨w.heap.size,0,none⟩))).run Tryz.prog W= .ok (.agg Y) W:=fun W h=>by rw[←hY];exact load_pn (by rw[hA];exact h)
 gi_wp2_with (first|(refine⟨trivial,?_⟩;gi_at_call 79;refine(hV _).mono ?_;rintro e W1 ⟨rfl,hB1⟩;have q0:=(hB1.block w.heap.size (by rw[hs0];omega)).trans (hb _);have q1:=(hB1.block (w.heap.size+1) (by rw[hs0];omega)).trans (hb1 _);have q2:=(hB1.block (w.heap.size+1+1) (by rw[hs0];omega)).trans (hb2 _);have hBW:=(hB0 _).trans (hB1.mono (by rw[hs0];omega));have hsz:=hB1.size;rw[hs0]at hsz;have hl2:=hl51 _ q0;clear hB1 hl)|(refine⟨trivial,?_⟩;gi_at_call 168;refine(coord_in Fence.wide 5 trivial rfl _ _).mono ?_;rintro e w' ⟨rfl,rfl⟩)|refine wpListIn_loadA rfl rfl rfl hl2 ?_|refine wpListIn_loadA rfl rfl rfl (hl _) ?_)
 clear hb hb1 hb2 hB0 hs0 hl51 hl2
 have Z1:W1.heap[w.heap.size+1]?=some (.cells PN.zero.a 99 (0,0)):=q1
 clear q1
 obtain⟨W0,hW0⟩: ∃W0,W1.alloc (.cells Y 51)=W0:=⟨_,rfl⟩
 have f0:W0.heap[w.heap.size]?=some (.cells A 99 (0,0)):=by rw[←hW0];exact(Below.heap_alloc _ _ _ (by omega)).trans q0
 have f1:W0.heap[w.heap.size+1]?=some (.cells PN.zero.a 99 (0,0)):=by rw[←hW0];exact(Below.heap_alloc _ _ _ (by omega)).trans Z1
 have f2:W0.heap[w.heap.size+1+1]?=some (.cells #[.int .i64 0] 24 (0,0)):=by rw[←hW0];exact(Below.heap_alloc _ _ _ (by omega)).trans q2
 have fY:W0.heap[W1.heap.size]?=some (.cells Y 51 (0,0)):=by rw[←hW0];exact World.alloc_heap_new W1 _
 have hB0:Below w.heap.size w W0:=by rw[←hW0];exact hBW.alloc (by omega) _
 have hs:W0.heap.size=W1.heap.size+1:=by rw[←hW0];simp
 rw[hW0]
 rw[←hY]at fY
 clear hW0
 refine wpIn_rangeFunc_ownH rfl (by decide) (gf:=221) (lb:= #[.pointer (some ⟨W1.heap.size,0,none⟩)]) rfl trivial (enters_of Tryz.func221 (by kernel_rfl) rfl)
  (coord_stops enS ⟨_,hx⟩ ⟨_,hy⟩ ⟨_,hz⟩ Fence.wide 5 trivial rfl (by decide) W1.heap.size W0.heap.size p.n.x p.n.y p.n.z W0 (by omega) (by omega) fY rfl rfl rfl) belowK_t (belowK_b (Nat.le_refl _)) (Below.refl _ _) (fun _=>rfl)
  (fun pre W=>((∀u∈pre,nSgn u.1=0)∧W.heap[w.heap.size]?=some (.cells A 99 (0,0))∧W.heap[w.heap.size+1]?=some (.cells PN.zero.a 99 (0,0))∧W.heap[w.heap.size+1+1]?=some (.cells #[.int .i64 0] 24 (0,0)))∧Below W0.heap.size W0 W)
  (fun c pre W=>(c= .ret∧ ∃(q:List RNk) (u:RNk) (T T':TypeId),pre=q++[u]∧(∀u∈q,nSgn u.1=0)∧nSgn u.1≠0∧W.heap[w.heap.size+1]?=some (.cells (canBy p u.1).a T (0,0))∧W.heap[w.heap.size+1+1]?=some (.cells #[.int .i64 0] T' (0,0)))∧Below w.heap.size w W)
  (OwnFrom.and (OwnFrom.and (ownFrom_pure _ _) (OwnFrom.and (cells_own _ _ (fun _=>A) 99) (OwnFrom.and (cells_own _ _ (fun _=>PN.zero.a) 99) (cells_own _ _ (fun _=> #[.int .i64 0]) 24)))) (ownFrom_below (Nat.le_refl _) (Nat.le_refl _)))
  (fun c=>OwnFrom.and (fun s X X' row h hg hr=>by
   obtain⟨hc,q,u,T,T',e1,e2,e3,e4,e5⟩:=h
   exact⟨hc,q,u,T,T',e1,e2,e3,cells_own _ _ (fun(_:Unit)=>(canBy p u.1).a) T () X X' row e4 hg hr,cells_own _ _ (fun(_:Unit)=> #[.int .i64 0]) T' () X X' row e5 hg hr⟩) (ownFrom_below (by omega) (by omega)))
  ⟨⟨by simp,f0,f1,f2⟩,Below.refl _ _⟩
  (fun x a' W=> ∃Bx,w.heap.size+1+1<Bx∧W.heap[Bx]?=some (.cells x.1.a 39 (0,0))∧a'={tmps:= #[.agg A,.pointer (some ⟨w.heap.size,0,none⟩),.pointer (some ⟨w.heap.size+1,0,none⟩),.pointer (some ⟨w.heap.size+1+1,0,none⟩),.pointer (some ⟨Bx,0,none⟩),undef,.agg A,.bool true,.bool false,undef,.pointer (some ⟨w.heap.size,0,none⟩),.agg Y,.func (.func 221) #[] #[.pointer (some ⟨W1.heap.size,0,none⟩)],.agg x.1.a,undef,undef,undef,undef,undef,undef,undef,undef,undef,undef,undef,undef,undef,undef,undef,undef,undef],defers:=[]})
  (fun x a' _ X X' row hs hg hr=>by obtain⟨Bx,e1,e2,e3⟩:=hs;exact⟨Bx,e1,cells_own _ Bx (fun(_:Unit)=>x.1.a) 39 () X X' row e2 hg hr,e3⟩)
  ?assign ?body ?done ?stop
 case assign=>
  rintro l pre x W K ⟨⟨hp0,F0,F1,F2⟩,hB1⟩ hK
  dsimp only[enS]
  have hst:=store_num x.1 W #[.bool false,.string ⟨#[]⟩,.bool false,.string ⟨#[]⟩,.bool false,.string ⟨#[]⟩,.bool false,.string ⟨#[]⟩,.bool false,.string ⟨#[]⟩] rfl
  gi_wp2_with (refine wpListIn_storeA rfl rfl rfl rfl hst ?_)
  have al: ∀{k:Nat} {o:Obj},W.heap[k]?=some o→(W.alloc (.cells x.1.a 39)).heap[k]?=some o:=fun h=>(Below.heap_alloc W _ _ (Array.getElem?_eq_some_iff.1 h).1).trans h
  exact hK _ _ ((KeepsOthers.alloc _ _).from _) ((Below.refl _ W).alloc hB1.size _) ⟨⟨hp0,al F0,al F1,al F2⟩,hB1.alloc hB1.size _⟩ ⟨W.heap.size,(Array.getElem?_eq_some_iff.1 F2).1,World.alloc_heap_new W _,rfl⟩
 case body=>
  rintro l pre x a' W hl ⟨r,hr⟩ ⟨⟨hp0,F0,F1,F2⟩,hB1⟩ ⟨Bx,hBx,bX,rfl⟩ hlt
  have hld:=load_num bX
  have nd:(Fence.wide.inRound l).depth.isSome=true→1≤4:=fun h=>by cases h
  gi_wp2_with (refine wpListIn_loadA rfl rfl rfl hld ?_)
  refine⟨trivial,?_⟩
  refine(CallsIn.inRound l (hS x _ _)).mono ?_
  rintro e W2 ⟨rfl,hB2⟩
  dsimp only
  gi_step
  gi_step
  gi_step
  have k0:=(hB2.block _ (Array.getElem?_eq_some_iff.1 F0).1).trans F0
  have k1:=(hB2.block _ (Array.getElem?_eq_some_iff.1 F1).1).trans F1
  have k2:=(hB2.block _ (Array.getElem?_eq_some_iff.1 F2).1).trans F2
  have kx:=(hB2.block _ (Array.getElem?_eq_some_iff.1 bX).1).trans bX
  have hB3:=hB1.trans (hB2.mono hB1.size)
  have hB5:=hB0.trans (hB3.mono hB0.size)
  by_cases hk:nSgn x.1=0
  · rw[show(nSgn x.1 != 0)=false by rw[hk];rfl]
    gi_wp2
    exact⟨keeps_below hB2 _,hB2.mono hB1.size,⟨fun u hu=>(List.mem_append.1 hu).elim (hp0 u) (fun e=>by simp at e;subst e;exact hk),k0,k1,k2⟩,hB3⟩
  · rw[show(nSgn x.1 != 0)=true by simp[hk]]
    rw[←hA]at k0
    gi_step
    gi_step
    gi_step
    gi_step
    gi_step
    gi_step
    refine wpIn_reg (ra:=regF P 91 6) (by kernel_rfl) (wpIn_mono (can_round p x.1 hp x.2 W2 _ _ _ Bx (by omega) (by omega) hBx k0 k1 k2 kx _ _ _ rfl rfl rfl) ?_)
    rintro e a1 W3 ⟨rfl,h7⟩
    gi_step
    gi_step
    gi_step
    refine wpIn_reg (ra:=regF P 91 7) (by kernel_rfl) (wpIn_mono h7 ?_)
    rintro e a2 W4 ⟨rfl,hd2,hB4,hK4,⟨T,hP⟩,⟨T',hE⟩⟩
    gi_step
    gi_step
    gi_step
    gi_step
    exact⟨(keeps_below hB2 _).trans (hK4 _),⟨rfl,pre,x,T,T',rfl,hp0,hk,hP,hE⟩,hB5.trans hB4⟩
 case done=>
  rintro D zs W hD rfl ⟨⟨hp0,_⟩,_⟩ hK
  have q0:=hp0 ⟨_,hx⟩ (List.mem_cons_self ..)
  have q1:=hp0 ⟨_,hy⟩ (List.mem_cons_of_mem _ (List.mem_cons_self ..))
  have q2:=hp0 ⟨_,hz⟩ (List.mem_cons_of_mem _ (List.mem_cons_of_mem _ (List.mem_cons_self ..)))
  exact(hnz q0 q1 q2).elim
 case stop=>
  rintro D c pre W hD hpre ⟨⟨rfl,q,u,T,T',e1,e2,e3,e4,e5⟩,hB1⟩ hK
  have nD: ∀{k:Nat} {c:Array Value} {t:TypeId},W.heap[k]?=some (.cells c t (0,0))→(W.putObj D (.deferred none)).heap[k]?=some (.cells c t (0,0)):=fun {k c t} h=>
   ((grownBy_putObj' W D (.deferred none)).block k (Array.getElem?_eq_some_iff.1 h).1 (fun e=>by cases e;rw[hK]at h;cases h)).trans h
  gi_wp2
  refine⟨by simp,.inl ⟨_,_,rfl,run_takeDeferred hK,?_⟩⟩
  have hcan:can p=(canBy p u.1,0):=by
   rw[e1]at hpre
   unfold can
   match q,hpre,e2 with
   | [],hp,_=>
    have e:u=⟨p.n.x,hx⟩:=(List.cons_prefix_cons.1 hp).1
    subst e
    rw[if_pos e3]
   | [a],hp,h2=>
    obtain⟨ea,hp⟩:=List.cons_prefix_cons.1 hp
    have e:u=⟨p.n.y,hy⟩:=(List.cons_prefix_cons.1 hp).1
    have ha:=h2 a (List.mem_cons_self ..)
    subst e ea
    rw[if_neg (fun h=>h ha),if_pos e3]
   | [a,b],hp,h2=>
    obtain⟨ea,hp⟩:=List.cons_prefix_cons.1 hp
    obtain⟨eb,hp⟩:=List.cons_prefix_cons.1 hp
    have e:u=⟨p.n.z,hz⟩:=(List.cons_prefix_cons.1 hp).1
    have ha:=h2 a (List.mem_cons_self ..)
    have hb:=h2 b (List.mem_cons_of_mem _ (List.mem_cons_self ..))
    subst e ea eb
    rw[if_neg (fun h=>h ha),if_neg (fun h=>h hb),if_pos e3]
   |a::b::c::r,hp,_=>
    have:=hp.length_le
    simp at this
  rw[hcan]
  exact⟨_,res2 rfl rfl rfl (load_plv (nD e4)) (load_int (nD e5)),rfl,hB1.trans (belowK_b (w:=w) (Nat.le_refl _) W D _ _ (by have:=hB0.size;omega) hK rfl rfl)⟩
theorem PCall.of_calls{P:Program}{f:FuncId}{c v:CV}{x y:Value}(hc: ∀Im z,c.rep Im z→z=x)(hv: ∀Im,v.rep Im y)(h: ∀w,Calls P f #[x] w fun e w'=>e= .returned y∧Below w.heap.size w w'):PCall P f [c] v:=by
 intro Im w vs hIm hvs
 obtain⟨y0,ys,e1,hr,e2⟩:=hvs
 have e3:vs= #[x]:=by
  apply Array.ext'
  rw[e1,e2,hc _ _ hr]
 subst e3
 refine(h w).mono ?_
 rintro e w' ⟨rfl,hB⟩
 exact⟨y,v,Im,rfl,rfl,hv Im,Im.le_refl,(fun b cs hb=>by obtain⟨c,T,fz,k1,k2⟩:=hIm b cs hb;exact⟨c,T,fz,(hB.block b (Array.getElem?_eq_some_iff.1 k1).1).trans k1,k2⟩),hB,fun b hb=> .inl hb⟩
theorem lits_rep{Im:Imm}(a:Array Value):(CV.agg (a.toList.map .lit)).rep Im (.agg a):=⟨_,rfl,repL_lits' _ _⟩
theorem lits_rep'{Im:Imm}(a:Array Value)(z:Value)(h:(CV.agg (a.toList.map .lit)).rep Im z):z= .agg a:=by
 obtain⟨arr,rfl,hr⟩:=h
 rw[Array.ext' (repL_lits_eq hr)]
theorem pl_rep{Im:Imm}(q:PN):q.c.rep Im (.agg q.a):=by
 rw[pc_map]
 generalize q.a=a
 exact lits_rep a
theorem pl_rep'{Im:Imm}(q:PN)(z:Value)(h:q.c.rep Im z):z= .agg q.a:=by
 rw[pc_map]at h
 generalize q.a=a at*
 exact lits_rep' a z h
theorem ple_rep{Im:Imm}(q:PN)(n:Int):(CV.tup [q.c,ci64 n]).rep Im (.tuple #[.agg q.a,.int .i64 n]):=by
 have:=pl_rep (Im:=Im) q
 generalize q.c=c at*
 generalize q.a=a at*
 exact⟨_,rfl,_,_,rfl,this,_,_,rfl,rfl,rfl⟩
theorem Can_r(p:PN)(hp:p.raw 1000=true)(hok:p.ok=true)(hnz:nSgn p.n.x=0→nSgn p.n.y=0→nSgn p.n.z=0→False):PCall P 91 [p.c] (.tup [(can p).1.c,ci64 (can p).2]):=
 PCall.of_calls (fun _ z h=>pl_rep' p z h) (fun _=>ple_rep _ _) (fun w=>callsIn_wide.1 (can_in p hp hok hnz w))
end Go.Fw
open Go IntKind
namespace Go.Fw
set_option maxRecDepth 100000
theorem p34_p1:PCall P 120 [n5C (3:Int) (0:Int) (0:Int) (0:Int) (4:Int)] (.lit (.string ({data:= #[]}++{data:= #[(51:UInt8)]}++({data:= #[(47:UInt8)]}++{data:= #[(52:UInt8)]})++{data:= #[]}))):=
 pcallT (.r 3 (p34V) (.c (bq 0 4) (.c (lq 2 2) (.r 19 (p3S) (.r 25 (p3G) (.c (lq 2 2) (.r 29 (p3A) (.r 31 (p3O) (.r 35 (pO4) (.c (lq 2 2) (.c (lq 2 2) (.r 41 (p3S) (.r 49 (pOne) (.c (lq 2 2) (.r 67 (p3P) (.c (show(1:Int)≤9223372036854775807 from by decide) (.r 76 (pP4) (.c (show(2:Int)≤9223372036854775807 from by decide) (.c (show(3:Int)≤9223372036854775807 from by decide) (.r 82 (pR0_p1) (.c (show(3:Int)≤9223372036854775807 from by decide) (.c (bq 1 4) (.c (lq 2 2) (.r 99 (pS0) (.c (bq 2 4) (.c (lq 2 2) (.r 116 (pS0) (.c (bq 3 4) (.c (lq 2 2) (.r 133 (pS0) .nil)))))))))))))))))))))))))))))) (by kernel_rfl)
theorem p54_p1:PCall P 120 [n5C (5:Int) (0:Int) (0:Int) (0:Int) (4:Int)] (.lit (.string ({data:= #[]}++{data:= #[(53:UInt8)]}++({data:= #[(47:UInt8)]}++{data:= #[(52:UInt8)]})++{data:= #[]}))):=
 pcallT (.r 3 (p54V) (.c (bq 0 4) (.c (lq 2 2) (.r 19 (p5S) (.r 25 (p5G) (.c (lq 2 2) (.r 29 (p5A) (.r 31 (p5O) (.r 35 (pO4) (.c (lq 2 2) (.c (lq 2 2) (.r 41 (p5S) (.r 49 (pOne) (.c (lq 2 2) (.r 67 (p5P) (.c (show(1:Int)≤9223372036854775807 from by decide) (.r 76 (pP4) (.c (show(2:Int)≤9223372036854775807 from by decide) (.c (show(3:Int)≤9223372036854775807 from by decide) (.r 82 (pR0_p1) (.c (show(3:Int)≤9223372036854775807 from by decide) (.c (bq 1 4) (.c (lq 2 2) (.r 99 (pS0) (.c (bq 2 4) (.c (lq 2 2) (.r 116 (pS0) (.c (bq 3 4) (.c (lq 2 2) (.r 133 (pS0) .nil)))))))))))))))))))))))))))))) (by kernel_rfl)
end Go.Fw
open Go
namespace Go.Fw
set_option maxRecDepth 100000
theorem nAbs_o(z:Int)(h: ¬K.sgn (K.ofInt z)<0)(h2: - -(K.ofInt z)=K.ofInt z):nAbs (oN z)=oN z:=by
 unfold nAbs
 rw[sg_o,if_neg h,oN_k,nNeg_k,nNeg_k,h2]
def k14:K:=⟨1,0,0,0,4,by decide,by decide⟩
theorem canK4:canK (oN 4)=kN k14:=by
 unfold canK
 rw[nAbs_o 4 (by rw[show K.sgn (K.ofInt 4)=1 by kernel_rfl];decide) (by kernel_rfl),oN_k,oN_k,nDiv_k _ _ (by rw[show K.sgn (K.ofInt 4)=1 by kernel_rfl];decide),show K.div (K.ofInt 1) (K.ofInt 4)=k14 by kernel_rfl]
theorem toV_k(x y z:K):toV ⟨kN x,kN y,kN z⟩=some ⟨x,y,z⟩:=by
 unfold toV
 rw[toO_kN,toO_kN,toO_kN]
theorem wScale_k(x y z k:K):wScale ⟨kN x,kN y,kN z⟩ (kN k)=⟨kN (x*k),kN (y*k),kN (z*k)⟩:=by
 unfold wScale
 rw[toV_k,toO_kN,kN_eq,kN_eq,kN_eq]
 rfl
theorem can_a:can aP=(cP,0):=by
 unfold can
 rw[if_pos (by show nSgn (oN 4)≠0;rw[sg_o,show K.sgn (K.ofInt 4)=1 by kernel_rfl];decide)]
 show(canBy aP (oN 4),(0:Int))=_
 unfold canBy
 rw[canK4]
 unfold aP cP
 dsimp only
 rw[oN_k,oN_k,oN_k,oN_k,wScale_k,nMul_k,show K.ofInt 4*k14=K.ofInt 1 by kernel_rfl,show K.ofInt 0*k14=K.ofInt 0 by kernel_rfl,show K.ofInt 3*k14=k34 by kernel_rfl,show K.ofInt 5*k14=k54 by kernel_rfl,←oN_k,←oN_k]
theorem CanA:PCall P 91 [aP.c] (.tup [cP.c,ci64 0]):=by
 have h:=Can_r aP (PN.raw_mono aP_raw (by decide)) aP_ok (fun h _ _=>by
  have:nSgn (oN 4)=0:=h
  rw[sg_o,show K.sgn (K.ofInt 4)=1 by kernel_rfl]at this
  exact absurd this (by decide))
 rw[can_a]at h
 exact h
theorem POfA:PCall P 75 [.agg [ci64 4,ci64 3,ci64 0],(oN 5).c] (.tup [aP.c,ci64 0]):=pOf0_p1 (oN_ok 5) (raw_oN (Nat.le_trans sz_5 (by decide))) (by decide) (by decide)
theorem SetC:PCall P 77 [cP.c] (.tup [.agg [ci64 4,ci64 3,ci64 0],(oN 5).c,ci64 0]):=set0_p3 one_zero one_zero (raw_kN (Nat.le_trans sz34 (by decide))) (by decide) (by decide)
theorem ROf_o(n:Int)(h: -9223372036854775808≤n∧n≤9223372036854775807):PCall P 40 [ci64 n] (oN n).c:=by rw[oN_eq];exact ROfN_spec n h
theorem Pr34:PCall P 120 [(kN k34).c] (cstr ⟨#[51,47,52]⟩):=by rw[kN_eq];exact p34_p1.eq (by kernel_rfl)
theorem Pr54:PCall P 120 [(kN k54).c] (cstr ⟨#[53,47,52]⟩):=by rw[kN_eq];exact p54_p1.eq (by kernel_rfl)
end Go.Fw
open Go IntKind
namespace Go.Fw
set_option maxRecDepth 100000
theorem awk5_p1(h1:(rnB aP.n.x (oV (4:Int) (0:Int) (3:Int)).x&&(rnB aP.n.y (oV (4:Int) (0:Int) (3:Int)).y&&(rnB aP.n.z (oV (4:Int) (0:Int) (3:Int)).z&&true)))=true)(h2:(rnB cP.n.x (oN (1:Int)))=true)(s2_0:(-9223372036854775808:Int)≤5∧(5:Int)≤9223372036854775807)(s42_0:(-9223372036854775808:Int)≤4∧(4:Int)≤9223372036854775807)(s42_1:(-9223372036854775808:Int)≤0∧(0:Int)≤9223372036854775807)(s42_2:(-9223372036854775808:Int)≤3∧(3:Int)≤9223372036854775807)(s49_0:(-9223372036854775808:Int)≤1∧(1:Int)≤9223372036854775807)(s72_0:(-9223372036854775808:Int)≤5∧(5:Int)≤9223372036854775807):PCall P 72 [] (.lit (.bool (rnB (oN (5:Int)) (oN (5:Int))))):=
 pcallT (.r 2 (ROf_o ((5:Int)) s2_0) (.r 3 (POfA) (.c (lq 40 40) (.r 11 (CanA) (.c (lq 40 40) (.r 19 (SetC) (.c (lq 3 3) (.c (lq 10 10) (.r 42 (V4Of_r ((4:Int)) ((0:Int)) ((3:Int)) s42_0 s42_1 s42_2) (.b 45 h1 (.r 49 (ROf_o ((1:Int)) s49_0) (.b 52 h2 (.r 56 (Pr34) (.r 62 (Pr54) (.r 72 (ROf_o ((5:Int)) s72_0) .nil))))))))))))))) (by kernel_rfl)
end Go.Fw
open Go IntKind
namespace Go.Fw
set_option maxRecDepth 100000
theorem thP_p1(p q r:VN)(h1:(p.ok)=true)(h2:(q.ok)=true)(h3:(r.ok)=true)(h4:(zV (wCross (wSub q p) (wSub r p)))=true)(s6_0:VN.raw 1000000 p=true)(s10_0:VN.raw 1000000 q=true)(s15_0:VN.raw 1000000 r=true)(s21_0:VN.raw 1000000 q=true)(s21_1:VN.raw 1000000 p=true)(s24_0:VN.raw 1000000 r=true)(s24_1:VN.raw 1000000 p=true)(s25_0:VN.raw 1000 (wSub q p)=true)(s25_1:VN.raw 1000 (wSub r p)=true):PCall P 94 [p.c,q.c,r.c] (.tup [zeroPl,.lit (.int .i64 11)]):=
 pcallT (.r 6 ((VVal (p) s6_0).eqB h1) (.r 10 ((VVal (q) s10_0).eqB h2) (.r 15 ((VVal (r) s15_0).eqB h3) (.r 21 (VSub_r (q) (p) s21_0 s21_1) (.r 24 (VSub_r (r) (p) s24_0 s24_1) (.r 25 (VCross_r (wSub q p) (wSub r p) s25_0 s25_1) (.c (lq 30 30) (.r 29 ((VZero_r (wCross (wSub q p) (wSub r p))).eqB h4) (.c (lq 40 40) .nil))))))))) (by kernel_rfl)
theorem thP_p2(p q r:VN)(h1:(p.ok)=true)(h2:(q.ok)=true)(h3:(r.ok)=true)(h4:(zV (wCross (wSub q p) (wSub r p)))=false)(s6_0:VN.raw 1000000 p=true)(s10_0:VN.raw 1000000 q=true)(s15_0:VN.raw 1000000 r=true)(s21_0:VN.raw 1000000 q=true)(s21_1:VN.raw 1000000 p=true)(s24_0:VN.raw 1000000 r=true)(s24_1:VN.raw 1000000 p=true)(s25_0:VN.raw 1000 (wSub q p)=true)(s25_1:VN.raw 1000 (wSub r p)=true)(s34_0:VN.raw 1000 (wCross (wSub q p) (wSub r p))=true)(s34_1:VN.raw 1000 p=true):PCall P 94 [p.c,q.c,r.c] (.tup [plR (wCross (wSub q p) (wSub r p)).x (wCross (wSub q p) (wSub r p)).y (wCross (wSub q p) (wSub r p)).z (wDot (wCross (wSub q p) (wSub r p)) p),.lit (.int .i64 0)]):=
 pcallT (.r 6 ((VVal (p) s6_0).eqB h1) (.r 10 ((VVal (q) s10_0).eqB h2) (.r 15 ((VVal (r) s15_0).eqB h3) (.r 21 (VSub_r (q) (p) s21_0 s21_1) (.r 24 (VSub_r (r) (p) s24_0 s24_1) (.r 25 (VCross_r (wSub q p) (wSub r p) s25_0 s25_1) (.c (lq 30 30) (.r 29 ((VZero_r (wCross (wSub q p) (wSub r p))).eqB h4) (.r 34 (VDot_r (wCross (wSub q p) (wSub r p)) (p) s34_0 s34_1) (.c (lq 40 40) .nil)))))))))) (by kernel_rfl)
theorem thP_p3(p q r:VN)(h1:(p.ok)=true)(h2:(q.ok)=true)(h3:(r.ok)=false)(s6_0:VN.raw 1000000 p=true)(s10_0:VN.raw 1000000 q=true)(s15_0:VN.raw 1000000 r=true):PCall P 94 [p.c,q.c,r.c] (.tup [zeroPl,.lit (.int .i64 1)]):=
 pcallT (.r 6 ((VVal (p) s6_0).eqB h1) (.r 10 ((VVal (q) s10_0).eqB h2) (.r 15 ((VVal (r) s15_0).eqB h3) (.c (lq 40 40) .nil)))) (by kernel_rfl)
theorem thP_p4(p q r:VN)(h1:(p.ok)=true)(h2:(q.ok)=false)(s6_0:VN.raw 1000000 p=true)(s10_0:VN.raw 1000000 q=true):PCall P 94 [p.c,q.c,r.c] (.tup [zeroPl,.lit (.int .i64 1)]):=
 pcallT (.r 6 ((VVal (p) s6_0).eqB h1) (.r 10 ((VVal (q) s10_0).eqB h2) (.c (lq 40 40) .nil))) (by kernel_rfl)
theorem thP_p5(p q r:VN)(h1:(p.ok)=false)(s6_0:VN.raw 1000000 p=true):PCall P 94 [p.c,q.c,r.c] (.tup [zeroPl,.lit (.int .i64 1)]):=
 pcallT (.r 6 ((VVal (p) s6_0).eqB h1) (.c (lq 40 40) .nil)) (by kernel_rfl)
theorem v4Z_p1(v:VN)(s3_0 s3_1 s3_2:(-9223372036854775808:Int)≤0∧(0:Int)≤9223372036854775807):PCall P 66 [v.c] (.lit (.bool (rnB v.x (oV (0:Int) (0:Int) (0:Int)).x&&(rnB v.y (oV (0:Int) (0:Int) (0:Int)).y&&(rnB v.z (oV (0:Int) (0:Int) (0:Int)).z&&true))))):=
 pcallT (.r 3 (V4Of_r ((0:Int)) ((0:Int)) ((0:Int)) s3_0 s3_1 s3_2) .nil) (by kernel_rfl)
end Go.Fw
open Go
namespace Go.Fw
set_option maxRecDepth 100000
theorem V4Zero_r(v:VN):PCall P 66 [v.c] (.lit (.bool (zV v))):=v4Z_p1 v (by decide) (by decide) (by decide)
noncomputable def thr(p q r:VN):PN×Int:=
 if p.ok&&(q.ok&&r.ok)then
  if zV (wCross (wSub q p) (wSub r p))then(.zero,11)else(⟨wCross (wSub q p) (wSub r p),wDot (wCross (wSub q p) (wSub r p)) p⟩,0)
 else(.zero,1)
theorem raw_wSub{v w:VN}{n:Nat}(hv:v.raw n=true)(hw:w.raw n=true):(wSub v w).raw (n+n+1)=true:=by
 refine ofV_raw ?_
 cases ev:toV v with
 |none=>exact Nat.zero_le _
 |some a=>
  cases ew:toV w with
  |none=>exact Nat.zero_le _
  |some b=>
   obtain⟨x,y,z⟩:=sz_toV ev hv
   obtain⟨x',y',z'⟩:=sz_toV ew hw
   have m1:=K.sz_sub a.x b.x
   have m2:=K.sz_sub a.y b.y
   have m3:=K.sz_sub a.z b.z
   show max (a.x-b.x).sz (max (a.y-b.y).sz (a.z-b.z).sz)≤n+n+1
   omega
theorem raw_wCross{v w:VN}{n:Nat}(hv:v.raw n=true)(hw:w.raw n=true):(wCross v w).raw (n+n+n+n+3)=true:=by
 refine ofV_raw ?_
 cases ev:toV v with
 |none=>exact Nat.zero_le _
 |some a=>
  cases ew:toV w with
  |none=>exact Nat.zero_le _
  |some b=>
   obtain⟨x,y,z⟩:=sz_toV ev hv
   obtain⟨x',y',z'⟩:=sz_toV ew hw
   have key: ∀c d e f:K,c.sz≤n→d.sz≤n→e.sz≤n→f.sz≤n→(c*d-e*f).sz≤n+n+n+n+3:=by
    intro c d e f h1 h2 h3 h4
    have m1:=K.sz_mul c d
    have m2:=K.sz_mul e f
    have m3:=K.sz_sub (c*d) (e*f)
    omega
   have k1:=key a.y b.z a.z b.y y z' z y'
   have k2:=key a.z b.x a.x b.z z x' x z'
   have k3:=key a.x b.y a.y b.x x y' y x'
   show max (a.y*b.z-a.z*b.y).sz (max (a.z*b.x-a.x*b.z).sz (a.x*b.y-a.y*b.x).sz)≤_
   omega
theorem thr_of {f : Nat} (p q r : VN) (hp : p.raw 20 = true) (hq : q.raw 20 = true) (hr : r.raw 20 = true)
    (h1:p.ok=true→q.ok=true→r.ok=true→zV (wCross (wSub q p) (wSub r p))=true→PCall P f [p.c,q.c,r.c] (.tup [zeroPl,ci64 11]))
    (h2:p.ok=true→q.ok=true→r.ok=true→zV (wCross (wSub q p) (wSub r p))=false→(wSub q p).raw 1000=true→(wSub r p).raw 1000=true→(wCross (wSub q p) (wSub r p)).raw 1000=true→
     PCall P f [p.c,q.c,r.c] (.tup [PN.c ⟨wCross (wSub q p) (wSub r p),wDot (wCross (wSub q p) (wSub r p)) p⟩,ci64 0]))
    (h3:p.ok=true→q.ok=true→r.ok=false→PCall P f [p.c,q.c,r.c] (.tup [zeroPl,ci64 1]))
    (h4:p.ok=true→q.ok=false→PCall P f [p.c,q.c,r.c] (.tup [zeroPl,ci64 1]))
    (h5:p.ok=false→PCall P f [p.c,q.c,r.c] (.tup [zeroPl,ci64 1])):PCall P f [p.c,q.c,r.c] (.tup [(thr p q r).1.c,ci64 (thr p q r).2]):=by
 have b1:=raw_wSub hq hp
 have b2:=raw_wSub hr hp
 have b3:=raw_wCross b1 b2
 unfold thr
 cases e1:p.ok
 · exact h5 e1
 · cases e2:q.ok
   · exact h4 e1 e2
   · cases e3:r.ok
     · exact h3 e1 e2 e3
     · cases e4:zV (wCross (wSub q p) (wSub r p))
       · exact h2 e1 e2 e3 e4 (VN.raw_mono b1 (by decide)) (VN.raw_mono b2 (by decide)) (VN.raw_mono b3 (by decide))
       · exact h1 e1 e2 e3 e4
theorem Through_r(p q r:VN)(hp:p.raw 20=true)(hq:q.raw 20=true)(hr:r.raw 20=true):PCall P 94 [p.c,q.c,r.c] (.tup [(thr p q r).1.c,ci64 (thr p q r).2]):=by
 have P1:=VN.raw_mono hp (show 20≤1000000 by decide)
 have Q1:=VN.raw_mono hq (show 20≤1000000 by decide)
 have R1:=VN.raw_mono hr (show 20≤1000000 by decide)
 have P2:=VN.raw_mono hp (show 20≤1000 by decide)
 have b1:=VN.raw_mono (raw_wSub hq hp) (show 20+20+1≤1000 by decide)
 have b2:=VN.raw_mono (raw_wSub hr hp) (show 20+20+1≤1000 by decide)
 exact thr_of p q r hp hq hr (fun e1 e2 e3 e4=>thP_p1 p q r e1 e2 e3 e4 P1 Q1 R1 Q1 P1 R1 P1 b1 b2) (fun e1 e2 e3 e4 k1 k2 k3=>thP_p2 p q r e1 e2 e3 e4 P1 Q1 R1 Q1 P1 R1 P1 k1 k2 k3 P2)
  (fun e1 e2 e3=>thP_p3 p q r e1 e2 e3 P1 Q1 R1) (fun e1 e2=>thP_p4 p q r e1 e2 P1 Q1) (fun e1=>thP_p5 p q r e1 P1)
end Go.Fw
open Go IntKind
namespace Go.Fw
set_option maxRecDepth 100000
theorem rwT_p1(x:RN)(h1:decide ((↑x.s0.size:Int)>10)=true):PCall P 74 [x.c,ci64 10] (.lit (.bool false)):=
 pcallT (.c (bq 0 4) (.b 15 h1 .nil)) (by kernel_rfl)
theorem rwT_p2(x:RN)(h1:decide ((↑x.s0.size:Int)>10)=false)(h2:decide ((↑x.s1.size:Int)>10)=true):PCall P 74 [x.c,ci64 10] (.lit (.bool false)):=
 pcallT (.c (bq 0 4) (.b 15 h1 (.c (bq 1 4) (.b 31 h2 .nil)))) (by kernel_rfl)
theorem rwT_p3(x:RN)(h1:decide ((↑x.s0.size:Int)>10)=false)(h2:decide ((↑x.s1.size:Int)>10)=false)(h3:decide ((↑x.s2.size:Int)>10)=true):PCall P 74 [x.c,ci64 10] (.lit (.bool false)):=
 pcallT (.c (bq 0 4) (.b 15 h1 (.c (bq 1 4) (.b 31 h2 (.c (bq 2 4) (.b 47 h3 .nil)))))) (by kernel_rfl)
theorem rwT_p4(x:RN)(h1:decide ((↑x.s0.size:Int)>10)=false)(h2:decide ((↑x.s1.size:Int)>10)=false)(h3:decide ((↑x.s2.size:Int)>10)=false)(h4:decide ((↑x.s3.size:Int)>10)=true):PCall P 74 [x.c,ci64 10] (.lit (.bool false)):=
 pcallT (.c (bq 0 4) (.b 15 h1 (.c (bq 1 4) (.b 31 h2 (.c (bq 2 4) (.b 47 h3 (.c (bq 3 4) (.b 63 h4 .nil)))))))) (by kernel_rfl)
theorem rwT_p5(x:RN)(h1:decide ((↑x.s0.size:Int)>10)=false)(h2:decide ((↑x.s1.size:Int)>10)=false)(h3:decide ((↑x.s2.size:Int)>10)=false)(h4:decide ((↑x.s3.size:Int)>10)=false):PCall P 74 [x.c,ci64 10] (.lit (.bool (decide ((↑x.s4.size:Int)≤10)))):=
 pcallT (.c (bq 0 4) (.b 15 h1 (.c (bq 1 4) (.b 31 h2 (.c (bq 2 4) (.b 47 h3 (.c (bq 3 4) (.b 63 h4 .nil)))))))) (by kernel_rfl)
end Go.Fw
open Go
namespace Go.Fw
set_option maxRecDepth 100000
theorem RRaw_t(x:RN):PCall P 74 [x.c,ci64 10] (.lit (.bool (x.raw 10))):=by
 have big: ∀{n:Nat},¬n≤10→decide ((n:Int)>10)=true:=fun h=>decide_eq_true (by omega)
 have sml: ∀{n:Nat},n≤10→decide ((n:Int)>10)=false:=fun h=>decide_eq_false (by omega)
 unfold RN.raw
 by_cases h0:x.s0.size≤10
 · by_cases h1:x.s1.size≤10
   · by_cases h2:x.s2.size≤10
     · by_cases h3:x.s3.size≤10
       · refine(rwT_p5 x (sml h0) (sml h1) (sml h2) (sml h3)).eqB ?_
         rw[decide_eq_true h0,decide_eq_true h1,decide_eq_true h2,decide_eq_true h3,Bool.true_and,Bool.true_and,Bool.true_and,Bool.true_and,decide_eq_decide]
         omega
       · refine(rwT_p4 x (sml h0) (sml h1) (sml h2) (big h3)).eqB ?_
         simp[h3]
     · refine(rwT_p3 x (sml h0) (sml h1) (big h2)).eqB ?_
       simp[h2]
   · refine(rwT_p2 x (sml h0) (big h1)).eqB ?_
     simp[h1]
 · refine(rwT_p1 x (big h0)).eqB ?_
   simp[h0]
theorem awake5:PCall P 72 [] (.lit (.bool true)):=by
 have h:=awk5_p1 (by show(rnB (oN 4) (oV 4 0 3).x&&(rnB (oN 0) (oV 4 0 3).y&&(rnB (oN 3) (oV 4 0 3).z&&true)))=true;rw[oV_x,oV_y,oV_z,rnB_iff.2 rfl,rnB_iff.2 rfl,rnB_iff.2 rfl];rfl) one_t (by decide) (by decide) (by decide) (by decide) (by decide) (by decide)
 rw[rnB_iff.2 rfl]at h
 exact h
end Go.Fw
open Go IntKind
namespace Go.Fw
set_option maxRecDepth 100000
theorem rvT_p1(v:VN)(h1:(RN.raw 10 v.x)=true)(h2:(RN.raw 10 v.y)=true)(h3:(RN.raw 10 v.z)=true):PCall P 90 [v.c,ci64 10] (.lit (.bool true)):=
 pcallT (.r 5 ((RRaw_t (v.x)).eqB h1) (.r 10 ((RRaw_t (v.y)).eqB h2) (.r 16 ((RRaw_t (v.z)).eqB h3) .nil))) (by kernel_rfl)
theorem rvT_p2(v:VN)(h1:(RN.raw 10 v.x)=true)(h2:(RN.raw 10 v.y)=true)(h3:(RN.raw 10 v.z)=false):PCall P 90 [v.c,ci64 10] (.lit (.bool false)):=
 pcallT (.r 5 ((RRaw_t (v.x)).eqB h1) (.r 10 ((RRaw_t (v.y)).eqB h2) (.r 16 ((RRaw_t (v.z)).eqB h3) .nil))) (by kernel_rfl)
theorem rvT_p3(v:VN)(h1:(RN.raw 10 v.x)=true)(h2:(RN.raw 10 v.y)=false):PCall P 90 [v.c,ci64 10] (.lit (.bool false)):=
 pcallT (.r 5 ((RRaw_t (v.x)).eqB h1) (.r 10 ((RRaw_t (v.y)).eqB h2) .nil)) (by kernel_rfl)
theorem rvT_p4(v:VN)(h1:(RN.raw 10 v.x)=false):PCall P 90 [v.c,ci64 10] (.lit (.bool false)):=
 pcallT (.r 5 ((RRaw_t (v.x)).eqB h1) .nil) (by kernel_rfl)
end Go.Fw
open Go
namespace Go.Fw
set_option maxRecDepth 100000
theorem VRaw_t(v:VN):PCall P 90 [v.c,ci64 10] (.lit (.bool (v.raw 10))):=by
 unfold VN.raw raw3
 cases h1:v.x.raw 10
 · exact rvT_p4 v h1
 · cases h2:v.y.raw 10
   · exact rvT_p3 v h1 h2
   · cases h3:v.z.raw 10
     · exact rvT_p2 v h1 h2 h3
     · exact rvT_p1 v h1 h2 h3
end Go.Fw
open Go
namespace Go.Fw
set_option maxRecDepth 100000
theorem RMul_x(a b:Int)(h:Two a b):PCall P 128 [intC a,intC b] (intC (a*b)):=by
 obtain⟨n,hn,ha,hb⟩:=h
 exact RMul_spec a b (ha.sml (by omega)) (hb.sml (by omega)) (ha.sm2 hb (by omega))
theorem RMulP_x(k:Nat)(b:Int)(h:Two k b):PCall P 128 [.agg [.lit (.bool false),.lit (.string (bytesOf k))],intC b] (intC (k*b)):=by
 have:=RMul_x k b h
 unfold intC at this ⊢
 rw[show decide ((k:Int)<0)=false from decide_eq_false (by omega)]at this
 exact this
theorem RAdd_x(a b:Int)(h:Two a b):PCall P 127 [intC a,intC b] (intC (a+b)):=by
 obtain⟨n,hn,ha,hb⟩:=h
 exact RAdd_spec a b (ha.sml (by omega)) (hb.sml (by omega)) (ha.sma hb (by omega))
theorem cmp_sign(a b:Int):(if a<b then(-1:Int)else if a=b then 0 else 1)=(a-b).sign:=by
 rcases Int.lt_trichotomy a b with h|h|h
 · rw[if_pos h,Int.sign_eq_neg_one_of_neg (by omega)]
 · rw[if_neg (by omega),if_pos h,h,Int.sub_self];rfl
 · rw[if_neg (by omega),if_neg (by omega),Int.sign_eq_one_of_pos (by omega)]
theorem RCmp_x(a b:Int)(h:Two a b):PCall P 213 [intC a,intC b] (ci64 (a-b).sign):=by
 obtain⟨n,hn,ha,hb⟩:=h
 rw[←cmp_sign]
 exact RCmp_spec a b (ha.sml (by omega)) (hb.sml (by omega))
end Go.Fw
