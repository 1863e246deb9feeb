/- A part of the proof that the law returns true for every input: an executor for the model's code, and what functions of the program compute. -/
import Derived.Test.YtcafjpldfnegiaaGreatDoorB11
import Derived.Test.YtcafjpldfnegiaaGreatDoorB15
import Derived.Test.YtcafjpldfnegiaaGreatDoorB20
import Derived.Test.YtcafjpldfnegiaaGreatDoorB35
import Derived.Test.YtcafjpldfnegiaaGreatDoorB40
import Derived.Test.YtcafjpldfnegiaaGreatDoorB41
import Derived.Test.YtcafjpldfnegiaaGreatDoorB42
import Derived.Test.YtcafjpldfnegiaaGreatDoorB43
import Derived.KernelRfl
open Go Go.RowKit Go.Shelf Go.Proofs
namespace Go.Fw
attribute [local go_sem] Oper.semAt_some
set_option maxRecDepth 100000
set_option maxHeartbeats 1000000
theorem zcI:Tryz.prog.cellsOf 99=40:=by kernel_rfl
theorem zdx{p:PN}{w:World}{b:Nat}{T:TypeId}(h:w.heap[b]?=some (.cells p.a T (0,0))):(Instr.loadAt 99 (.pointer (some ⟨b,0,none⟩))).run Tryz.prog w= .ok (.agg p.a) w:=
 z40 Tryz.underlying99 h (by rw[zcI,List.drop_zero,List.take_of_length_le (by rw[Array.length_toList,p.a_size];exact Nat.le_refl _)]) (by rw[zcI,p.a_size])
theorem zjT{p:PN}{w:World}{b:Nat}{T:TypeId}(h:w.heap[b]?=some (.cells p.a T (0,0))):(Instr.loadAt 51 (.pointer (some ⟨b,0,none⟩))).run Tryz.prog w= .ok (.agg (p.n.x.a++(p.n.y.a++p.n.z.a))) w:=
 z40 Tryz.underlying51 h (by rw[z7x];simp[PN.a,RN.a]) (by rw[z7x];simp[RN.a_size])
theorem PCall.flat1{f:FuncId}{c:CV}{a:Array Value}{v:Value}(h:PCall P f [c] (.lit v))(hc:c= .agg (a.toList.map .lit))(w:World):Calls P f #[.agg a] w fun e w'=>e= .returned v∧Below w.heap.size w w':=by
 refine(h (fun _=>none) w #[.agg a] (fun b cs hb=>by cases hb) ⟨_,_,rfl,by rw[hc];exact⟨_,rfl,z37 _ _⟩,rfl⟩).mono ?_
 rintro e w' ⟨y,v',I,rfl,rfl,hr,_,_,hb,_⟩
 exact⟨by rw[show y=v from hr],hb⟩
theorem ze3(p:PN):p.c= .agg (p.a.toList.map .lit):=by rw[←zag];rfl
noncomputable def can(p:PN):PN×Int:=
 if z0E p.n.x≠0 then(z3b p p.n.x,0)else if z0E p.n.y≠0 then(z3b p p.n.y,0)else if z0E p.n.z≠0 then(z3b p p.n.z,0)else(.zero,1)
abbrev RNk:={x:RN//x.raw 1000=true}
abbrev enS(x:RNk):Array Value:= #[.agg x.1.a]
theorem za4{F:Fence}{n id:Nat}{P:Program}{ops ra:Array Oper}{Q:Exit→Act→World→Prop}{a:Act}{w:World}(h:ra=ops)(hw:(Code.region id ra true).wpIn F n P Q a w):(Code.region id ops true).wpIn F n P Q a w:=h ▸ hw
theorem zrh {P : Program} {fn : Func} {i j : Nat} {t1 t2 : TypeId} (hf : fn.results.toList = [.cell i t1, .cell j t2]) {a : Array Value} {w : World} {p1 p2 : Addr} {v1 v2 : Value} (ha : a.getD i undef = .pointer (some p1)) (hb : a.getD j undef = .pointer (some p2))
    (h1:(loadVar t1 p1).run P w= .ok v1 w) (h2:(loadVar t2 p2).run P w= .ok v2 w):(results fn a).run P w= .ok (.tuple #[v1,v2]) w:=by
 refine z3y (P:=P) (fn:=fn) (a:=⟨a,[]⟩) (ys:=[v1,v2]) ?_
 rw[hf,List.mapM_cons,Sem.run_bind]
 simp only[ha,hb,List.mapM_cons,List.mapM_nil,Sem.run_bind,asAddr,Sem.run_pure,Result.andThen_ok,h1,h2]
theorem zgw{w:World}{b:Nat}{T:TypeId}{n:Int}(h:w.heap[b]?=some (.cells #[.int .i64 n] T (0,0))):(loadVar 24 ⟨b,0,none⟩).run Tryz.prog w= .ok (.int .i64 n) w:=by
 obtain⟨y,h1,_,h3⟩:=z3m (P:=Tryz.prog) (w:=w) (off:=0) (U:=24) h Tryz.underlying24 (by kernel_rfl:Tryz.prog.cellsOf 24=1) (l:=[.int .i64 n]) rfl rfl (fun _=>rfl)
 rw[h1,←(List.cons.inj (h3 rfl)).1]
theorem zez{p:PN}{w:World}{b:Nat}{T:TypeId}(h:w.heap[b]?=some (.cells p.a T (0,0))):(loadVar 99 ⟨b,0,none⟩).run Tryz.prog w= .ok (.agg p.a) w:=by
 have:=zdx h
 simpa[Instr.loadAt,Instr.sureAddr]using this
theorem zn0 (p : PN) (hp : p.raw 1000 = true) (hok : p.ok = true) (hnz : z0E p.n.x = 0 → z0E p.n.y = 0 → z0E p.n.z = 0 → False) (w : World) :
    CallsIn Fence.wide 6 Tryz.prog 91 #[.agg p.a] w fun e W'=>e= .returned (.tuple #[.agg (can p).1.a,.int .i64 (can p).2])∧Below w.heap.size w W':=by
 obtain⟨hpn,hpd⟩:=PN.raw_iff.1 hp
 obtain⟨hx,hy,hz⟩:=z0o.1 hpn
 have hV:=fun W=>callsIn_wide (n:=5).2 ((z2x p (PN.raw_iff.2 ⟨VN.raw_mono hpn (by decide),RN.raw_mono hpd (by decide)⟩)).flat1 (ze3 p) W)
 rw[hok]at hV
 have hS:=fun(u:RNk) (m:Nat) W=>callsIn_wide (n:=m).2 ((z0c u.1 (RN.raw_mono u.2 (by decide))).num W)
 obtain⟨A,hA⟩: ∃A,p.a=A:=⟨_,rfl⟩
 rw[hA]at hV ⊢
 obtain⟨Y,hY⟩: ∃Y,p.n.x.a++(p.n.y.a++p.n.z.a)=Y:=⟨_,rfl⟩
 refine callsIn_of_wp_marks Tryz.func91 rfl trivial ?_ rfl
 simp only[Tryz.ntmps91,List.size_toArray,List.length_cons,List.length_nil,Nat.reduceAdd,Nat.reduceSub,Array.replicate_succ,Array.replicate_zero,List.push_toArray,List.append_toArray,List.nil_append,List.cons_append]
 have hb: ∀Z:Array Value,(((w.alloc (.cells A 99)).alloc (.cells Z 99)).alloc (.cells #[.int .i64 0] 24)).heap[w.heap.size]?=some (.cells A 99 (0,0)):=fun Z=>
  (Below.heap_alloc _ _ _ (by simp;omega)).trans ((Below.heap_alloc _ _ _ (by simp)).trans (World.alloc_heap_new w _))
 have hb1: ∀Z:Array Value,(((w.alloc (.cells A 99)).alloc (.cells Z 99)).alloc (.cells #[.int .i64 0] 24)).heap[w.heap.size+1]?=some (.cells Z 99 (0,0)):=fun Z=>
  (Below.heap_alloc _ _ _ (by simp)).trans (by have:=World.alloc_heap_new (w.alloc (.cells A 99)) (.cells Z 99);rwa[World.size_alloc]at this)
 have hb2: ∀Z:Array Value,(((w.alloc (.cells A 99)).alloc (.cells Z 99)).alloc (.cells #[.int .i64 0] 24)).heap[w.heap.size+1+1]?=some (.cells #[.int .i64 0] 24 (0,0)):=fun Z=>by
  have:=World.alloc_heap_new ((w.alloc (.cells A 99)).alloc (.cells Z 99)) (.cells #[.int .i64 0] 24);rwa[World.size_alloc,World.size_alloc]at this
 have hB0: ∀Z:Array Value,Below w.heap.size w (((w.alloc (.cells A 99)).alloc (.cells Z 99)).alloc (.cells #[.int .i64 0] 24)):=fun Z=>(((Below.refl _ w).alloc (Nat.le_refl _) _).alloc (by simp) _).alloc (by simp;omega) _
 have hs0: ∀Z:Array Value,(((w.alloc (.cells A 99)).alloc (.cells Z 99)).alloc (.cells #[.int .i64 0] 24)).heap.size=w.heap.size+3:=fun Z=>by simp
 have hl:=fun Z=>zdx (p:=p) (by rw[hA];exact hb Z)
 rw[hA]at hl
 have hl51: ∀W:World,W.heap[w.heap.size]?=some (.cells A 99 (0,0))→(Instr.loadAt 51 (.pointer (some ⟨w.heap.size,0,none⟩))).run Tryz.prog W= .ok (.agg Y) W:=fun W h=>by rw[←hY];exact zjT (by rw[hA];exact h)
 gi_wp2_with (first|(refine⟨trivial,?_⟩;gi_at_call 79;refine(hV _).mono ?_;rintro e W1 ⟨rfl,hB1⟩;have q0:=(hB1.block w.heap.size (by rw[hs0];omega)).trans (hb _);have q1:=(hB1.block (w.heap.size+1) (by rw[hs0];omega)).trans (hb1 _);have q2:=(hB1.block (w.heap.size+1+1) (by rw[hs0];omega)).trans (hb2 _);have hBW:=(hB0 _).trans (hB1.mono (by rw[hs0];omega));have hsz:=hB1.size;rw[hs0]at hsz;have hl2:=hl51 _ q0;clear hB1 hl)|(refine⟨trivial,?_⟩;gi_at_call 168;refine(zfX Fence.wide 5 trivial rfl _ _).mono ?_;rintro e w' ⟨rfl,rfl⟩)|refine z0a rfl rfl rfl hl2 ?_|refine z0a rfl rfl rfl (hl _) ?_)
 clear hb hb1 hb2 hB0 hs0 hl51 hl2
 have Z1:W1.heap[w.heap.size+1]?=some (.cells PN.zero.a 99 (0,0)):=q1
 clear q1
 obtain⟨W0,hW0⟩: ∃W0,W1.alloc (.cells Y 51)=W0:=⟨_,rfl⟩
 have f0:W0.heap[w.heap.size]?=some (.cells A 99 (0,0)):=by rw[←hW0];exact(Below.heap_alloc _ _ _ (by omega)).trans q0
 have f1:W0.heap[w.heap.size+1]?=some (.cells PN.zero.a 99 (0,0)):=by rw[←hW0];exact(Below.heap_alloc _ _ _ (by omega)).trans Z1
 have f2:W0.heap[w.heap.size+1+1]?=some (.cells #[.int .i64 0] 24 (0,0)):=by rw[←hW0];exact(Below.heap_alloc _ _ _ (by omega)).trans q2
 have fY:W0.heap[W1.heap.size]?=some (.cells Y 51 (0,0)):=by rw[←hW0];exact World.alloc_heap_new W1 _
 have hB0:Below w.heap.size w W0:=by rw[←hW0];exact hBW.alloc (by omega) _
 have hs:W0.heap.size=W1.heap.size+1:=by rw[←hW0];simp
 rw[hW0]
 rw[←hY]at fY
 clear hW0
 refine wpIn_rangeFunc_ownH rfl (by decide) (gf:=221) (lb:= #[.pointer (some ⟨W1.heap.size,0,none⟩)]) rfl trivial (enters_of Tryz.func221 (by kernel_rfl) rfl)
  (z9p enS ⟨_,hx⟩ ⟨_,hy⟩ ⟨_,hz⟩ Fence.wide 5 trivial rfl (by decide) W1.heap.size W0.heap.size p.n.x p.n.y p.n.z W0 (by omega) (by omega) fY rfl rfl rfl) belowK_t (belowK_b (Nat.le_refl _)) (Below.refl _ _) (fun _=>rfl)
  (fun pre W=>((∀u∈pre,z0E u.1=0)∧W.heap[w.heap.size]?=some (.cells A 99 (0,0))∧W.heap[w.heap.size+1]?=some (.cells PN.zero.a 99 (0,0))∧W.heap[w.heap.size+1+1]?=some (.cells #[.int .i64 0] 24 (0,0)))∧Below W0.heap.size W0 W)
  (fun c pre W=>(c= .ret∧ ∃(q:List RNk) (u:RNk) (T T':TypeId),pre=q++[u]∧(∀u∈q,z0E u.1=0)∧z0E u.1≠0∧W.heap[w.heap.size+1]?=some (.cells (z3b p u.1).a T (0,0))∧W.heap[w.heap.size+1+1]?=some (.cells #[.int .i64 0] T' (0,0)))∧Below w.heap.size w W)
  (OwnFrom.and (OwnFrom.and (ownFrom_pure _ _) (OwnFrom.and (z1s _ _ (fun _=>A) 99) (OwnFrom.and (z1s _ _ (fun _=>PN.zero.a) 99) (z1s _ _ (fun _=> #[.int .i64 0]) 24)))) (ownFrom_below (Nat.le_refl _) (Nat.le_refl _)))
  (fun c=>OwnFrom.and (fun s X X' row h hg hr=>by
   obtain⟨hc,q,u,T,T',e1,e2,e3,e4,e5⟩:=h
   exact⟨hc,q,u,T,T',e1,e2,e3,z1s _ _ (fun(_:Unit)=>(z3b p u.1).a) T () X X' row e4 hg hr,z1s _ _ (fun(_:Unit)=> #[.int .i64 0]) T' () X X' row e5 hg hr⟩) (ownFrom_below (by omega) (by omega)))
  ⟨⟨by simp,f0,f1,f2⟩,Below.refl _ _⟩
  (fun x a' W=> ∃Bx,w.heap.size+1+1<Bx∧W.heap[Bx]?=some (.cells x.1.a 39 (0,0))∧a'={tmps:= #[.agg A,.pointer (some ⟨w.heap.size,0,none⟩),.pointer (some ⟨w.heap.size+1,0,none⟩),.pointer (some ⟨w.heap.size+1+1,0,none⟩),.pointer (some ⟨Bx,0,none⟩),undef,.agg A,.bool true,.bool false,undef,.pointer (some ⟨w.heap.size,0,none⟩),.agg Y,.func (.func 221) #[] #[.pointer (some ⟨W1.heap.size,0,none⟩)],.agg x.1.a,undef,undef,undef,undef,undef,undef,undef,undef,undef,undef,undef,undef,undef,undef,undef,undef,undef],defers:=[]})
  (fun x a' _ X X' row hs hg hr=>by obtain⟨Bx,e1,e2,e3⟩:=hs;exact⟨Bx,e1,z1s _ Bx (fun(_:Unit)=>x.1.a) 39 () X X' row e2 hg hr,e3⟩)
  ?assign ?body ?done ?stop
 case assign=>
  rintro l pre x W K ⟨⟨hp0,F0,F1,F2⟩,hB1⟩ hK
  dsimp only[enS]
  have hst:=z86 x.1 W #[.bool false,.string ⟨#[]⟩,.bool false,.string ⟨#[]⟩,.bool false,.string ⟨#[]⟩,.bool false,.string ⟨#[]⟩,.bool false,.string ⟨#[]⟩] rfl
  gi_wp2_with (refine z2C rfl rfl rfl rfl hst ?_)
  have al: ∀{k:Nat} {o:Obj},W.heap[k]?=some o→(W.alloc (.cells x.1.a 39)).heap[k]?=some o:=fun h=>(Below.heap_alloc W _ _ (Array.getElem?_eq_some_iff.1 h).1).trans h
  exact hK _ _ ((KeepsOthers.alloc _ _).from _) ((Below.refl _ W).alloc hB1.size _) ⟨⟨hp0,al F0,al F1,al F2⟩,hB1.alloc hB1.size _⟩ ⟨W.heap.size,(Array.getElem?_eq_some_iff.1 F2).1,World.alloc_heap_new W _,rfl⟩
 case body=>
  rintro l pre x a' W hl ⟨r,hr⟩ ⟨⟨hp0,F0,F1,F2⟩,hB1⟩ ⟨Bx,hBx,bX,rfl⟩ hlt
  have hld:=z9T bX
  have nd:(Fence.wide.inRound l).depth.isSome=true→1≤4:=fun h=>by cases h
  gi_wp2_with (refine z0a rfl rfl rfl hld ?_)
  refine⟨trivial,?_⟩
  refine(CallsIn.inRound l (hS x _ _)).mono ?_
  rintro e W2 ⟨rfl,hB2⟩
  dsimp only
  gi_step
  gi_step
  gi_step
  have k0:=(hB2.block _ (Array.getElem?_eq_some_iff.1 F0).1).trans F0
  have k1:=(hB2.block _ (Array.getElem?_eq_some_iff.1 F1).1).trans F1
  have k2:=(hB2.block _ (Array.getElem?_eq_some_iff.1 F2).1).trans F2
  have kx:=(hB2.block _ (Array.getElem?_eq_some_iff.1 bX).1).trans bX
  have hB3:=hB1.trans (hB2.mono hB1.size)
  have hB5:=hB0.trans (hB3.mono hB0.size)
  by_cases hk:z0E x.1=0
  · rw[show(z0E x.1 != 0)=false by rw[hk];rfl]
    gi_wp2
    exact⟨z2n hB2 _,hB2.mono hB1.size,⟨fun u hu=>(List.mem_append.1 hu).elim (hp0 u) (fun e=>by simp at e;subst e;exact hk),k0,k1,k2⟩,hB3⟩
  · rw[show(z0E x.1 != 0)=true by simp[hk]]
    rw[←hA]at k0
    gi_step
    gi_step
    gi_step
    gi_step
    gi_step
    gi_step
    refine za4 (ra:=zgO P 91 6) (by kernel_rfl) (wpIn_mono (zd5 p x.1 hp x.2 W2 _ _ _ Bx (by omega) (by omega) hBx k0 k1 k2 kx _ _ _ rfl rfl rfl) ?_)
    rintro e a1 W3 ⟨rfl,h7⟩
    gi_step
    gi_step
    gi_step
    refine za4 (ra:=zgO P 91 7) (by kernel_rfl) (wpIn_mono h7 ?_)
    rintro e a2 W4 ⟨rfl,hd2,hB4,hK4,⟨T,hP⟩,⟨T',hE⟩⟩
    gi_step
    gi_step
    gi_step
    gi_step
    exact⟨(z2n hB2 _).trans (hK4 _),⟨rfl,pre,x,T,T',rfl,hp0,hk,hP,hE⟩,hB5.trans hB4⟩
 case done=>
  rintro D zs W hD rfl ⟨⟨hp0,_⟩,_⟩ hK
  have q0:=hp0 ⟨_,hx⟩ (List.mem_cons_self ..)
  have q1:=hp0 ⟨_,hy⟩ (List.mem_cons_of_mem _ (List.mem_cons_self ..))
  have q2:=hp0 ⟨_,hz⟩ (List.mem_cons_of_mem _ (List.mem_cons_of_mem _ (List.mem_cons_self ..)))
  exact(hnz q0 q1 q2).elim
 case stop=>
  rintro D c pre W hD hpre ⟨⟨rfl,q,u,T,T',e1,e2,e3,e4,e5⟩,hB1⟩ hK
  have nD: ∀{k:Nat} {c:Array Value} {t:TypeId},W.heap[k]?=some (.cells c t (0,0))→(W.putObj D (.deferred none)).heap[k]?=some (.cells c t (0,0)):=fun {k c t} h=>
   ((grownBy_putObj' W D (.deferred none)).block k (Array.getElem?_eq_some_iff.1 h).1 (fun e=>by cases e;rw[hK]at h;cases h)).trans h
  gi_wp2
  refine⟨by simp,.inl ⟨_,_,rfl,run_takeDeferred hK,?_⟩⟩
  have hcan:can p=(z3b p u.1,0):=by
   rw[e1]at hpre
   unfold can
   match q,hpre,e2 with
   | [],hp,_=>
    have e:u=⟨p.n.x,hx⟩:=(List.cons_prefix_cons.1 hp).1
    subst e
    rw[if_pos e3]
   | [a],hp,h2=>
    obtain⟨ea,hp⟩:=List.cons_prefix_cons.1 hp
    have e:u=⟨p.n.y,hy⟩:=(List.cons_prefix_cons.1 hp).1
    have ha:=h2 a (List.mem_cons_self ..)
    subst e ea
    rw[if_neg (fun h=>h ha),if_pos e3]
   | [a,b],hp,h2=>
    obtain⟨ea,hp⟩:=List.cons_prefix_cons.1 hp
    obtain⟨eb,hp⟩:=List.cons_prefix_cons.1 hp
    have e:u=⟨p.n.z,hz⟩:=(List.cons_prefix_cons.1 hp).1
    have ha:=h2 a (List.mem_cons_self ..)
    have hb:=h2 b (List.mem_cons_of_mem _ (List.mem_cons_self ..))
    subst e ea eb
    rw[if_neg (fun h=>h ha),if_neg (fun h=>h hb),if_pos e3]
   |a::b::c::r,hp,_=>
    have:=hp.length_le
    simp at this
  rw[hcan]
  exact⟨_,zrh rfl rfl rfl (zez (nD e4)) (zgw (nD e5)),rfl,hB1.trans (belowK_b (w:=w) (Nat.le_refl _) W D _ _ (by have:=hB0.size;omega) hK rfl rfl)⟩
theorem PCall.of_calls{P:Program}{f:FuncId}{c v:CV}{x y:Value}(hc: ∀Im z,c.rep Im z→z=x)(hv: ∀Im,v.rep Im y)(h: ∀w,Calls P f #[x] w fun e w'=>e= .returned y∧Below w.heap.size w w'):PCall P f [c] v:=by
 intro Im w vs hIm hvs
 obtain⟨y0,ys,e1,hr,e2⟩:=hvs
 have e3:vs= #[x]:=by
  apply Array.ext'
  rw[e1,e2,hc _ _ hr]
 subst e3
 refine(h w).mono ?_
 rintro e w' ⟨rfl,hB⟩
 exact⟨y,v,Im,rfl,rfl,hv Im,Im.le_refl,(fun b cs hb=>by obtain⟨c,T,fz,k1,k2⟩:=hIm b cs hb;exact⟨c,T,fz,(hB.block b (Array.getElem?_eq_some_iff.1 k1).1).trans k1,k2⟩),hB,fun b hb=> .inl hb⟩
theorem zet{Im:Imm}(a:Array Value):(CV.agg (a.toList.map .lit)).rep Im (.agg a):=⟨_,rfl,z37 _ _⟩
theorem zck{Im:Imm}(a:Array Value)(z:Value)(h:(CV.agg (a.toList.map .lit)).rep Im z):z= .agg a:=by
 obtain⟨arr,rfl,hr⟩:=h
 rw[Array.ext' (z1K hr)]
theorem zpa{Im:Imm}(q:PN):q.c.rep Im (.agg q.a):=by
 rw[ze3]
 generalize q.a=a
 exact zet a
theorem zhB{Im:Imm}(q:PN)(z:Value)(h:q.c.rep Im z):z= .agg q.a:=by
 rw[ze3]at h
 generalize q.a=a at*
 exact zck a z h
theorem ziD{Im:Imm}(q:PN)(n:Int):(CV.tup [q.c,j6 n]).rep Im (.tuple #[.agg q.a,.int .i64 n]):=by
 have:=zpa (Im:=Im) q
 generalize q.c=c at*
 generalize q.a=a at*
 exact⟨_,rfl,_,_,rfl,this,_,_,rfl,rfl,rfl⟩
theorem zm9(p:PN)(hp:p.raw 1000=true)(hok:p.ok=true)(hnz:z0E p.n.x=0→z0E p.n.y=0→z0E p.n.z=0→False):PCall P 91 [p.c] (.tup [(can p).1.c,j6 (can p).2]):=
 PCall.of_calls (fun _ z h=>zhB p z h) (fun _=>ziD _ _) (fun w=>callsIn_wide.1 (zn0 p hp hok hnz w))
end Go.Fw
open Go IntKind
namespace Go.Fw
set_option maxRecDepth 100000
theorem p34_p1:PCall P 120 [n5C (3:Int) (0:Int) (0:Int) (0:Int) (4:Int)] (.lit (.string ({data:= #[]}++{data:= #[(51:UInt8)]}++({data:= #[(47:UInt8)]}++{data:= #[(52:UInt8)]})++{data:= #[]}))):=
 j4 (.r 3 (zrM) (.c (bq 0 4) (.c (lq 2 2) (.r 19 (p3S) (.r 25 (p3G) (.c (lq 2 2) (.r 29 (p3A) (.r 31 (p3O) (.r 35 (pO4) (.c (lq 2 2) (.c (lq 2 2) (.r 41 (p3S) (.r 49 (zr4) (.c (lq 2 2) (.r 67 (p3P) (.c (show(1:Int)≤9223372036854775807 from by decide) (.r 76 (pP4) (.c (show(2:Int)≤9223372036854775807 from by decide) (.c (show(3:Int)≤9223372036854775807 from by decide) (.r 82 (zhp) (.c (show(3:Int)≤9223372036854775807 from by decide) (.c (bq 1 4) (.c (lq 2 2) (.r 99 (pS0) (.c (bq 2 4) (.c (lq 2 2) (.r 116 (pS0) (.c (bq 3 4) (.c (lq 2 2) (.r 133 (pS0) .nil)))))))))))))))))))))))))))))) (by kernel_rfl)
theorem p54_p1:PCall P 120 [n5C (5:Int) (0:Int) (0:Int) (0:Int) (4:Int)] (.lit (.string ({data:= #[]}++{data:= #[(53:UInt8)]}++({data:= #[(47:UInt8)]}++{data:= #[(52:UInt8)]})++{data:= #[]}))):=
 j4 (.r 3 (zrr) (.c (bq 0 4) (.c (lq 2 2) (.r 19 (p5S) (.r 25 (p5G) (.c (lq 2 2) (.r 29 (p5A) (.r 31 (p5O) (.r 35 (pO4) (.c (lq 2 2) (.c (lq 2 2) (.r 41 (p5S) (.r 49 (zr4) (.c (lq 2 2) (.r 67 (p5P) (.c (show(1:Int)≤9223372036854775807 from by decide) (.r 76 (pP4) (.c (show(2:Int)≤9223372036854775807 from by decide) (.c (show(3:Int)≤9223372036854775807 from by decide) (.r 82 (zhp) (.c (show(3:Int)≤9223372036854775807 from by decide) (.c (bq 1 4) (.c (lq 2 2) (.r 99 (pS0) (.c (bq 2 4) (.c (lq 2 2) (.r 116 (pS0) (.c (bq 3 4) (.c (lq 2 2) (.r 133 (pS0) .nil)))))))))))))))))))))))))))))) (by kernel_rfl)
end Go.Fw
open Go
namespace Go.Fw
set_option maxRecDepth 100000
theorem zny(z:Int)(h: ¬K.sgn (K.ofInt z)<0)(h2: - -(K.ofInt z)=K.ofInt z):z8c (oN z)=oN z:=by
 unfold z8c
 rw[zoD,if_neg h,z2a,z87,z87,h2]
def k14:K:=⟨1,0,0,0,4,by decide,by decide⟩
theorem zqo:z7F (oN 4)=kN k14:=by
 unfold z7F
 rw[zny 4 (by rw[show K.sgn (K.ofInt 4)=1 by kernel_rfl];decide) (by kernel_rfl),z2a,z2a,z4N _ _ (by rw[show K.sgn (K.ofInt 4)=1 by kernel_rfl];decide),show K.div (K.ofInt 1) (K.ofInt 4)=k14 by kernel_rfl]
theorem zqm(x y z:K):toV ⟨kN x,kN y,kN z⟩=some ⟨x,y,z⟩:=by
 unfold toV
 rw[z0J,z0J,z0J]
theorem zat(x y z k:K):z05 ⟨kN x,kN y,kN z⟩ (kN k)=⟨kN (x*k),kN (y*k),kN (z*k)⟩:=by
 unfold z05
 rw[zqm,z0J,z1k,z1k,z1k]
 rfl
theorem zqx:can aP=(cP,0):=by
 unfold can
 rw[if_pos (by show z0E (oN 4)≠0;rw[zoD,show K.sgn (K.ofInt 4)=1 by kernel_rfl];decide)]
 show(z3b aP (oN 4),(0:Int))=_
 unfold z3b
 rw[zqo]
 unfold aP cP
 dsimp only
 rw[z2a,z2a,z2a,z2a,zat,z11,show K.ofInt 4*k14=K.ofInt 1 by kernel_rfl,show K.ofInt 0*k14=K.ofInt 0 by kernel_rfl,show K.ofInt 3*k14=k34 by kernel_rfl,show K.ofInt 5*k14=k54 by kernel_rfl,←z2a,←z2a]
theorem zrG:PCall P 91 [aP.c] (.tup [cP.c,j6 0]):=by
 have h:=zm9 aP (PN.raw_mono zmG (by decide)) zqd (fun h _ _=>by
  have:z0E (oN 4)=0:=h
  rw[zoD,show K.sgn (K.ofInt 4)=1 by kernel_rfl]at this
  exact absurd this (by decide))
 rw[zqx]at h
 exact h
theorem zrj:PCall P 75 [.agg [j6 4,j6 3,j6 0],(oN 5).c] (.tup [aP.c,j6 0]):=zjK (z9n 5) (z0K (Nat.le_trans zqc (by decide))) (by decide) (by decide)
theorem zrn:PCall P 77 [cP.c] (.tup [.agg [j6 4,j6 3,j6 0],(oN 5).c,j6 0]):=zjD z7o z7o (z2s (Nat.le_trans znX (by decide))) (by decide) (by decide)
theorem ziJ(n:Int)(h: -9223372036854775808≤n∧n≤9223372036854775807):PCall P 40 [j6 n] (oN n).c:=by rw[z9B];exact z3H n h
theorem zrm:PCall P 120 [(kN k34).c] (Z9 ⟨#[51,47,52]⟩):=by rw[z1k];exact p34_p1.eq (by kernel_rfl)
theorem zrf:PCall P 120 [(kN k54).c] (Z9 ⟨#[53,47,52]⟩):=by rw[z1k];exact p54_p1.eq (by kernel_rfl)
end Go.Fw
open Go IntKind
namespace Go.Fw
set_option maxRecDepth 100000
theorem zo5(x y:RN){R:CV→Prop}(hR:Ok P 158 (loopHead P 158 0) ⟨J3 45 [(2,.ptr 0 0),(3,.ptr (0+1) 0),(5,.ptr (0+1+1) 0),(12,.cv (.lit (.int .i64 0)))],[some [.cv (.lit (.bool x.b0)),.cv (.lit (.string x.s0)),.cv (.lit (.bool x.b1)),.cv (.lit (.string x.s1)),.cv (.lit (.bool x.b2)),.cv (.lit (.string x.s2)),.cv (.lit (.bool x.b3)),.cv (.lit (.string x.s3)),.cv (.lit (.bool x.b4)),.cv (.lit (.string x.s4))],some [.cv (.lit (.bool y.b0)),.cv (.lit (.string y.s0)),.cv (.lit (.bool y.b1)),.cv (.lit (.string y.s1)),.cv (.lit (.bool y.b2)),.cv (.lit (.string y.s2)),.cv (.lit (.bool y.b3)),.cv (.lit (.string y.s3)),.cv (.lit (.bool y.b4)),.cv (.lit (.string y.s4))],some [.cv (.lit (.bool false)),.cv (.lit (.string {data:= #[]})),.cv (.lit (.bool false)),.cv (.lit (.string {data:= #[]})),.cv (.lit (.bool false)),.cv (.lit (.string {data:= #[]})),.cv (.lit (.bool false)),.cv (.lit (.string {data:= #[]})),.cv (.lit (.bool false)),.cv (.lit (.string {data:= #[]}))]]⟩ (.of R)):X5 P 158 [x.c,y.c] R:=
 Y9 (keep:=[2,3,5,12]) (σ:=[0,1,2]) (.o 6 .stop .nil) (by kernel_rfl) rfl hR (.cons (by simp[CvL]) (.cons (by simp[CvL]) (.cons (by simp[CvL]) .nil)))
theorem zjS(x y:RN)(i:Int)(h1:decide (i<24)=true)(h2:(z0E (z6B (W7 x (kN (Y5 i))) (W7 y (kN (Y0 i))))==0)=true)(h3:decide (z0E (z6e (W7 x (kN (Y0 i))) (W7 y (kN (Y5 i))))>0)=true)(s15_0:RN.raw 1000000 x=true)(s15_1:RN.raw 1000000 (kN (Y5 i))=true)(s18_0:RN.raw 1000000 y=true)(s18_1:RN.raw 1000000 (kN (Y0 i))=true)(s19_0:RN.raw 1000000 (W7 x (kN (Y5 i)))=true)(s19_1:RN.raw 1000000 (W7 y (kN (Y0 i)))=true)(s24_0:RN.raw 1000000 x=true)(s24_1:RN.raw 1000000 (kN (Y0 i))=true)(s27_0:RN.raw 1000000 y=true)(s27_1:RN.raw 1000000 (kN (Y5 i))=true)(s28_0:RN.raw 1000000 (W7 x (kN (Y0 i)))=true)(s28_1:RN.raw 1000000 (W7 y (kN (Y5 i)))=true)(s32_0:RN.raw 1000000 (z6B (W7 x (kN (Y5 i))) (W7 y (kN (Y0 i))))=true)(s36_0:RN.raw 1000000 (z6e (W7 x (kN (Y0 i))) (W7 y (kN (Y5 i))))=true){R:Goal}(hR:R.c (.tup [.lit (.int .i64 i),RN.c (z6e (W7 x (kN (Y0 i))) (W7 y (kN (Y5 i)))),.lit (.bool true)])):Ok P 158 (loopHead P 158 0) ⟨J3 45 [(2,.ptr 0 0),(3,.ptr 1 0),(5,.ptr 2 0),(12,.cv (j6 i))],[some (own x.l),some (own y.l),some (own RN.zero.l)]⟩ R:=
 okT (.b 2 h1 (.r 6 (zbi (i)) (.r 8 (zaC (i)) (.c (lq 10 10) (.c (lq 10 10) (.r 15 (z0g (x) (kN (Y5 i)) s15_0 s15_1) (.r 18 (z0g (y) (kN (Y0 i)) s18_0 s18_1) (.r 19 (z9U (W7 x (kN (Y5 i))) (W7 y (kN (Y0 i))) s19_0 s19_1) (.c (lq 10 10) (.r 24 (z0g (x) (kN (Y0 i)) s24_0 s24_1) (.r 27 (z0g (y) (kN (Y5 i)) s27_0 s27_1) (.r 28 (z8A (W7 x (kN (Y0 i))) (W7 y (kN (Y5 i))) s28_0 s28_1) (.c (lq 10 10) (.r 32 (z0c (z6B (W7 x (kN (Y5 i))) (W7 y (kN (Y0 i)))) s32_0) (.b 34 h2 (.r 36 (z0c (z6e (W7 x (kN (Y0 i))) (W7 y (kN (Y5 i)))) s36_0) (.b 39 h3 (.c (lq 10 10) .nil)))))))))))))))))) (by kernel_rfl) hR
theorem ziO(x y:RN)(i:Int)(h1:decide (i<24)=true)(h2:(z0E (z6B (W7 x (kN (Y5 i))) (W7 y (kN (Y0 i))))==0)=true)(h3:decide (z0E (z6e (W7 x (kN (Y0 i))) (W7 y (kN (Y5 i))))>0)=false)(s15_0:RN.raw 1000000 x=true)(s15_1:RN.raw 1000000 (kN (Y5 i))=true)(s18_0:RN.raw 1000000 y=true)(s18_1:RN.raw 1000000 (kN (Y0 i))=true)(s19_0:RN.raw 1000000 (W7 x (kN (Y5 i)))=true)(s19_1:RN.raw 1000000 (W7 y (kN (Y0 i)))=true)(s24_0:RN.raw 1000000 x=true)(s24_1:RN.raw 1000000 (kN (Y0 i))=true)(s27_0:RN.raw 1000000 y=true)(s27_1:RN.raw 1000000 (kN (Y5 i))=true)(s28_0:RN.raw 1000000 (W7 x (kN (Y0 i)))=true)(s28_1:RN.raw 1000000 (W7 y (kN (Y5 i)))=true)(s32_0:RN.raw 1000000 (z6B (W7 x (kN (Y5 i))) (W7 y (kN (Y0 i))))=true)(s36_0:RN.raw 1000000 (z6e (W7 x (kN (Y0 i))) (W7 y (kN (Y5 i))))=true){R:Goal}(hn:J0 R.n [0,1,2]=true)(hR:Ok P 158 (loopHead P 158 0) ⟨J3 45 [(2,.ptr 0 0),(3,.ptr (0+1) 0),(5,.ptr (0+1+1) 0),(12,.cv (.lit (.int .i64 (i64.wrap (i+1)))))],[some (own [.lit (.bool x.b0),.lit (.string x.s0),.lit (.bool x.b1),.lit (.string x.s1),.lit (.bool x.b2),.lit (.string x.s2),.lit (.bool x.b3),.lit (.string x.s3),.lit (.bool x.b4),.lit (.string x.s4)]),some (own [.lit (.bool y.b0),.lit (.string y.s0),.lit (.bool y.b1),.lit (.string y.s1),.lit (.bool y.b2),.lit (.string y.s2),.lit (.bool y.b3),.lit (.string y.s3),.lit (.bool y.b4),.lit (.string y.s4)]),some (own [.lit (.bool false),.lit (.string RN.zero.s0),.lit (.bool false),.lit (.string RN.zero.s1),.lit (.bool false),.lit (.string RN.zero.s2),.lit (.bool false),.lit (.string RN.zero.s3),.lit (.bool false),.lit (.string RN.zero.s4)])]⟩ R):Ok P 158 (loopHead P 158 0) ⟨J3 45 [(2,.ptr 0 0),(3,.ptr 1 0),(5,.ptr 2 0),(12,.cv (j6 i))],[some (own x.l),some (own y.l),some (own RN.zero.l)]⟩ R:=
 z0W (keep:=[2,3,5,12]) (σ:=[0,1,2]) (.b 2 h1 (.r 6 (zbi (i)) (.r 8 (zaC (i)) (.c (lq 10 10) (.c (lq 10 10) (.r 15 (z0g (x) (kN (Y5 i)) s15_0 s15_1) (.r 18 (z0g (y) (kN (Y0 i)) s18_0 s18_1) (.r 19 (z9U (W7 x (kN (Y5 i))) (W7 y (kN (Y0 i))) s19_0 s19_1) (.c (lq 10 10) (.r 24 (z0g (x) (kN (Y0 i)) s24_0 s24_1) (.r 27 (z0g (y) (kN (Y5 i)) s27_0 s27_1) (.r 28 (z8A (W7 x (kN (Y0 i))) (W7 y (kN (Y5 i))) s28_0 s28_1) (.c (lq 10 10) (.r 32 (z0c (z6B (W7 x (kN (Y5 i))) (W7 y (kN (Y0 i)))) s32_0) (.b 34 h2 (.r 36 (z0c (z6e (W7 x (kN (Y0 i))) (W7 y (kN (Y5 i)))) s36_0) (.b 39 h3 (.o 42 .stop .nil)))))))))))))))))) (by kernel_rfl) rfl hn hR (.cons (j8 _) (.cons (j8 _) (.cons (j8 _) .nil)))
theorem zkX(x y:RN)(i:Int)(h1:decide (i<24)=true)(h2:(z0E (z6B (W7 x (kN (Y5 i))) (W7 y (kN (Y0 i))))==0)=false)(s15_0:RN.raw 1000000 x=true)(s15_1:RN.raw 1000000 (kN (Y5 i))=true)(s18_0:RN.raw 1000000 y=true)(s18_1:RN.raw 1000000 (kN (Y0 i))=true)(s19_0:RN.raw 1000000 (W7 x (kN (Y5 i)))=true)(s19_1:RN.raw 1000000 (W7 y (kN (Y0 i)))=true)(s24_0:RN.raw 1000000 x=true)(s24_1:RN.raw 1000000 (kN (Y0 i))=true)(s27_0:RN.raw 1000000 y=true)(s27_1:RN.raw 1000000 (kN (Y5 i))=true)(s28_0:RN.raw 1000000 (W7 x (kN (Y0 i)))=true)(s28_1:RN.raw 1000000 (W7 y (kN (Y5 i)))=true)(s32_0:RN.raw 1000000 (z6B (W7 x (kN (Y5 i))) (W7 y (kN (Y0 i))))=true){R:Goal}(hn:J0 R.n [0,1,2]=true)(hR:Ok P 158 (loopHead P 158 0) ⟨J3 45 [(2,.ptr 0 0),(3,.ptr (0+1) 0),(5,.ptr (0+1+1) 0),(12,.cv (.lit (.int .i64 (i64.wrap (i+1)))))],[some (own [.lit (.bool x.b0),.lit (.string x.s0),.lit (.bool x.b1),.lit (.string x.s1),.lit (.bool x.b2),.lit (.string x.s2),.lit (.bool x.b3),.lit (.string x.s3),.lit (.bool x.b4),.lit (.string x.s4)]),some (own [.lit (.bool y.b0),.lit (.string y.s0),.lit (.bool y.b1),.lit (.string y.s1),.lit (.bool y.b2),.lit (.string y.s2),.lit (.bool y.b3),.lit (.string y.s3),.lit (.bool y.b4),.lit (.string y.s4)]),some (own [.lit (.bool false),.lit (.string RN.zero.s0),.lit (.bool false),.lit (.string RN.zero.s1),.lit (.bool false),.lit (.string RN.zero.s2),.lit (.bool false),.lit (.string RN.zero.s3),.lit (.bool false),.lit (.string RN.zero.s4)])]⟩ R):Ok P 158 (loopHead P 158 0) ⟨J3 45 [(2,.ptr 0 0),(3,.ptr 1 0),(5,.ptr 2 0),(12,.cv (j6 i))],[some (own x.l),some (own y.l),some (own RN.zero.l)]⟩ R:=
 z0W (keep:=[2,3,5,12]) (σ:=[0,1,2]) (.b 2 h1 (.r 6 (zbi (i)) (.r 8 (zaC (i)) (.c (lq 10 10) (.c (lq 10 10) (.r 15 (z0g (x) (kN (Y5 i)) s15_0 s15_1) (.r 18 (z0g (y) (kN (Y0 i)) s18_0 s18_1) (.r 19 (z9U (W7 x (kN (Y5 i))) (W7 y (kN (Y0 i))) s19_0 s19_1) (.c (lq 10 10) (.r 24 (z0g (x) (kN (Y0 i)) s24_0 s24_1) (.r 27 (z0g (y) (kN (Y5 i)) s27_0 s27_1) (.r 28 (z8A (W7 x (kN (Y0 i))) (W7 y (kN (Y5 i))) s28_0 s28_1) (.c (lq 10 10) (.r 32 (z0c (z6B (W7 x (kN (Y5 i))) (W7 y (kN (Y0 i)))) s32_0) (.b 34 h2 (.o 42 .stop .nil)))))))))))))))) (by kernel_rfl) rfl hn hR (.cons (j8 _) (.cons (j8 _) (.cons (j8 _) .nil)))
theorem zkP(x y:RN)(i:Int)(h1:decide (i<24)=false){R:Goal}(hR:R.c (.tup [.lit (.int .i64 0),.agg z0b,.lit (.bool false)])):Ok P 158 (loopHead P 158 0) ⟨J3 45 [(2,.ptr 0 0),(3,.ptr 1 0),(5,.ptr 2 0),(12,.cv (j6 i))],[some (own x.l),some (own y.l),some (own RN.zero.l)]⟩ R:=
 okT (.b 2 h1 (.c (lq 10 10) .nil)) (by kernel_rfl) hR
end Go.Fw
open Go
namespace Go.Fw
set_option maxRecDepth 100000
noncomputable def zfn(x y:RN)(i:Int):RN:=z6B (W7 x (kN (Y5 i))) (W7 y (kN (Y0 i)))
noncomputable def zgu(x y:RN)(i:Int):RN:=z6e (W7 x (kN (Y0 i))) (W7 y (kN (Y5 i)))
noncomputable def z0z(x y:RN):Nat→Nat→Int×RN×Bool
 |0,_=>(0,.zero,false)
 |d+1,i=>if z0E (zfn x y i)=0 then(if z0E (zgu x y i)>0 then(i,zgu x y i,true)else z0z x y d (i+1))else z0z x y d (i+1)
theorem z5t(i:Int){n:Nat}(h:1≤n):(kN (Y0 i)).raw n=true:=z2s (Nat.le_trans (zm4 i) h)
theorem z5P(i:Int){n:Nat}(h:1≤n):(kN (Y5 i)).raw n=true:=z2s (Nat.le_trans (zo9 i) h)
theorem zje{x y:RN}{n:Nat}(i:Int)(h1:1≤n)(hx:x.raw n=true)(hy:y.raw n=true):(zfn x y i).raw (4*n+3)=true:=
 RN.raw_mono (ziF (z0r hx (z5P i h1)) (z0r hy (z5t i h1))) (by omega)
theorem zdi{x y:RN}{n:Nat}(i:Int)(h1:1≤n)(hx:x.raw n=true)(hy:y.raw n=true):(zgu x y i).raw (4*n+3)=true:=
 RN.raw_mono (zjE (z0r hx (z5t i h1)) (z0r hy (z5P i h1))) (by omega)
theorem z9X {R : Goal} (hn : J0 R.n [0, 1, 2] = true) (x y : RN) (hx : x.raw 1000 = true) (hy : y.raw 1000 = true) : ∀ (d i : Nat), i + d = 24 → R.c (.tup [j6 (z0z x y d i).1, (z0z x y d i).2.1.c, .lit (.bool (z0z x y d i).2.2)]) →
    Ok P 158 (loopHead P 158 0) ⟨J3 45 [(2,.ptr 0 0),(3,.ptr 1 0),(5,.ptr 2 0),(12,.cv (j6 i))],[some (own x.l),some (own y.l),some (own RN.zero.l)]⟩ R
 |0,i,hi,hR=>zkP x y i (decide_eq_false (by omega)) hR
 |d+1,i,hi,hR=>by
  have up: ∀{x:RN} {n:Nat},x.raw n=true→n≤1000000→x.raw 1000000=true:=fun h k=>RN.raw_mono h k
  have X:=up hx (by decide)
  have Y:=up hy (by decide)
  have C:=z5t i (n:=1000) (by decide)
  have S:=z5P i (n:=1000) (by decide)
  have C6:=up C (by decide)
  have S6:=up S (by decide)
  have a1:=up (z0r hx S) (by decide)
  have a2:=up (z0r hy C) (by decide)
  have a3:=up (z0r hx C) (by decide)
  have a4:=up (z0r hy S) (by decide)
  have a5:(zfn x y i).raw 1000000=true:=up (zje i (by decide) hx hy) (by decide)
  have a6:(zgu x y i).raw 1000000=true:=up (zdi i (by decide) hx hy) (by decide)
  have ih:=z9X hn x y hx hy d (i+1) (by omega)
  have w:IntKind.i64.wrap ((i:Int)+1)=((i+1:Nat):Int):=by rw[w64 (by omega)];omega
  unfold z0z at hR
  by_cases h2:z0E (zfn x y i)=0
  · rw[if_pos h2]at hR
    by_cases h3:z0E (zgu x y i)>0
    · rw[if_pos h3]at hR
      exact zjS x y i (decide_eq_true (by omega)) (beq_iff_eq.2 h2) (decide_eq_true h3) X S6 Y C6 a1 a2 X C6 Y S6 a3 a4 a5 a6 hR
    · rw[if_neg h3]at hR
      refine ziO x y i (decide_eq_true (by omega)) (beq_iff_eq.2 h2) (decide_eq_false h3) X S6 Y C6 a1 a2 X C6 Y S6 a3 a4 a5 a6 hn ?_
      rw[w]
      exact ih hR
  · rw[if_neg h2]at hR
    refine zkX x y i (decide_eq_true (by omega)) (by cases e:z0E (zfn x y i)==0;exact e;exact absurd (beq_iff_eq.1 e) h2) X S6 Y C6 a1 a2 X C6 Y S6 a3 a4 a5 hn ?_
    rw[w]
    exact ih hR
theorem zgP(x y:RN): ∃z,z=z0z x y 24 0:=⟨_,rfl⟩
noncomputable def z0e(x y:RN):Int×RN×Bool:=(zgP x y).choose
theorem z6J(x y:RN):z0e x y=z0z x y 24 0:=(zgP x y).choose_spec
theorem zbx(x y:RN)(hx:x.raw 1000=true)(hy:y.raw 1000=true):PCall P 158 [x.c,y.c] (.tup [j6 (z0e x y).1,(z0e x y).2.1.c,.lit (.bool (z0e x y).2.2)]):=by
 rw[z6J]
 exact U0 (zo5 x y (z9X rfl x y hx hy 24 0 rfl rfl))
end Go.Fw
open Go IntKind
namespace Go.Fw
set_option maxRecDepth 100000
theorem znE(h v i:Int)(h1:(decide (h<0))=true):PCall P 81 [.agg [j6 h,j6 v,j6 i]] (.lit (.bool false)):=
 j4 (.b 5 h1 .nil) (by kernel_rfl)
theorem zms(h v i:Int)(h1:(decide (h<0))=false)(h2:(decide (h>1000))=true):PCall P 81 [.agg [j6 h,j6 v,j6 i]] (.lit (.bool false)):=
 j4 (.b 5 h1 (.b 10 h2 .nil)) (by kernel_rfl)
theorem zpE(h v i:Int)(h1:(decide (h<0))=false)(h2:(decide (h>1000))=false)(h3:(decide (v<(-1000:Int)))=true):PCall P 81 [.agg [j6 h,j6 v,j6 i]] (.lit (.bool false)):=
 j4 (.b 5 h1 (.b 10 h2 (.b 15 h3 .nil))) (by kernel_rfl)
theorem zpo(h v i:Int)(h1:(decide (h<0))=false)(h2:(decide (h>1000))=false)(h3:(decide (v<(-1000:Int)))=false)(h4:(decide (v>1000))=true):PCall P 81 [.agg [j6 h,j6 v,j6 i]] (.lit (.bool false)):=
 j4 (.b 5 h1 (.b 10 h2 (.b 15 h3 (.b 20 h4 .nil)))) (by kernel_rfl)
theorem zmU(h v i:Int)(h1:(decide (h<0))=false)(h2:(decide (h>1000))=false)(h3:(decide (v<(-1000:Int)))=false)(h4:(decide (v>1000))=false)(h5:((↑(h.natAbs.gcd (if i64.wrap ((0:Int)-v)>v then i64.wrap ((0:Int)-v)else v).natAbs):Int) != 1)=true)(s29_0:(0:Int)≤h)(s29_1:(0:Int)≤if i64.wrap ((0:Int)-v)>v then i64.wrap ((0:Int)-v)else v):PCall P 81 [.agg [j6 h,j6 v,j6 i]] (.lit (.bool false)):=
 j4 (.b 5 h1 (.b 10 h2 (.b 15 h3 (.b 20 h4 (.r 29 (zlz (h) (if i64.wrap ((0:Int)-v)>v then i64.wrap ((0:Int)-v)else v) s29_0 s29_1) (.b 32 h5 .nil)))))) (by kernel_rfl)
theorem zn3(h v i:Int)(h1:(decide (h<0))=false)(h2:(decide (h>1000))=false)(h3:(decide (v<(-1000:Int)))=false)(h4:(decide (v>1000))=false)(h5:((↑(h.natAbs.gcd (if i64.wrap ((0:Int)-v)>v then i64.wrap ((0:Int)-v)else v).natAbs):Int) != 1)=false)(h6:(decide (i≥0))=true)(h7:(decide (i<24))=true)(h8:(h != 0)=true)(s29_0:(0:Int)≤h)(s29_1:(0:Int)≤if i64.wrap ((0:Int)-v)>v then i64.wrap ((0:Int)-v)else v):PCall P 81 [.agg [j6 h,j6 v,j6 i]] (.lit (.bool true)):=
 j4 (.b 5 h1 (.b 10 h2 (.b 15 h3 (.b 20 h4 (.r 29 (zlz (h) (if i64.wrap ((0:Int)-v)>v then i64.wrap ((0:Int)-v)else v) s29_0 s29_1) (.b 32 h5 (.b 36 h6 (.b 41 h7 (.b 45 h8 .nil))))))))) (by kernel_rfl)
theorem znI(h v i:Int)(h1:(decide (h<0))=false)(h2:(decide (h>1000))=false)(h3:(decide (v<(-1000:Int)))=false)(h4:(decide (v>1000))=false)(h5:((↑(h.natAbs.gcd (if i64.wrap ((0:Int)-v)>v then i64.wrap ((0:Int)-v)else v).natAbs):Int) != 1)=false)(h6:(decide (i≥0))=true)(h7:(decide (i<24))=true)(h8:(h != 0)=false)(s29_0:(0:Int)≤h)(s29_1:(0:Int)≤if i64.wrap ((0:Int)-v)>v then i64.wrap ((0:Int)-v)else v):PCall P 81 [.agg [j6 h,j6 v,j6 i]] (.lit (.bool (i==0))):=
 j4 (.b 5 h1 (.b 10 h2 (.b 15 h3 (.b 20 h4 (.r 29 (zlz (h) (if i64.wrap ((0:Int)-v)>v then i64.wrap ((0:Int)-v)else v) s29_0 s29_1) (.b 32 h5 (.b 36 h6 (.b 41 h7 (.b 45 h8 .nil))))))))) (by kernel_rfl)
theorem zp9(h v i:Int)(h1:(decide (h<0))=false)(h2:(decide (h>1000))=false)(h3:(decide (v<(-1000:Int)))=false)(h4:(decide (v>1000))=false)(h5:((↑(h.natAbs.gcd (if i64.wrap ((0:Int)-v)>v then i64.wrap ((0:Int)-v)else v).natAbs):Int) != 1)=false)(h6:(decide (i≥0))=true)(h7:(decide (i<24))=false)(s29_0:(0:Int)≤h)(s29_1:(0:Int)≤if i64.wrap ((0:Int)-v)>v then i64.wrap ((0:Int)-v)else v):PCall P 81 [.agg [j6 h,j6 v,j6 i]] (.lit (.bool false)):=
 j4 (.b 5 h1 (.b 10 h2 (.b 15 h3 (.b 20 h4 (.r 29 (zlz (h) (if i64.wrap ((0:Int)-v)>v then i64.wrap ((0:Int)-v)else v) s29_0 s29_1) (.b 32 h5 (.b 36 h6 (.b 41 h7 .nil)))))))) (by kernel_rfl)
theorem zoP(h v i:Int)(h1:(decide (h<0))=false)(h2:(decide (h>1000))=false)(h3:(decide (v<(-1000:Int)))=false)(h4:(decide (v>1000))=false)(h5:((↑(h.natAbs.gcd (if i64.wrap ((0:Int)-v)>v then i64.wrap ((0:Int)-v)else v).natAbs):Int) != 1)=false)(h6:(decide (i≥0))=false)(s29_0:(0:Int)≤h)(s29_1:(0:Int)≤if i64.wrap ((0:Int)-v)>v then i64.wrap ((0:Int)-v)else v):PCall P 81 [.agg [j6 h,j6 v,j6 i]] (.lit (.bool false)):=
 j4 (.b 5 h1 (.b 10 h2 (.b 15 h3 (.b 20 h4 (.r 29 (zlz (h) (if i64.wrap ((0:Int)-v)>v then i64.wrap ((0:Int)-v)else v) s29_0 s29_1) (.b 32 h5 (.b 36 h6 .nil))))))) (by kernel_rfl)
theorem zjP(x:K)(h1:((bytesOf x.c1.natAbs).toList==[])=true)(h2:((bytesOf x.c2.natAbs).toList==[])=true)(s3_0:Smk x):PCall P 218 [Y6 x] (.lit (.bool ((bytesOf x.c3.natAbs).toList==[]))):=
 j4 (.r 3 (U5 (x) s3_0) (.c (bq 1 4) (.b 11 h1 (.c (bq 2 4) (.b 18 h2 (.c (bq 3 4) .nil)))))) (by kernel_rfl)
theorem zjI(x:K)(h1:((bytesOf x.c1.natAbs).toList==[])=true)(h2:((bytesOf x.c2.natAbs).toList==[])=false)(s3_0:Smk x):PCall P 218 [Y6 x] (.lit (.bool false)):=
 j4 (.r 3 (U5 (x) s3_0) (.c (bq 1 4) (.b 11 h1 (.c (bq 2 4) (.b 18 h2 .nil))))) (by kernel_rfl)
theorem zk8(x:K)(h1:((bytesOf x.c1.natAbs).toList==[])=false)(s3_0:Smk x):PCall P 218 [Y6 x] (.lit (.bool false)):=
 j4 (.r 3 (U5 (x) s3_0) (.c (bq 1 4) (.b 11 h1 .nil))) (by kernel_rfl)
end Go.Fw
open Go
namespace Go.Fw
set_option maxRecDepth 100000
theorem zcU(a b:Int)(h:Two a b):PCall P 128 [J6 a,J6 b] (J6 (a*b)):=by
 obtain⟨n,hn,ha,hb⟩:=h
 exact z2w a b (ha.sml (by omega)) (hb.sml (by omega)) (ha.sm2 hb (by omega))
theorem z8T(k:Nat)(b:Int)(h:Two k b):PCall P 128 [.agg [.lit (.bool false),.lit (.string (bytesOf k))],J6 b] (J6 (k*b)):=by
 have:=zcU k b h
 unfold J6 at this ⊢
 rw[show decide ((k:Int)<0)=false from decide_eq_false (by omega)]at this
 exact this
theorem zpq(a b:Int)(h:Two a b):PCall P 127 [J6 a,J6 b] (J6 (a+b)):=by
 obtain⟨n,hn,ha,hb⟩:=h
 exact z89 a b (ha.sml (by omega)) (hb.sml (by omega)) (ha.sma hb (by omega))
theorem zfH(a b:Int):(if a<b then(-1:Int)else if a=b then 0 else 1)=(a-b).sign:=by
 rcases Int.lt_trichotomy a b with h|h|h
 · rw[if_pos h,Int.sign_eq_neg_one_of_neg (by omega)]
 · rw[if_neg (by omega),if_pos h,h,Int.sub_self];rfl
 · rw[if_neg (by omega),if_neg (by omega),Int.sign_eq_one_of_pos (by omega)]
theorem zow(a b:Int)(h:Two a b):PCall P 213 [J6 a,J6 b] (j6 (a-b).sign):=by
 obtain⟨n,hn,ha,hb⟩:=h
 rw[←zfH]
 exact zcn a b (ha.sml (by omega)) (hb.sml (by omega))
end Go.Fw
