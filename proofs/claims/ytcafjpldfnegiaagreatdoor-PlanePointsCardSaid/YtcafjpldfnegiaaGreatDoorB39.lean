/- A part of the proof that the law returns true for every input: an executor for the model's code, and what functions of the program compute. -/
import Derived.Test.YtcafjpldfnegiaaGreatDoorB11
import Derived.Test.YtcafjpldfnegiaaGreatDoorB15
import Derived.Test.YtcafjpldfnegiaaGreatDoorB28
import Derived.Test.YtcafjpldfnegiaaGreatDoorB36
import Derived.Test.YtcafjpldfnegiaaGreatDoorB37
import Derived.Test.YtcafjpldfnegiaaGreatDoorB38
import Derived.KernelRfl
open Go Go.ChangeMaps
namespace Go.Fw
set_option maxRecDepth 100000
def keepN:List Nat:=[0,1,2,3,4,10,11,21]
theorem reg5_ok {R : Goal} {k : List Item} {a n2 n3 n6 d key v : Int} {acc root : K} {r : Nat} {es : Array MapEntry} {seen : Array Nat} (hR : R.n = 0)
    (hv:v.natAbs<256) (hroot:PCall P 235 [ci64 key] (numC root)) (hsr:root.sz≤1) (hs:acc.sz<10000)
    (h:OkX P 190 k ⟨tmN a n2 n3 n6 d .unk .unk (ptrL r) .unk,hpN (acc+K.ofInt v*root)⟩ R (XI r es 3 seen)):
    OkX P 190 (.code reg5::k) ⟨tmN a n2 n3 n6 d (.cv (.lit (.int .i64 key))) (.cv (.lit (.int .i64 v))) (ptrL r) (.cv (.lit (.bool true))),hpN acc⟩ R (XI r es 3 seen):=by
 have hsv:(K.ofInt v).sz≤1:=K.sz_int v (Nat.le_refl _) (by omega)
 have hsm:=K.sz_mul (K.ofInt v) root
 have c1:PCall P 144 [ci64 v] (numC (K.ofInt v)):=FOf_spec v (by omega)
 have c2:PCall P 136 [numC (K.ofInt v),numC root] (numC (K.ofInt v*root)):=FMul_K _ _ (by omega)
 have c3:PCall P 137 [numC acc,numC (K.ofInt v*root)] (numC (acc+K.ofInt v*root)):=FAdd_K _ _ (by omega)
 have z1:CvL ZN:=CvL.map_cv (List.replicate 5 [CV.lit (.bool false),CV.lit (.string ⟨#[]⟩)]).flatten
 have z2:CvL (MV.cv (numC (acc+K.ofInt v*root))).cells:=CvL.map_cv _
 exact OkX.regS (ors:=[(2,.r (numC (K.ofInt v))),(4,.r (numC root)),(5,.r (numC (K.ofInt v*root))),(6,.r (numC (acc+K.ofInt v*root)))]) keepN [0,1]
  (by kernel_rfl) rfl (.cons c1 (.cons hroot (.cons c2 (.cons c3 (.cons (show 10≤10 by decide) (.cons z1 (.cons z2 .nil))))))) rfl rfl hR h
def rest190(n2 n3 n6:Int)(seen:Array Nat):K:=
 (if seen.contains 0 then K.ofInt 0 else K.ofInt n2*K.r2)+(if seen.contains 1 then K.ofInt 0 else K.ofInt n3*K.r3)+(if seen.contains 2 then K.ofInt 0 else K.ofInt n6*K.r6)
theorem rest_done{n2 n3 n6:Int}{seen:Array Nat}(h:(leftOf (es190 n2 n3 n6) seen).size=0)(acc:K):acc+rest190 n2 n3 n6 seen=acc:=by
 have:=all_seen _ _ h
 have h0:seen.contains 0=true:=this ⟨.int .i64 2,.int .i64 n2,0⟩ (by simp[es190])
 have h1:seen.contains 1=true:=this ⟨.int .i64 3,.int .i64 n3,1⟩ (by simp[es190])
 have h2:seen.contains 2=true:=this ⟨.int .i64 6,.int .i64 n6,2⟩ (by simp[es190])
 unfold rest190
 rw[h0,h1,h2]
 exact(show ∀ρ:Nat→K,ρ 0+(CR.ofInt 0+CR.ofInt 0+CR.ofInt 0)=ρ 0 from fun ρ=>CR.ring ρ rfl) (CR.vr [acc])
theorem rest_push {n2 n3 n6 : Int} {seen : Array Nat} {acc : K} :
    (seen.contains 0=false→acc+K.ofInt n2*K.r2+rest190 n2 n3 n6 (seen.push 0)=acc+rest190 n2 n3 n6 seen)∧
    (seen.contains 1=false→acc+K.ofInt n3*K.r3+rest190 n2 n3 n6 (seen.push 1)=acc+rest190 n2 n3 n6 seen)∧
    (seen.contains 2=false→acc+K.ofInt n6*K.r6+rest190 n2 n3 n6 (seen.push 2)=acc+rest190 n2 n3 n6 seen):=by
 unfold rest190
 simp only[contains_push]
 refine⟨fun h=>?_,fun h=>?_,fun h=>?_⟩
 · rw[h,show(1==0:Bool)=false from rfl,show(2==0:Bool)=false from rfl,show(0==0:Bool)=true from rfl,Bool.or_false,Bool.or_false,Bool.or_true]
   exact(show ∀ρ:Nat→K,ρ 0+ρ 1+(CR.ofInt 0+ρ 2+ρ 3)=ρ 0+(ρ 1+ρ 2+ρ 3)from fun ρ=>CR.ring ρ rfl) (CR.vr [acc,_,_,_])
 · rw[h,show(0==1:Bool)=false from rfl,show(2==1:Bool)=false from rfl,show(1==1:Bool)=true from rfl,Bool.or_false,Bool.or_false,Bool.or_true]
   exact(show ∀ρ:Nat→K,ρ 0+ρ 2+(ρ 1+CR.ofInt 0+ρ 3)=ρ 0+(ρ 1+ρ 2+ρ 3)from fun ρ=>CR.ring ρ rfl) (CR.vr [acc,_,_,_])
 · rw[h,show(0==2:Bool)=false from rfl,show(1==2:Bool)=false from rfl,show(2==2:Bool)=true from rfl,Bool.or_false,Bool.or_false,Bool.or_true]
   exact(show ∀ρ:Nat→K,ρ 0+ρ 3+(ρ 1+ρ 2+CR.ofInt 0)=ρ 0+(ρ 1+ρ 2+ρ 3)from fun ρ=>CR.ring ρ rfl) (CR.vr [acc,_,_,_])
theorem loop190_ok {R : Goal} {k : List Item} {a n2 n3 n6 d : Int} {tot : K} (hR : R.n = 0) (h2 : n2.natAbs < 256) (h3 : n3.natAbs < 256) (h6 : n6.natAbs < 256)
    (hk:Ok P 190 k ⟨tmN a n2 n3 n6 d .unk .unk .unk .unk,hpN tot⟩ R): ∀(n:Nat) (seen:Array Nat) (acc:K) (r:Nat),(leftOf (es190 n2 n3 n6) seen).size=n→acc+rest190 n2 n3 n6 seen=tot→acc.sz+10*n<1000→
     OkX P 190 (.code loop190:: .inLoop loop190:: .inBlock 0::k) ⟨tmN a n2 n3 n6 d .unk .unk (ptrL r) .unk,hpN acc⟩ R (XI r (es190 n2 n3 n6) 3 seen):=by
 intro n
 induction n using Nat.strongRecOn with
 |ind n ih=>
 intro seen acc r hn ht hs
 show OkX P 190 (.code (.seq reg3 (.seq (.cond (.tmp 23) .skip (.exit 0)) (.block 1 (.seq reg4 reg5))))::_) _ _ _
 refine OkX.step ?_ (fun b a cs w=>step_seq)
 intro w0 I p act w b cs q1 q2 q3 q31 q32 q4 q5 q6
 obtain⟨bm,m1,m2,m3⟩:=q6.m
 have hst: ∀x∈(es190 n2 n3 n6).toList,x.born<3:=by simp[es190]
 have hnd:((es190 n2 n3 n6).toList.map (·.born)).Nodup:=by simp[es190]
 rcases run_next_at (P:=P) w 0 r bm 3 3 seen (es190 n2 n3 n6) 3 m2 m1 hst (Nat.le_refl _)with⟨h0,hrun⟩|⟨e,he,w1,hal,hrun⟩
 · obtain⟨a',hrel,hst⟩:=loop_none (k:= .code (.seq (.cond (.tmp 23) .skip (.exit 0)) (.block 1 (.seq reg4 reg5))):: .inLoop loop190:: .inBlock 0::k) w0 I p act w q4 (fun ty=>hrun) b cs
   rw[←ht,rest_done h0]at hk
   have z1:CvL ZN:=CvL.map_cv (List.replicate 5 [CV.lit (.bool false),CV.lit (.string ⟨#[]⟩)]).flatten
   have z2:CvL (MV.cv (numC acc)).cells:=CvL.map_cv _
   have hfin:Ok P 190 (.code (.seq (.cond (.tmp 23) .skip (.exit 0)) (.block 1 (.seq reg4 reg5))):: .inLoop loop190:: .inBlock 0::k) ⟨tmN a n2 n3 n6 d .unk .unk (ptrL r) (.cv (.lit (.bool false))),hpN acc⟩ R:=by
    refine Ok.step ?_ (fun b a cs w=>step_seq)
    refine Ok.cond (t:=false) (d:=false) rfl rfl ?_
    refine Ok.step (todo':=k) ?_ (fun b a cs w=>step_exit (by rfl))
    exact Ok.sel [0,1,2,3,4,10,11] [0,1] rfl (by rw[hR];rfl) (show AllP [CvL ZN,CvL (MV.cv (numC acc)).cells]from⟨z1,z2⟩) hk
   obtain⟨e,w',fr,k1,k2,k3⟩:=hfin w0 I p a' w b cs q1 q2 q3 q31 q32 hrel q5
   exact⟨e,w',fr,k1,.of_steps hst k2,k3⟩
 · obtain ⟨a', w', hrel, hX, hst⟩ := loop_some (_R := R) (k := .code (.seq (.cond (.tmp 23) .skip (.exit 0)) (.block 1 (.seq reg4 reg5))) :: .inLoop loop190 :: .inBlock 0 :: k) w0 I p act w w1 q4 q6 hal (fun ty bm' g1 g2 => by
     rw[m2]at g2;cases g2;exact hrun) b cs
   have hem:=(mem_left he).1
   have hsh:=left_shrinks (es190 n2 n3 n6) seen e he
   have hns:=(mem_left he).2
   have step5 : ∀ {key v : Int} {root : K}, e.key = .int .i64 key → e.val = .int .i64 v → v.natAbs < 256 → PCall P 235 [ci64 key] (numC root) → root.sz ≤ 1 → acc + K.ofInt v * root + rest190 n2 n3 n6 (seen.push e.born) = tot →
       OkX P 190 (.code (.seq (.cond (.tmp 23) .skip (.exit 0)) (.block 1 (.seq reg4 reg5))):: .inLoop loop190:: .inBlock 0::k) ⟨tmN a n2 n3 n6 d .unk .unk (ptrL r) (.cv (.lit (.bool true))),hpN acc⟩ R (XI r (es190 n2 n3 n6) 3 (seen.push e.born)):=by
    intro key v root hk1 hv1 hv2 hr1 hr2 hr3
    refine OkX.step ?_ (fun b a cs w=>step_seq)
    refine OkX.cond (t:=true) (d:=true) rfl rfl ?_
    refine OkX.step ?_ (fun b a cs w=>step_skip)
    refine OkX.step ?_ (fun b a cs w=>step_block)
    refine OkX.step ?_ (fun b a cs w=>step_seq)
    refine reg4_ok hem hnd ?_
    rw[hk1,hv1]
    refine reg5_ok hR hv2 hr1 hr2 (by omega) ?_
    refine OkX.step ?_ (fun b a cs w=>step_inBlock)
    refine OkX.step ?_ (fun b a cs w=>step_inLoop)
    have hsv:(K.ofInt v).sz≤1:=K.sz_int v (Nat.le_refl _) (by omega)
    have hsm:=K.sz_mul (K.ofInt v) root
    have hsa:=K.sz_add acc (K.ofInt v*root)
    exact ih _ (hn ▸ hsh) (seen.push e.born) _ r rfl hr3 (by omega)
   have hall:OkX P 190 (.code (.seq (.cond (.tmp 23) .skip (.exit 0)) (.block 1 (.seq reg4 reg5))):: .inLoop loop190:: .inBlock 0::k) ⟨tmN a n2 n3 n6 d .unk .unk (ptrL r) (.cv (.lit (.bool true))),hpN acc⟩ R (XI r (es190 n2 n3 n6) 3 (seen.push e.born)):=by
    have hcase:e=⟨.int .i64 2,.int .i64 n2,0⟩∨e=⟨.int .i64 3,.int .i64 n3,1⟩∨e=⟨.int .i64 6,.int .i64 n6,2⟩:=by simpa[es190]using hem
    rcases hcase with rfl|rfl|rfl
    · exact step5 rfl rfl h2 FRoot_2 (by decide) ((rest_push.1 hns).trans ht)
    · exact step5 rfl rfl h3 FRoot_3 (by decide) ((rest_push.2.1 hns).trans ht)
    · exact step5 rfl rfl h6 FRoot_6 (by decide) ((rest_push.2.2 hns).trans ht)
   obtain⟨e,w',fr,k1,k2,k3⟩:=hall w0 I p a' w' b cs q1 q2 q3 q31 q32 hrel q5 hX
   exact⟨e,w',fr,k1,.of_steps hst k2,k3⟩
end Go.Fw
open Go Go.ChangeMaps
namespace Go.Fw
set_option maxRecDepth 100000
def q190(a n2 n3 n6:Int):K:=K.ofInt a+(K.ofInt n2*K.r2+K.ofInt n3*K.r3+K.ofInt n6*K.r6)
theorem number_spec (a n2 n3 n6 d : Int) (ha : a.natAbs < 256) (h2 : n2.natAbs < 256) (h3 : n3.natAbs < 256) (h6 : n6.natAbs < 256) (hd : d.natAbs < 256) (hd0 : K.ofInt d ≠ 0) :
    PCall P 190 [ci64 a,ci64 n2,ci64 n3,ci64 n6,ci64 d] (numC (K.div (q190 a n2 n3 n6) (K.ofInt d))):=by
 have hsz: ∀v:Int,v.natAbs<256→(K.ofInt v).sz≤1:=fun v hv=>K.sz_int v (Nat.le_refl _) (by omega)
 have z1:CvL ZN:=CvL.map_cv (List.replicate 5 [CV.lit (.bool false),CV.lit (.string ⟨#[]⟩)]).flatten
 have z2:CvL (MV.cv (numC (K.ofInt a))).cells:=CvL.map_cv _
 have c1:PCall P 144 [ci64 a] (numC (K.ofInt a)):=FOf_spec a (by omega)
 have c2:PCall P 144 [ci64 d] (numC (K.ofInt d)):=FOf_spec d (by omega)
 have sm:=fun(v:Int) (w:K) (hv:v.natAbs<256) (hw:w.sz≤1)=>Nat.le_trans (K.sz_mul (K.ofInt v) w) (Nat.add_le_add_right (Nat.add_le_add (hsz v hv) hw) 1)
 have t2:=sm n2 K.r2 h2 (show K.r2.sz≤1 by decide)
 have t3:=sm n3 K.r3 h3 (show K.r3.sz≤1 by decide)
 have t6:=sm n6 K.r6 h6 (show K.r6.sz≤1 by decide)
 have u1:=K.sz_add (K.ofInt n2*K.r2) (K.ofInt n3*K.r3)
 have u2:=K.sz_add (K.ofInt n2*K.r2+K.ofInt n3*K.r3) (K.ofInt n6*K.r6)
 have u3:=K.sz_add (K.ofInt a) (K.ofInt n2*K.r2+K.ofInt n3*K.r3+K.ofInt n6*K.r6)
 have ua:=hsz a ha
 have ud:=hsz d hd
 have hs:(q190 a n2 n3 n6).sz≤100:=by unfold q190;omega
 have c3:PCall P 147 [numC (q190 a n2 n3 n6),numC (K.ofInt d)] (.tup [numC (K.div (q190 a n2 n3 n6) (K.ofInt d)),ci64 0]):=FDiv_K _ _ hd0 (by omega)
 refine pcallQ_of_ok (todo:=[.code body190]) (s:=⟨([ci64 a,ci64 n2,ci64 n3,ci64 n6,ci64 d].map .cv)++List.replicate 37 undefM,[]⟩) (rs:=_) rfl ?_
 rw[body190_eq]
 refine Ok.step ?_ (fun b a cs w=>step_seq)
 refine Ok.regS (s':=⟨(([ci64 a,ci64 n2,ci64 n3,ci64 n6,ci64 d].map MV.cv)++List.replicate 5 .unk++[.ptr 0 0]++List.replicate 31 .unk),[some ZN]⟩) (ors:=[]) [0,1,2,3,4,10] [0] (by kernel_rfl) rfl (.cons z1 .nil) rfl ?_
 refine Ok.step ?_ (fun b a cs w=>step_seq)
 refine Ok.regS (s':=⟨tmN a n2 n3 n6 d .unk .unk .unk .unk,hpN (K.ofInt a)⟩) (ors:=[(1,.r (numC (K.ofInt a)))]) [0,1,2,3,4,10,11] [0,2] (by kernel_rfl) rfl (.cons c1 (.cons (show 10≤10 by decide) (.cons z1 (.cons z2 .nil)))) rfl ?_
 refine Ok.step ?_ (fun b a cs w=>step_seq)
 refine Ok.step ?_ (fun b a cs w=>step_seq)
 refine reg2_ok rfl (fun r=>?_)
 refine OkX.step ?_ (fun b a cs w=>step_block)
 refine OkX.step ?_ (fun b a cs w=>step_loop)
 refine loop190_ok (tot:=q190 a n2 n3 n6) rfl h2 h3 h6 ?_ 3 #[] (K.ofInt a) r (by simp[leftOf,es190]) (by simp[rest190,q190]) (by omega)
 exact okR (ors:=[(2,.r (numC (K.ofInt d))),(3,.r (.tup [numC (K.div (q190 a n2 n3 n6) (K.ofInt d)),ci64 0]))]) (by kernel_rfl) (.cons c2 (.cons c3 (.cons (show 10≤10 by decide) (.cons (show 10≤10 by decide) .nil)))) rfl
end Go.Fw
open Go
namespace Go.Fw
set_option maxRecDepth 100000
def cos6(i:Nat):K:=
 match i with
 |0=>⟨1,0,0,0,1,by decide,by decide⟩
 |1=>⟨0,1,0,1,4,by decide,by decide⟩
 |2=>⟨0,0,1,0,2,by decide,by decide⟩
 |3=>⟨0,1,0,0,2,by decide,by decide⟩
 |4=>⟨1,0,0,0,2,by decide,by decide⟩
 |5=>⟨0,-1,0,1,4,by decide,by decide⟩
 |_=>⟨0,0,0,0,1,by decide,by decide⟩
theorem kq(x y:K)(h0:x.c0=y.c0)(h1:x.c1=y.c1)(h2:x.c2=y.c2)(h3:x.c3=y.c3)(h4:x.d=y.d):numC x=numC y:=n5C_eq h0 h1 h2 h3 h4
theorem quart {i a b c e d : Int} {v : CV} (h : PCall P 190 [ci64 a, ci64 b, ci64 c, ci64 e, ci64 d] v) (hi : 0 ≤ i ∧ i < 7)
    (hrun:runF P 122 [ci64 i] [(26,.r v)] false 100000= .ret v [35≤35,0≤i∧i<7,5≤5,(0:Int)≤0∧(0:Int)<5,(0:Int)≤1∧(1:Int)<5,(0:Int)≤2∧(2:Int)<5,(0:Int)≤3∧(3:Int)<5,(0:Int)≤4∧(4:Int)<5,PCall P 190 [ci64 a,ci64 b,ci64 c,ci64 e,ci64 d] v,10≤10]):PCall P 122 [ci64 i] v:=
 pcallR hrun (.cons (by decide) (.cons hi (.cons (by decide) (.cons (by decide) (.cons (by decide) (.cons (by decide) (.cons (by decide) (.cons (by decide) (.cons h (.cons (by decide) .nil))))))))))
theorem quarter_0:PCall P 122 [ci64 0] (numC (cos6 0)):=quart ((number_spec (1) (0) (0) (0) (1) (by decide) (by decide) (by decide) (by decide) (by decide) (by decide)).eq (kq _ (cos6 0) (by decide) (by decide) (by decide) (by decide) (by decide))) (by decide) (by kernel_rfl)
theorem quarter_1:PCall P 122 [ci64 1] (numC (cos6 1)):=quart ((number_spec (0) (1) (0) (1) (4) (by decide) (by decide) (by decide) (by decide) (by decide) (by decide)).eq (kq _ (cos6 1) (by decide) (by decide) (by decide) (by decide) (by decide))) (by decide) (by kernel_rfl)
theorem quarter_2:PCall P 122 [ci64 2] (numC (cos6 2)):=quart ((number_spec (0) (0) (1) (0) (2) (by decide) (by decide) (by decide) (by decide) (by decide) (by decide)).eq (kq _ (cos6 2) (by decide) (by decide) (by decide) (by decide) (by decide))) (by decide) (by kernel_rfl)
theorem quarter_3:PCall P 122 [ci64 3] (numC (cos6 3)):=quart ((number_spec (0) (1) (0) (0) (2) (by decide) (by decide) (by decide) (by decide) (by decide) (by decide)).eq (kq _ (cos6 3) (by decide) (by decide) (by decide) (by decide) (by decide))) (by decide) (by kernel_rfl)
theorem quarter_4:PCall P 122 [ci64 4] (numC (cos6 4)):=quart ((number_spec (1) (0) (0) (0) (2) (by decide) (by decide) (by decide) (by decide) (by decide) (by decide)).eq (kq _ (cos6 4) (by decide) (by decide) (by decide) (by decide) (by decide))) (by decide) (by kernel_rfl)
theorem quarter_5:PCall P 122 [ci64 5] (numC (cos6 5)):=quart ((number_spec (0) (-1) (0) (1) (4) (by decide) (by decide) (by decide) (by decide) (by decide) (by decide)).eq (kq _ (cos6 5) (by decide) (by decide) (by decide) (by decide) (by decide))) (by decide) (by kernel_rfl)
theorem quarter_6:PCall P 122 [ci64 6] (numC (cos6 6)):=quart ((number_spec (0) (0) (0) (0) (1) (by decide) (by decide) (by decide) (by decide) (by decide) (by decide)).eq (kq _ (cos6 6) (by decide) (by decide) (by decide) (by decide) (by decide))) (by decide) (by kernel_rfl)
theorem quarter_spec(i:Int)(h:0≤i∧i<7):PCall P 122 [ci64 i] (numC (cos6 i.toNat)):=by
 have hc:i=0∨i=1∨i=2∨i=3∨i=4∨i=5∨i=6:=by omega
 rcases hc with rfl|rfl|rfl|rfl|rfl|rfl|rfl
 · exact quarter_0
 · exact quarter_1
 · exact quarter_2
 · exact quarter_3
 · exact quarter_4
 · exact quarter_5
 · exact quarter_6
end Go.Fw
open Go IntKind
namespace Go.Fw
set_option maxRecDepth 100000
theorem WMod_p1(i:Int)(h1:decide (i.tmod 24<0)=true):PCall P 31 [ci64 i] (.lit (.int .i64 (i64.wrap (i.tmod 24+24)))):=
 pcallT (.c (nz 24) (.b 6 h1 .nil)) (by kernel_rfl)
theorem WMod_p2(i:Int)(h1:decide (i.tmod 24<0)=false):PCall P 31 [ci64 i] (.lit (.int .i64 (i.tmod 24))):=
 pcallT (.c (nz 24) (.b 6 h1 .nil)) (by kernel_rfl)
end Go.Fw
open Go
namespace Go.Fw
theorem mod24(i:Int):(decide (i.tmod 24<0)=true→IntKind.i64.wrap (i.tmod 24+24)=i%24)∧(decide (i.tmod 24<0)=false→i.tmod 24=i%24)∧(IntKind.i64.wrap (i.tmod 24+24)).tmod 24=i%24:=by
 have e:=Int.mul_tdiv_add_tmod i 24
 have b1:=Int.tmod_lt_of_pos i (show(0:Int)<24 by decide)
 have b2:=Int.lt_tmod_of_pos i (show(0:Int)<24 by decide)
 generalize i.tmod 24=t at e b1 b2 ⊢
 generalize i.tdiv 24=q at e
 rw[w64 (by omega),Int.tmod_eq_emod_of_nonneg (by omega)]
 simp only[decide_eq_true_eq,decide_eq_false_iff_not]
 omega
theorem WMod_spec(i:Int):PCall P 31 [ci64 i] (ci64 (i%24)):=by
 cases h:decide (i.tmod 24<0)with
 |true=>exact(WMod_p1 i h).eq (congrArg (fun x=>ci64 x) ((mod24 i).1 h))
 |false=>exact(WMod_p2 i h).eq (congrArg (fun x=>ci64 x) ((mod24 i).2.1 h))
end Go.Fw
open Go IntKind
namespace Go.Fw
set_option maxRecDepth 100000
theorem WCos_p1(i:Int)(h1:decide (i%24>12)=true)(h2:decide (i64.wrap ((24:Int)-i%24)>6)=true)(s15_0:(0:Int)≤i64.wrap ((12:Int)-i64.wrap ((24:Int)-i%24))∧i64.wrap ((12:Int)-i64.wrap ((24:Int)-i%24))<7)(s16_0:Smk (cos6 (i64.wrap ((12:Int)-i64.wrap ((24:Int)-i%24))).toNat)):PCall P 33 [ci64 i] (numC (-cos6 (i64.wrap ((12:Int)-i64.wrap ((24:Int)-i%24))).toNat)):=
 pcallT (.r 2 (WMod_spec (i)) (.b 6 h1 (.b 12 h2 (.r 15 (quarter_spec (i64.wrap ((12:Int)-i64.wrap ((24:Int)-i%24))) s15_0) (.r 16 (FNeg_K (cos6 (i64.wrap ((12:Int)-i64.wrap ((24:Int)-i%24))).toNat) s16_0) (.c (lq 10 10) .nil)))))) (by kernel_rfl)
theorem WCos_p2(i:Int)(h1:decide (i%24>12)=true)(h2:decide (i64.wrap ((24:Int)-i%24)>6)=false)(s14_0:(0:Int)≤i64.wrap ((24:Int)-i%24)∧i64.wrap ((24:Int)-i%24)<7):PCall P 33 [ci64 i] (numC (cos6 (i64.wrap ((24:Int)-i%24)).toNat)):=
 pcallT (.r 2 (WMod_spec (i)) (.b 6 h1 (.b 12 h2 (.r 14 (quarter_spec (i64.wrap ((24:Int)-i%24)) s14_0) (.c (lq 10 10) .nil))))) (by kernel_rfl)
theorem WCos_p3(i:Int)(h1:decide (i%24>12)=false)(h2:decide (i%24>6)=true)(s12_0:(0:Int)≤i64.wrap ((12:Int)-i%24)∧i64.wrap ((12:Int)-i%24)<7)(s13_0:Smk (cos6 (i64.wrap ((12:Int)-i%24)).toNat)):PCall P 33 [ci64 i] (numC (-cos6 (i64.wrap ((12:Int)-i%24)).toNat)):=
 pcallT (.r 2 (WMod_spec (i)) (.b 6 h1 (.b 9 h2 (.r 12 (quarter_spec (i64.wrap ((12:Int)-i%24)) s12_0) (.r 13 (FNeg_K (cos6 (i64.wrap ((12:Int)-i%24)).toNat) s13_0) (.c (lq 10 10) .nil)))))) (by kernel_rfl)
theorem WCos_p4(i:Int)(h1:decide (i%24>12)=false)(h2:decide (i%24>6)=false)(s11_0:(0:Int)≤i%24∧i%24<7):PCall P 33 [ci64 i] (numC (cos6 (i%24).toNat)):=
 pcallT (.r 2 (WMod_spec (i)) (.b 6 h1 (.b 9 h2 (.r 11 (quarter_spec (i%24) s11_0) (.c (lq 10 10) .nil))))) (by kernel_rfl)
end Go.Fw
open Go
namespace Go.Fw
def cosK(i:Int):K:=
 let j:=i%24
 let k:=if j>12 then 24-j else j
 if k>6 then-cos6 (12-k).toNat else cos6 k.toNat
def sinK(i:Int):K:=cosK (i%24-6)
theorem sz_cos6(n:Nat):Smk (cos6 n):=by
 match n with
 |0=>decide
 |1=>decide
 |2=>decide
 |3=>decide
 |4=>decide
 |5=>decide
 |_+6=>exact(by decide:Smk (cos6 6))
theorem WCos_spec(i:Int):PCall P 33 [ci64 i] (numC (cosK i)):=by
 have e1:IntKind.i64.wrap (24-i%24)=24-i%24:=w64 (by omega)
 have e2:IntKind.i64.wrap (12-i%24)=12-i%24:=w64 (by omega)
 have e3:IntKind.i64.wrap (12-(24-i%24))=12-(24-i%24):=w64 (by omega)
 cases h1:decide (i%24>12)with
 |true=>
  have h1':=of_decide_eq_true h1
  cases h2:decide (24-i%24>6)with
  |true=>
   have h2':=of_decide_eq_true h2
   refine(WCos_p1 i h1 (by rw[e1];exact h2) (by rw[e1,e3];omega) (sz_cos6 _)).eq ?_
   rw[e1,e3];simp only[cosK,if_pos h1',if_pos h2']
  |false=>
   have h2':=of_decide_eq_false h2
   refine(WCos_p2 i h1 (by rw[e1];exact h2) (by rw[e1];omega)).eq ?_
   rw[e1];simp only[cosK,if_pos h1',if_neg h2']
 |false=>
  have h1':=of_decide_eq_false h1
  cases h2:decide (i%24>6)with
  |true=>
   have h2':=of_decide_eq_true h2
   refine(WCos_p3 i h1 h2 (by rw[e2];omega) (sz_cos6 _)).eq ?_
   rw[e2];simp only[cosK,if_neg h1',if_pos h2']
  |false=>
   have h2':=of_decide_eq_false h2
   refine(WCos_p4 i h1 h2 (by omega)).eq ?_
   simp only[cosK,if_neg h1',if_neg h2']
end Go.Fw
open Go
namespace Go.Fw
set_option maxRecDepth 100000
theorem Sm3.of{x:K}(h:x.c0.natAbs<256∧x.c1.natAbs<256∧x.c2.natAbs<256∧x.c3.natAbs<256∧x.d.natAbs<256):Sm3 x:=by
 intro i hi
 have k:(256:Nat)≤256^3:=by decide
 have:i=0∨i=1∨i=2∨i=3∨i=4:=by omega
 rcases this with rfl|rfl|rfl|rfl|rfl
 · exact Nat.lt_of_lt_of_le h.1 k
 · exact Nat.lt_of_lt_of_le h.2.1 k
 · exact Nat.lt_of_lt_of_le h.2.2.1 k
 · exact Nat.lt_of_lt_of_le h.2.2.2.1 k
 · exact Nat.lt_of_lt_of_le h.2.2.2.2 k
end Go.Fw
open Go
namespace Go.Fw
set_option maxRecDepth 100000
theorem pS0:PCall P 183 [.agg [.lit (.bool false),cstr (bytesOf 0)]] (ci64 0):=RSign_spec 0
theorem pO4:PCall P 185 [.agg [.lit (.bool false),cstr (bytesOf 4)],.agg [.lit (.bool false),cstr (bytesOf 1)]] (.agg [.lit (.bool false),cstr (bytesOf 4)]):=ROver_s 4 1 (by decide) (by decide) (by decide) (by decide)
theorem pOne:PCall P 131 [ci64 1] (.agg [.lit (.bool false),cstr (bytesOf 1)]):=ROf_spec 1 (by decide)
theorem pP4:PCall P 187 [.agg [.lit (.bool false),cstr (bytesOf 4)]] (cstr ⟨#[52]⟩):=RPr4_p1
end Go.Fw
open Go IntKind
namespace Go.Fw
set_option maxRecDepth 100000
theorem WSin_p1(i:Int):PCall P 35 [ci64 i] (numC (cosK (i64.wrap (i%24-6)))):=
 pcallT (.r 2 (WMod_spec (i)) (.r 4 (WCos_spec (i64.wrap (i%24-6))) (.c (lq 10 10) .nil))) (by kernel_rfl)
end Go.Fw
open Go
namespace Go.Fw
theorem WSin_spec(i:Int):PCall P 35 [ci64 i] (numC (sinK i)):=(WSin_p1 i).eq (by rw[w64 (by omega)];rfl)
end Go.Fw
open Go
namespace Go.Fw
theorem CvL.own(l:List CV):CvL (own l):=CvL.map_cv l
end Go.Fw
open Go
namespace Go.Fw
def th(t:Nat→Bool)(p:Nat):MV:= .cv (.lit (.bool (t p)))
end Go.Fw
open Go
namespace Go.Fw
set_option maxRecDepth 100000
def sm3b(x:K):Bool:=decide (x.c0.natAbs<256)&&decide (x.c1.natAbs<256)&&decide (x.c2.natAbs<256)&&decide (x.c3.natAbs<256)&&decide (x.d.natAbs<256)
theorem Sm3.b{x:K}(h:sm3b x=true):Sm3 x:=by
 simp only[sm3b,Bool.and_eq_true,decide_eq_true_eq]at h
 exact Sm3.of ⟨h.1.1.1.1,h.1.1.1.2,h.1.1.2,h.1.2,h.2⟩
end Go.Fw
open Go
namespace Go.Fw
def numL(x:K):List CV:=[.lit (.bool (decide (x.c0<0))),cstr (bytesOf x.c0.natAbs),.lit (.bool (decide (x.c1<0))),cstr (bytesOf x.c1.natAbs),.lit (.bool (decide (x.c2<0))),cstr (bytesOf x.c2.natAbs),.lit (.bool (decide (x.c3<0))),cstr (bytesOf x.c3.natAbs),.lit (.bool (decide (x.d<0))),cstr (bytesOf x.d.natAbs)]
def vecC(x y z:K):CV:= .agg (numL x++(numL y++numL z))
end Go.Fw
open Go
namespace Go.Fw
set_option maxRecDepth 100000
structure RN where
 b0:Bool
 s0:ByteArray
 b1:Bool
 s1:ByteArray
 b2:Bool
 s2:ByteArray
 b3:Bool
 s3:ByteArray
 b4:Bool
 s4:ByteArray
namespace RN
def l(x:RN):List CV:=[.lit (.bool x.b0),cstr x.s0,.lit (.bool x.b1),cstr x.s1,.lit (.bool x.b2),cstr x.s2,.lit (.bool x.b3),cstr x.s3,.lit (.bool x.b4),cstr x.s4]
def raw(n:Nat)(x:RN):Bool:=decide (x.s0.size≤n)&&decide (x.s1.size≤n)&&decide (x.s2.size≤n)&&decide (x.s3.size≤n)&&decide (x.s4.size≤n)
def ok(x:RN):Bool:=validB x.b0 x.s0&&validB x.b1 x.s1&&validB x.b2 x.s2&&validB x.b3 x.s3&&validB x.b4 x.s4&&decide (0<zOf x.b4 x.s4)&&decide (gcd5 (zOf x.b0 x.s0) (zOf x.b1 x.s1) (zOf x.b2 x.s2) (zOf x.b3 x.s3) (zOf x.b4 x.s4)=1)
theorem l_n5 {x : RN} (h0 : validB x.b0 x.s0 = true) (h1 : validB x.b1 x.s1 = true) (h2 : validB x.b2 x.s2 = true) (h3 : validB x.b3 x.s3 = true) (h4 : validB x.b4 x.s4 = true) :
    CV.agg x.l=n5C (zOf x.b0 x.s0) (zOf x.b1 x.s1) (zOf x.b2 x.s2) (zOf x.b3 x.s3) (zOf x.b4 x.s4):=by
 obtain⟨a0,c0,d0⟩:=valid_raw h0
 obtain⟨a1,c1,d1⟩:=valid_raw h1
 obtain⟨a2,c2,d2⟩:=valid_raw h2
 obtain⟨a3,c3,d3⟩:=valid_raw h3
 obtain⟨a4,c4,d4⟩:=valid_raw h4
 have e0:=raw_int h0
 have e1:=raw_int h1
 have e2:=raw_int h2
 have e3:=raw_int h3
 have e4:=raw_int h4
 unfold intC at e0 e1 e2 e3 e4
 simp only[CV.agg.injEq,List.cons.injEq,and_true]at e0 e1 e2 e3 e4
 unfold l
 rw[e0.1,e0.2,e1.1,e1.2,e2.1,e2.2,e3.1,e3.2,e4.1,e4.2]
 rfl
theorem ok_k{x:RN}(h:x.ok=true): ∃k:K,x.l=numL k:=by
 unfold ok at h
 simp only[Bool.and_eq_true,decide_eq_true_eq]at h
 obtain⟨⟨⟨⟨⟨⟨h0,h1⟩,h2⟩,h3⟩,h4⟩,h5⟩,h6⟩:=h
 have e:=l_n5 h0 h1 h2 h3 h4
 refine⟨⟨_,_,_,_,_,h5,h6⟩,?_⟩
 injection e
end RN
theorem gcd5_gcd(a b c d e:Int):gcd5 a b c d e=Nat.gcd (Nat.gcd (Nat.gcd (Nat.gcd a.natAbs b.natAbs) c.natAbs) d.natAbs) e.natAbs:=by
 unfold gcd5
 rw[Nat.gcd_comm e.natAbs a.natAbs]
 simp only[Nat.gcd_assoc]
 congr 1
 rw[Nat.gcd_comm e.natAbs]
 simp only[Nat.gcd_assoc]
theorem Sml.str{s:ByteArray}(h:s.size≤1000000):Sml (strVal s):=Sml.of_lt (Nat.lt_of_lt_of_le (strVal_lt s) (Nat.pow_le_pow_right (by decide) h)) (by decide)
theorem sign_pos_b(z:Int):decide (z.sign>0)=decide (0<z):=by
 rw[decide_eq_decide];exact Int.sign_pos_iff
theorem RVal_raw(x:RN)(hs:x.raw 1000000=true):PCall P 124 [.agg x.l] (.lit (.bool x.ok)):=by
 obtain⟨b0,s0,b1,s1,b2,s2,b3,s3,b4,s4⟩:=x
 simp only[RN.raw,Bool.and_eq_true,decide_eq_true_eq]at hs
 obtain⟨⟨⟨⟨z0,z1⟩,z2⟩,z3⟩,z4⟩:=hs
 have y0:=Sml.str z0
 have y1:=Sml.str z1
 have y2:=Sml.str z2
 have y3:=Sml.str z3
 have y4:=Sml.str z4
 show PCall P 124 [r5 b0 b1 b2 b3 b4 s0 s1 s2 s3 s4] _
 by_cases hw: ∀i,i<5→wdOk (fB b0 b1 b2 b3 b4) (fS s0 s1 s2 s3 s4) i
 · have v0:validB b0 s0=true:=(hw 0 (by decide)).2
   have v1:validB b1 s1=true:=(hw 1 (by decide)).2
   have v2:validB b2 s2=true:=(hw 2 (by decide)).2
   have v3:validB b3 s3=true:=(hw 3 (by decide)).2
   have v4:validB b4 s4=true:=(hw 4 (by decide)).2
   have bd: ∀{b:Bool} {s:ByteArray},validB b s=true→s.size≤3→(zOf b s).natAbs<2^63:=fun {b s} hv hs=>by
    rw[(valid_raw hv).2.2]
    exact Nat.lt_of_lt_of_le (strVal_lt s) (Nat.le_trans (Nat.pow_le_pow_right (by decide) hs) (by decide))
   have hok:RN.ok ⟨b0,s0,b1,s1,b2,s2,b3,s3,b4,s4⟩=(decide (0<zOf b4 s4)&&decide (gcd5 (zOf b0 s0) (zOf b1 s1) (zOf b2 s2) (zOf b3 s3) (zOf b4 s4)=1)):=by
    simp only[RN.ok,v0,v1,v2,v3,v4,Bool.true_and]
   rw[hok]
   by_cases hp:0<zOf b4 s4
   · have:=rvs_p1 b0 b1 b2 b3 b4 s0 s1 s2 s3 s4 (decide_eq_true hp) hw ⟨bd v0 (hw 0 (by decide)).1,bd v1 (hw 1 (by decide)).1,bd v2 (hw 2 (by decide)).1,bd v3 (hw 3 (by decide)).1,bd v4 (hw 4 (by decide)).1⟩
     refine this.eqB ?_
     show(((gcd5 (zOf b0 s0) (zOf b1 s1) (zOf b2 s2) (zOf b3 s3) (zOf b4 s4):Nat):Int)==1)=_
     rw[decide_eq_true hp,Bool.true_and,Bool.eq_iff_iff,beq_iff_eq,decide_eq_true_eq]
     omega
   · have:=rvs_p2 b0 b1 b2 b3 b4 s0 s1 s2 s3 s4 (decide_eq_false hp) hw
     refine this.eqB ?_
     rw[decide_eq_false hp,Bool.false_and]
 · cases v0:validB b0 s0
   · refine(rvl_p7 b0 b1 b2 b3 b4 s0 s1 s2 s3 s4 v0 hw).eqB ?_
     simp[RN.ok,v0]
   cases v1:validB b1 s1
   · refine(rvl_p6 b0 b1 b2 b3 b4 s0 s1 s2 s3 s4 v0 v1 hw y0).eqB ?_
     simp[RN.ok,v1]
   have t0:=(valid_raw v0).2.2
   have t1:=(valid_raw v1).2.2
   have g0:Sml ((Nat.gcd 0 (zOf b0 s0).natAbs:Nat):Int).natAbs:=by rw[Int.natAbs_natCast,Nat.gcd_zero_left,t0];exact y0
   cases v2:validB b2 s2
   · refine(rvl_p5 b0 b1 b2 b3 b4 s0 s1 s2 s3 s4 v0 v1 v2 hw y0 g0 y1).eqB ?_
     simp[RN.ok,v2]
   have t2:=(valid_raw v2).2.2
   have g1:Sml (((((Nat.gcd 0 (zOf b0 s0).natAbs:Nat):Int).natAbs).gcd (zOf b1 s1).natAbs:Nat):Int).natAbs:=by rw[Int.natAbs_natCast];exact g0.gcd (by rw[t1];exact y1)
   cases v3:validB b3 s3
   · refine(rvl_p4 b0 b1 b2 b3 b4 s0 s1 s2 s3 s4 v0 v1 v2 v3 hw y0 g0 y1 g1 y2).eqB ?_
     simp[RN.ok,v3]
   have t3:=(valid_raw v3).2.2
   have g2:Sml (((((((Nat.gcd 0 (zOf b0 s0).natAbs:Nat):Int).natAbs).gcd (zOf b1 s1).natAbs:Nat):Int).natAbs.gcd (zOf b2 s2).natAbs:Nat):Int).natAbs:=by rw[Int.natAbs_natCast];exact g1.gcd (by rw[t2];exact y2)
   cases v4:validB b4 s4
   · refine(rvl_p3 b0 b1 b2 b3 b4 s0 s1 s2 s3 s4 v0 v1 v2 v3 v4 hw y0 g0 y1 g1 y2 g2 y3).eqB ?_
     simp[RN.ok,v4]
   have g3:Sml (((((((((Nat.gcd 0 (zOf b0 s0).natAbs:Nat):Int).natAbs).gcd (zOf b1 s1).natAbs:Nat):Int).natAbs.gcd (zOf b2 s2).natAbs:Nat):Int).natAbs.gcd (zOf b3 s3).natAbs:Nat):Int).natAbs:=by rw[Int.natAbs_natCast];exact g2.gcd (by rw[t3];exact y3)
   have hok:RN.ok ⟨b0,s0,b1,s1,b2,s2,b3,s3,b4,s4⟩=(decide (0<zOf b4 s4)&&decide (gcd5 (zOf b0 s0) (zOf b1 s1) (zOf b2 s2) (zOf b3 s3) (zOf b4 s4)=1)):=by
    simp only[RN.ok,v0,v1,v2,v3,v4,Bool.true_and]
   rw[hok]
   by_cases hp:0<zOf b4 s4
   · refine(rvl_p1 b0 b1 b2 b3 b4 s0 s1 s2 s3 s4 v0 v1 v2 v3 v4 (by rw[sign_pos_b];exact decide_eq_true hp) hw y0 g0 y1 g1 y2 g2 y3 g3 y4 (by decide)).eqB ?_
     rw[gcd5_gcd,decide_eq_true hp,Bool.true_and]
     simp only[Int.natAbs_natCast,Nat.gcd_zero_left,bytes_beq,Bool.and_true]
     rw[decide_eq_false (by omega)]
     rfl
   · refine(rvl_p2 b0 b1 b2 b3 b4 s0 s1 s2 s3 s4 v0 v1 v2 v3 v4 (by rw[sign_pos_b];exact decide_eq_false hp) hw y0 g0 y1 g1 y2 g2 y3).eqB ?_
     rw[decide_eq_false hp,Bool.false_and]
theorem SmlZ_raw{b:Bool}{s:ByteArray}(hv:validB b s=true)(h:s.size≤1000000):SmlZ (zOf b s):=by
 show Sml (zOf b s).natAbs
 rw[(valid_raw hv).2.2];exact Sml.str h
theorem FVal_raw(x:RN)(hs:x.raw 1000000=true):PCall P 154 [.agg x.l] (.lit (.bool x.ok)):=by
 cases v0:validB x.b0 x.s0
 · refine(fvr_p6 x.b0 x.b1 x.b2 x.b3 x.b4 x.s0 x.s1 x.s2 x.s3 x.s4 v0).eqB ?_
   simp[RN.ok,v0]
 cases v1:validB x.b1 x.s1
 · refine(fvr_p5 x.b0 x.b1 x.b2 x.b3 x.b4 x.s0 x.s1 x.s2 x.s3 x.s4 v0 v1).eqB ?_
   simp[RN.ok,v1]
 cases v2:validB x.b2 x.s2
 · refine(fvr_p4 x.b0 x.b1 x.b2 x.b3 x.b4 x.s0 x.s1 x.s2 x.s3 x.s4 v0 v1 v2).eqB ?_
   simp[RN.ok,v2]
 cases v3:validB x.b3 x.s3
 · refine(fvr_p3 x.b0 x.b1 x.b2 x.b3 x.b4 x.s0 x.s1 x.s2 x.s3 x.s4 v0 v1 v2 v3).eqB ?_
   simp[RN.ok,v3]
 cases v4:validB x.b4 x.s4
 · refine(fvr_p2 x.b0 x.b1 x.b2 x.b3 x.b4 x.s0 x.s1 x.s2 x.s3 x.s4 v0 v1 v2 v3 v4).eqB ?_
   simp[RN.ok,v4]
 simp only[RN.raw,Bool.and_eq_true,decide_eq_true_eq]at hs
 obtain⟨⟨⟨⟨z0,z1⟩,z2⟩,z3⟩,z4⟩:=hs
 rw[RN.l_n5 v0 v1 v2 v3 v4]
 have hok:x.ok=(decide (0<zOf x.b4 x.s4)&&decide (gcd5 (zOf x.b0 x.s0) (zOf x.b1 x.s1) (zOf x.b2 x.s2) (zOf x.b3 x.s3) (zOf x.b4 x.s4)=1)):=by
  simp only[RN.ok,v0,v1,v2,v3,v4,Bool.true_and]
 rw[hok]
 by_cases hp:0<zOf x.b4 x.s4
 · refine(FValid_p1 _ _ _ _ _ (by rw[sign_pos_b];exact decide_eq_true hp) (SmlZ_raw v0 z0) (SmlZ_raw v1 z1) (SmlZ_raw v2 z2) (SmlZ_raw v3 z3) (SmlZ_raw v4 z4) (by decide)).eqB ?_
   rw[decide_eq_true hp,Bool.true_and]
   simp only[Int.natAbs_natCast,bytes_beq,Bool.and_true]
   rw[decide_eq_false (by omega)]
   rfl
 · refine(FValid_p2 _ _ _ _ _ (by rw[sign_pos_b];exact decide_eq_false hp)).eqB ?_
   rw[decide_eq_false hp,Bool.false_and]
end Go.Fw
open Go
namespace Go.Fw
set_option maxRecDepth 100000
def RN.c(x:RN):CV:=r5 x.b0 x.b1 x.b2 x.b3 x.b4 x.s0 x.s1 x.s2 x.s3 x.s4
def vecR(x y z:RN):CV:= .agg (x.l++(y.l++z.l))
theorem RVal_c(x:RN)(hs:x.raw 1000000=true):PCall P 124 [x.c] (.lit (.bool x.ok)):=RVal_raw x hs
theorem FVal_c(x:RN)(hs:x.raw 1000000=true):PCall P 154 [x.c] (.lit (.bool x.ok)):=FVal_raw x hs
end Go.Fw
open Go
namespace Go.Fw
set_option maxRecDepth 100000
theorem RRed_K(a b c d e:Int)(he:e≠0)(ha:SmlZ a)(hb:SmlZ b)(hc:SmlZ c)(hd:SmlZ d)(hl:SmlZ e):PCall P 129 [c4C a b c d,intC e] (numC (K.of a b c d e)):=by
 have gl: ∀x y:Nat,x≠0→Sml x→Nat.gcd x y≠0∧Sml (Nat.gcd x y):=fun x y h0 h=>⟨by have:=Nat.gcd_pos_of_pos_left y (Nat.pos_of_ne_zero h0);omega,h.mono (Nat.gcd_le_left _ (Nat.pos_of_ne_zero h0))⟩
 obtain⟨n1,l1⟩:=gl e.natAbs a.natAbs (by omega) hl
 obtain⟨n2,l2⟩:=gl _ b.natAbs n1 l1
 obtain⟨n3,l3⟩:=gl _ c.natAbs n2 l2
 obtain⟨n4,l4⟩:=gl _ d.natAbs n3 l3
 obtain⟨v0,v1,v2,v3,v4⟩:=K.den_dvd a b c d e
 have hne:=K.den_ne (c0:=a) (c1:=b) (c2:=c) (c3:=d) he
 have hdl:Sml (K.den a b c d e).natAbs:=by rw[K.den_natAbs];exact l4
 exact RRed_spec a b c d e he (RGcd_spec _ _ hl ha) (RGcd_spec _ _ (by rwa[Int.natAbs_natCast]) hb) (RGcd_spec _ _ (by rwa[Int.natAbs_natCast]) hc) (RGcd_spec _ _ (by rwa[Int.natAbs_natCast]) hd)
  (ROver_spec _ _ ha hdl hne v0) (ROver_spec _ _ hb hdl hne v1) (ROver_spec _ _ hc hdl hne v2) (ROver_spec _ _ hd hdl hne v3) (ROver_spec _ _ hl hdl hne v4)
def RN.ofK(x:K):RN:=⟨decide (x.c0<0),bytesOf x.c0.natAbs,decide (x.c1<0),bytesOf x.c1.natAbs,decide (x.c2<0),bytesOf x.c2.natAbs,decide (x.c3<0),bytesOf x.c3.natAbs,decide (x.d<0),bytesOf x.d.natAbs⟩
theorem RN.ofK_l(x:K):(RN.ofK x).l=numL x:=rfl
theorem RN.ofK_ok(x:K):(RN.ofK x).ok=true:=by
 unfold RN.ok RN.ofK
 simp only[validB_int,zOf_int,Bool.true_and,Bool.and_eq_true,decide_eq_true_eq]
 exact⟨x.pos,x.cop⟩
theorem RN.ofK_raw(x:K){n:Nat}(h:x.sz≤n):(RN.ofK x).raw n=true:=by
 obtain⟨h0,h1,h2,h3,h4⟩:=K.sz_le.1 h
 unfold RN.raw RN.ofK
 simp only[Bool.and_eq_true,decide_eq_true_eq]
 exact⟨⟨⟨⟨size_le.2 h0,size_le.2 h1⟩,size_le.2 h2⟩,size_le.2 h3⟩,size_le.2 h4⟩
theorem RVal_K(x:K)(h:x.sz≤1000000):PCall P 124 [numC x] (.lit (.bool true)):=by
 have:=RVal_raw (RN.ofK x) (RN.ofK_raw x h)
 rw[RN.ofK_ok]at this
 exact this
open Classical in
noncomputable def wdA(x:K):Nat→Int:=if h:Sm3 x then kZ x else(words_not x h).choose
open Classical in
noncomputable def sm3B(x:K):Bool:=decide (Sm3 x)
theorem words_a(x:K):PCall P 125 [numC x] (wdV (wdA x) (sm3B x)):=by
 rcases Classical.em (Sm3 x)with h|h
 · have e1:wdA x=kZ x:=dif_pos h
   have e2:sm3B x=true:=by unfold sm3B;exact @decide_eq_true _ (_) h
   rw[e1,e2];exact words_k x h
 · have e1:wdA x=(words_not x h).choose:=dif_neg h
   have e2:sm3B x=false:=by unfold sm3B;exact @decide_eq_false _ (_) h
   rw[e1,e2];exact(words_not x h).choose_spec
theorem sm3B_true{x:K}(h:sm3B x=true):Sm3 x:=by
 unfold sm3B at h
 exact @of_decide_eq_true _ (_) h
end Go.Fw
