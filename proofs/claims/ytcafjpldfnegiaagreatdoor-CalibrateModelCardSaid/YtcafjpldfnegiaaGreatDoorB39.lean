/- A part of the proof that the law returns true for every input: an executor for the model's code, and what functions of the program compute. -/
import Derived.Test.YtcafjpldfnegiaaGreatDoorB11
import Derived.Test.YtcafjpldfnegiaaGreatDoorB15
import Derived.Test.YtcafjpldfnegiaaGreatDoorB28
import Derived.Test.YtcafjpldfnegiaaGreatDoorB37
import Derived.Test.YtcafjpldfnegiaaGreatDoorB38
import Derived.KernelRfl
open Go IntKind
open Go Go.ChangeMaps
namespace Go.Fw
set_option maxRecDepth 100000
def zsW:List Nat:=[0,1,2,3,4,10,11,21]
theorem zkd {R : Goal} {k : List Item} {a n2 n3 n6 d key v : Int} {acc root : K} {r : Nat} {es : Array MapEntry} {seen : Array Nat} (hR : R.n = 0)
    (hv:v.natAbs<256) (hroot:PCall P 235 [j5 key] (Z0 root)) (hsr:root.sz≤1) (hs:acc.sz<10000)
    (h:OkX P 190 k ⟨tmN a n2 n3 n6 d .unk .unk (z9G r) .unk,hpN (acc+K.ofInt v*root)⟩ R (XI r es 3 seen)):
    OkX P 190 (.code ziz::k) ⟨tmN a n2 n3 n6 d (.cv (.lit (.int .i64 key))) (.cv (.lit (.int .i64 v))) (z9G r) (.cv (.lit (.bool true))),hpN acc⟩ R (XI r es 3 seen):=by
 have hsv:(K.ofInt v).sz≤1:=K.sz_int v (Nat.le_refl _) (by omega)
 have hsm:=K.sz_mul (K.ofInt v) root
 have c1:PCall P 144 [j5 v] (Z0 (K.ofInt v)):=z0y v (by omega)
 have c2:PCall P 136 [Z0 (K.ofInt v),Z0 root] (Z0 (K.ofInt v*root)):=z6d _ _ (by omega)
 have c3:PCall P 137 [Z0 acc,Z0 (K.ofInt v*root)] (Z0 (acc+K.ofInt v*root)):=z6C _ _ (by omega)
 have z1:CvL ZN:=CvL.map_cv (List.replicate 5 [CV.lit (.bool false),CV.lit (.string ⟨#[]⟩)]).flatten
 have z2:CvL (MV.cv (Z0 (acc+K.ofInt v*root))).cells:=CvL.map_cv _
 exact OkX.regS (ors:=[(2,.r (Z0 (K.ofInt v))),(4,.r (Z0 root)),(5,.r (Z0 (K.ofInt v*root))),(6,.r (Z0 (acc+K.ofInt v*root)))]) zsW [0,1]
  (by kernel_rfl) rfl (.cons c1 (.cons hroot (.cons c2 (.cons c3 (.cons (show 10≤10 by decide) (.cons z1 (.cons z2 .nil))))))) rfl rfl hR h
def z1b(n2 n3 n6:Int)(seen:Array Nat):K:=
 (if seen.contains 0 then K.ofInt 0 else K.ofInt n2*K.r2)+(if seen.contains 1 then K.ofInt 0 else K.ofInt n3*K.r3)+(if seen.contains 2 then K.ofInt 0 else K.ofInt n6*K.r6)
theorem zdw{n2 n3 n6:Int}{seen:Array Nat}(h:(leftOf (z1Q n2 n3 n6) seen).size=0)(acc:K):acc+z1b n2 n3 n6 seen=acc:=by
 have:=all_seen _ _ h
 have h0:seen.contains 0=true:=this ⟨.int .i64 2,.int .i64 n2,0⟩ (by simp[z1Q])
 have h1:seen.contains 1=true:=this ⟨.int .i64 3,.int .i64 n3,1⟩ (by simp[z1Q])
 have h2:seen.contains 2=true:=this ⟨.int .i64 6,.int .i64 n6,2⟩ (by simp[z1Q])
 unfold z1b
 rw[h0,h1,h2]
 exact(show ∀ρ:Nat→K,ρ 0+(CR.ofInt 0+CR.ofInt 0+CR.ofInt 0)=ρ 0 from fun ρ=>CR.ring ρ rfl) (CR.vr [acc])
theorem z6q {n2 n3 n6 : Int} {seen : Array Nat} {acc : K} :
    (seen.contains 0=false→acc+K.ofInt n2*K.r2+z1b n2 n3 n6 (seen.push 0)=acc+z1b n2 n3 n6 seen)∧
    (seen.contains 1=false→acc+K.ofInt n3*K.r3+z1b n2 n3 n6 (seen.push 1)=acc+z1b n2 n3 n6 seen)∧
    (seen.contains 2=false→acc+K.ofInt n6*K.r6+z1b n2 n3 n6 (seen.push 2)=acc+z1b n2 n3 n6 seen):=by
 unfold z1b
 simp only[contains_push]
 refine⟨fun h=>?_,fun h=>?_,fun h=>?_⟩
 · rw[h,show(1==0:Bool)=false from rfl,show(2==0:Bool)=false from rfl,show(0==0:Bool)=true from rfl,Bool.or_false,Bool.or_false,Bool.or_true]
   exact(show ∀ρ:Nat→K,ρ 0+ρ 1+(CR.ofInt 0+ρ 2+ρ 3)=ρ 0+(ρ 1+ρ 2+ρ 3)from fun ρ=>CR.ring ρ rfl) (CR.vr [acc,_,_,_])
 · rw[h,show(0==1:Bool)=false from rfl,show(2==1:Bool)=false from rfl,show(1==1:Bool)=true from rfl,Bool.or_false,Bool.or_false,Bool.or_true]
   exact(show ∀ρ:Nat→K,ρ 0+ρ 2+(ρ 1+CR.ofInt 0+ρ 3)=ρ 0+(ρ 1+ρ 2+ρ 3)from fun ρ=>CR.ring ρ rfl) (CR.vr [acc,_,_,_])
 · rw[h,show(0==2:Bool)=false from rfl,show(1==2:Bool)=false from rfl,show(2==2:Bool)=true from rfl,Bool.or_false,Bool.or_false,Bool.or_true]
   exact(show ∀ρ:Nat→K,ρ 0+ρ 3+(ρ 1+ρ 2+CR.ofInt 0)=ρ 0+(ρ 1+ρ 2+ρ 3)from fun ρ=>CR.ring ρ rfl) (CR.vr [acc,_,_,_])
theorem zcf {R : Goal} {k : List Item} {a n2 n3 n6 d : Int} {tot : K} (hR : R.n = 0) (h2 : n2.natAbs < 256) (h3 : n3.natAbs < 256) (h6 : n6.natAbs < 256)
    (hk:Ok P 190 k ⟨tmN a n2 n3 n6 d .unk .unk .unk .unk,hpN tot⟩ R): ∀(n:Nat) (seen:Array Nat) (acc:K) (r:Nat),(leftOf (z1Q n2 n3 n6) seen).size=n→acc+z1b n2 n3 n6 seen=tot→acc.sz+10*n<1000→
     OkX P 190 (.code z2G:: .inLoop z2G:: .inBlock 0::k) ⟨tmN a n2 n3 n6 d .unk .unk (z9G r) .unk,hpN acc⟩ R (XI r (z1Q n2 n3 n6) 3 seen):=by
 intro n
 induction n using Nat.strongRecOn with
 |ind n ih=>
 intro seen acc r hn ht hs
 show OkX P 190 (.code (.seq reg3 (.seq (.cond (.tmp 23) .skip (.exit 0)) (.block 1 (.seq reg4 ziz))))::_) _ _ _
 refine OkX.step ?_ (fun b a cs w=>step_seq)
 intro w0 I p act w b cs q1 q2 q3 q31 q32 q4 q5 q6
 obtain⟨bm,m1,m2,m3⟩:=q6.m
 have hst: ∀x∈(z1Q n2 n3 n6).toList,x.born<3:=by simp[z1Q]
 have hnd:((z1Q n2 n3 n6).toList.map (·.born)).Nodup:=by simp[z1Q]
 rcases run_next_at (P:=P) w 0 r bm 3 3 seen (z1Q n2 n3 n6) 3 m2 m1 hst (Nat.le_refl _)with⟨h0,hrun⟩|⟨e,he,w1,hal,hrun⟩
 · obtain⟨a',hrel,hst⟩:=ze6 (k:= .code (.seq (.cond (.tmp 23) .skip (.exit 0)) (.block 1 (.seq reg4 ziz))):: .inLoop z2G:: .inBlock 0::k) w0 I p act w q4 (fun ty=>hrun) b cs
   rw[←ht,zdw h0]at hk
   have z1:CvL ZN:=CvL.map_cv (List.replicate 5 [CV.lit (.bool false),CV.lit (.string ⟨#[]⟩)]).flatten
   have z2:CvL (MV.cv (Z0 acc)).cells:=CvL.map_cv _
   have hfin:Ok P 190 (.code (.seq (.cond (.tmp 23) .skip (.exit 0)) (.block 1 (.seq reg4 ziz))):: .inLoop z2G:: .inBlock 0::k) ⟨tmN a n2 n3 n6 d .unk .unk (z9G r) (.cv (.lit (.bool false))),hpN acc⟩ R:=by
    refine Ok.step ?_ (fun b a cs w=>step_seq)
    refine Ok.cond (t:=false) (d:=false) rfl rfl ?_
    refine Ok.step (todo':=k) ?_ (fun b a cs w=>step_exit (by rfl))
    exact Ok.sel [0,1,2,3,4,10,11] [0,1] rfl (by rw[hR];rfl) (show AllP [CvL ZN,CvL (MV.cv (Z0 acc)).cells]from⟨z1,z2⟩) hk
   obtain⟨e,w',fr,k1,k2,k3⟩:=hfin w0 I p a' w b cs q1 q2 q3 q31 q32 hrel q5
   exact⟨e,w',fr,k1,.of_steps hst k2,k3⟩
 · obtain ⟨a', w', hrel, hX, hst⟩ := zdY (_R := R) (k := .code (.seq (.cond (.tmp 23) .skip (.exit 0)) (.block 1 (.seq reg4 ziz))) :: .inLoop z2G :: .inBlock 0 :: k) w0 I p act w w1 q4 q6 hal (fun ty bm' g1 g2 => by
     rw[m2]at g2;cases g2;exact hrun) b cs
   have hem:=(mem_left he).1
   have hsh:=left_shrinks (z1Q n2 n3 n6) seen e he
   have hns:=(mem_left he).2
   have step5 : ∀ {key v : Int} {root : K}, e.key = .int .i64 key → e.val = .int .i64 v → v.natAbs < 256 → PCall P 235 [j5 key] (Z0 root) → root.sz ≤ 1 → acc + K.ofInt v * root + z1b n2 n3 n6 (seen.push e.born) = tot →
       OkX P 190 (.code (.seq (.cond (.tmp 23) .skip (.exit 0)) (.block 1 (.seq reg4 ziz))):: .inLoop z2G:: .inBlock 0::k) ⟨tmN a n2 n3 n6 d .unk .unk (z9G r) (.cv (.lit (.bool true))),hpN acc⟩ R (XI r (z1Q n2 n3 n6) 3 (seen.push e.born)):=by
    intro key v root hk1 hv1 hv2 hr1 hr2 hr3
    refine OkX.step ?_ (fun b a cs w=>step_seq)
    refine OkX.cond (t:=true) (d:=true) rfl rfl ?_
    refine OkX.step ?_ (fun b a cs w=>step_skip)
    refine OkX.step ?_ (fun b a cs w=>step_block)
    refine OkX.step ?_ (fun b a cs w=>step_seq)
    refine zjn hem hnd ?_
    rw[hk1,hv1]
    refine zkd hR hv2 hr1 hr2 (by omega) ?_
    refine OkX.step ?_ (fun b a cs w=>step_inBlock)
    refine OkX.step ?_ (fun b a cs w=>step_inLoop)
    have hsv:(K.ofInt v).sz≤1:=K.sz_int v (Nat.le_refl _) (by omega)
    have hsm:=K.sz_mul (K.ofInt v) root
    have hsa:=K.sz_add acc (K.ofInt v*root)
    exact ih _ (hn ▸ hsh) (seen.push e.born) _ r rfl hr3 (by omega)
   have hall:OkX P 190 (.code (.seq (.cond (.tmp 23) .skip (.exit 0)) (.block 1 (.seq reg4 ziz))):: .inLoop z2G:: .inBlock 0::k) ⟨tmN a n2 n3 n6 d .unk .unk (z9G r) (.cv (.lit (.bool true))),hpN acc⟩ R (XI r (z1Q n2 n3 n6) 3 (seen.push e.born)):=by
    have hcase:e=⟨.int .i64 2,.int .i64 n2,0⟩∨e=⟨.int .i64 3,.int .i64 n3,1⟩∨e=⟨.int .i64 6,.int .i64 n6,2⟩:=by simpa[z1Q]using hem
    rcases hcase with rfl|rfl|rfl
    · exact step5 rfl rfl h2 zmC (by decide) ((z6q.1 hns).trans ht)
    · exact step5 rfl rfl h3 zlP (by decide) ((z6q.2.1 hns).trans ht)
    · exact step5 rfl rfl h6 zkm (by decide) ((z6q.2.2 hns).trans ht)
   obtain⟨e,w',fr,k1,k2,k3⟩:=hall w0 I p a' w' b cs q1 q2 q3 q31 q32 hrel q5 hX
   exact⟨e,w',fr,k1,.of_steps hst k2,k3⟩
def zi8(a n2 n3 n6:Int):K:=K.ofInt a+(K.ofInt n2*K.r2+K.ofInt n3*K.r3+K.ofInt n6*K.r6)
theorem z0B (a n2 n3 n6 d : Int) (ha : a.natAbs < 256) (h2 : n2.natAbs < 256) (h3 : n3.natAbs < 256) (h6 : n6.natAbs < 256) (hd : d.natAbs < 256) (hd0 : K.ofInt d ≠ 0) :
    PCall P 190 [j5 a,j5 n2,j5 n3,j5 n6,j5 d] (Z0 (K.div (zi8 a n2 n3 n6) (K.ofInt d))):=by
 have hsz: ∀v:Int,v.natAbs<256→(K.ofInt v).sz≤1:=fun v hv=>K.sz_int v (Nat.le_refl _) (by omega)
 have z1:CvL ZN:=CvL.map_cv (List.replicate 5 [CV.lit (.bool false),CV.lit (.string ⟨#[]⟩)]).flatten
 have z2:CvL (MV.cv (Z0 (K.ofInt a))).cells:=CvL.map_cv _
 have c1:PCall P 144 [j5 a] (Z0 (K.ofInt a)):=z0y a (by omega)
 have c2:PCall P 144 [j5 d] (Z0 (K.ofInt d)):=z0y d (by omega)
 have sm:=fun(v:Int) (w:K) (hv:v.natAbs<256) (hw:w.sz≤1)=>Nat.le_trans (K.sz_mul (K.ofInt v) w) (Nat.add_le_add_right (Nat.add_le_add (hsz v hv) hw) 1)
 have t2:=sm n2 K.r2 h2 (show K.r2.sz≤1 by decide)
 have t3:=sm n3 K.r3 h3 (show K.r3.sz≤1 by decide)
 have t6:=sm n6 K.r6 h6 (show K.r6.sz≤1 by decide)
 have u1:=K.sz_add (K.ofInt n2*K.r2) (K.ofInt n3*K.r3)
 have u2:=K.sz_add (K.ofInt n2*K.r2+K.ofInt n3*K.r3) (K.ofInt n6*K.r6)
 have u3:=K.sz_add (K.ofInt a) (K.ofInt n2*K.r2+K.ofInt n3*K.r3+K.ofInt n6*K.r6)
 have ua:=hsz a ha
 have ud:=hsz d hd
 have hs:(zi8 a n2 n3 n6).sz≤100:=by unfold zi8;omega
 have c3:PCall P 147 [Z0 (zi8 a n2 n3 n6),Z0 (K.ofInt d)] (.tup [Z0 (K.div (zi8 a n2 n3 n6) (K.ofInt d)),j5 0]):=zi2 _ _ hd0 (by omega)
 refine z2U (todo:=[.code z0Q]) (s:=⟨([j5 a,j5 n2,j5 n3,j5 n6,j5 d].map .cv)++List.replicate 37 undefM,[]⟩) (rs:=_) rfl ?_
 rw[zcp]
 refine Ok.step ?_ (fun b a cs w=>step_seq)
 refine Ok.regS (s':=⟨(([j5 a,j5 n2,j5 n3,j5 n6,j5 d].map MV.cv)++List.replicate 5 .unk++[.ptr 0 0]++List.replicate 31 .unk),[some ZN]⟩) (ors:=[]) [0,1,2,3,4,10] [0] (by kernel_rfl) rfl (.cons z1 .nil) rfl ?_
 refine Ok.step ?_ (fun b a cs w=>step_seq)
 refine Ok.regS (s':=⟨tmN a n2 n3 n6 d .unk .unk .unk .unk,hpN (K.ofInt a)⟩) (ors:=[(1,.r (Z0 (K.ofInt a)))]) [0,1,2,3,4,10,11] [0,2] (by kernel_rfl) rfl (.cons c1 (.cons (show 10≤10 by decide) (.cons z1 (.cons z2 .nil)))) rfl ?_
 refine Ok.step ?_ (fun b a cs w=>step_seq)
 refine Ok.step ?_ (fun b a cs w=>step_seq)
 refine zkJ rfl (fun r=>?_)
 refine OkX.step ?_ (fun b a cs w=>step_block)
 refine OkX.step ?_ (fun b a cs w=>step_loop)
 refine zcf (tot:=zi8 a n2 n3 n6) rfl h2 h3 h6 ?_ 3 #[] (K.ofInt a) r (by simp[leftOf,z1Q]) (by simp[z1b,zi8]) (by omega)
 exact okR (ors:=[(2,.r (Z0 (K.ofInt d))),(3,.r (.tup [Z0 (K.div (zi8 a n2 n3 n6) (K.ofInt d)),j5 0]))]) (by kernel_rfl) (.cons c2 (.cons c3 (.cons (show 10≤10 by decide) (.cons (show 10≤10 by decide) .nil)))) rfl
def z1h(i:Nat):K:=
 match i with
 |0=>⟨1,0,0,0,1,by decide,by decide⟩
 |1=>⟨0,1,0,1,4,by decide,by decide⟩
 |2=>⟨0,0,1,0,2,by decide,by decide⟩
 |3=>⟨0,1,0,0,2,by decide,by decide⟩
 |4=>⟨1,0,0,0,2,by decide,by decide⟩
 |5=>⟨0,-1,0,1,4,by decide,by decide⟩
 |_=>⟨0,0,0,0,1,by decide,by decide⟩
theorem kq(x y:K)(h0:x.c0=y.c0)(h1:x.c1=y.c1)(h2:x.c2=y.c2)(h3:x.c3=y.c3)(h4:x.d=y.d):Z0 x=Z0 y:=zhT h0 h1 h2 h3 h4
theorem za9 {i a b c e d : Int} {v : CV} (h : PCall P 190 [j5 a, j5 b, j5 c, j5 e, j5 d] v) (hi : 0 ≤ i ∧ i < 7)
    (hrun:zcz P 122 [j5 i] [(26,.r v)] false 100000= .ret v [35≤35,0≤i∧i<7,5≤5,(0:Int)≤0∧(0:Int)<5,(0:Int)≤1∧(1:Int)<5,(0:Int)≤2∧(2:Int)<5,(0:Int)≤3∧(3:Int)<5,(0:Int)≤4∧(4:Int)<5,PCall P 190 [j5 a,j5 b,j5 c,j5 e,j5 d] v,10≤10]):PCall P 122 [j5 i] v:=
 zhW hrun (.cons (by decide) (.cons hi (.cons (by decide) (.cons (by decide) (.cons (by decide) (.cons (by decide) (.cons (by decide) (.cons (by decide) (.cons h (.cons (by decide) .nil))))))))))
theorem zda:PCall P 122 [j5 0] (Z0 (z1h 0)):=za9 ((z0B (1) (0) (0) (0) (1) (by decide) (by decide) (by decide) (by decide) (by decide) (by decide)).eq (kq _ (z1h 0) (by decide) (by decide) (by decide) (by decide) (by decide))) (by decide) (by kernel_rfl)
theorem zdj:PCall P 122 [j5 1] (Z0 (z1h 1)):=za9 ((z0B (0) (1) (0) (1) (4) (by decide) (by decide) (by decide) (by decide) (by decide) (by decide)).eq (kq _ (z1h 1) (by decide) (by decide) (by decide) (by decide) (by decide))) (by decide) (by kernel_rfl)
theorem zew:PCall P 122 [j5 2] (Z0 (z1h 2)):=za9 ((z0B (0) (0) (1) (0) (2) (by decide) (by decide) (by decide) (by decide) (by decide) (by decide)).eq (kq _ (z1h 2) (by decide) (by decide) (by decide) (by decide) (by decide))) (by decide) (by kernel_rfl)
theorem zdo:PCall P 122 [j5 3] (Z0 (z1h 3)):=za9 ((z0B (0) (1) (0) (0) (2) (by decide) (by decide) (by decide) (by decide) (by decide) (by decide)).eq (kq _ (z1h 3) (by decide) (by decide) (by decide) (by decide) (by decide))) (by decide) (by kernel_rfl)
theorem zf1:PCall P 122 [j5 4] (Z0 (z1h 4)):=za9 ((z0B (1) (0) (0) (0) (2) (by decide) (by decide) (by decide) (by decide) (by decide) (by decide)).eq (kq _ (z1h 4) (by decide) (by decide) (by decide) (by decide) (by decide))) (by decide) (by kernel_rfl)
theorem zdP:PCall P 122 [j5 5] (Z0 (z1h 5)):=za9 ((z0B (0) (-1) (0) (1) (4) (by decide) (by decide) (by decide) (by decide) (by decide) (by decide)).eq (kq _ (z1h 5) (by decide) (by decide) (by decide) (by decide) (by decide))) (by decide) (by kernel_rfl)
theorem zdB:PCall P 122 [j5 6] (Z0 (z1h 6)):=za9 ((z0B (0) (0) (0) (0) (1) (by decide) (by decide) (by decide) (by decide) (by decide) (by decide)).eq (kq _ (z1h 6) (by decide) (by decide) (by decide) (by decide) (by decide))) (by decide) (by kernel_rfl)
theorem z1M(i:Int)(h:0≤i∧i<7):PCall P 122 [j5 i] (Z0 (z1h i.toNat)):=by
 have hc:i=0∨i=1∨i=2∨i=3∨i=4∨i=5∨i=6:=by omega
 rcases hc with rfl|rfl|rfl|rfl|rfl|rfl|rfl
 · exact zda
 · exact zdj
 · exact zew
 · exact zdo
 · exact zf1
 · exact zdP
 · exact zdB
theorem zkP(i:Int)(h1:decide (i.tmod 24<0)=true):PCall P 31 [j5 i] (.lit (.int .i64 (i64.wrap (i.tmod 24+24)))):=
 j3 (.c (nz 24) (.b 6 h1 .nil)) (by kernel_rfl)
theorem zms(i:Int)(h1:decide (i.tmod 24<0)=false):PCall P 31 [j5 i] (.lit (.int .i64 (i.tmod 24))):=
 j3 (.c (nz 24) (.b 6 h1 .nil)) (by kernel_rfl)
theorem zk9(i:Int):PCall P 32 [j5 i] (.lit (.int .i64 ((i64.wrap (i.tmod 24+24)).tmod 24))):=
 j3 (.c (nz 24) (.c (nz 24) .nil)) (by kernel_rfl)
theorem zjg(i:Int):(decide (i.tmod 24<0)=true→i64.wrap (i.tmod 24+24)=i%24)∧(decide (i.tmod 24<0)=false→i.tmod 24=i%24)∧(i64.wrap (i.tmod 24+24)).tmod 24=i%24:=by
 have e:=Int.mul_tdiv_add_tmod i 24
 have b1:=Int.tmod_lt_of_pos i (show(0:Int)<24 by decide)
 have b2:=Int.lt_tmod_of_pos i (show(0:Int)<24 by decide)
 generalize i.tmod 24=t at e b1 b2 ⊢
 generalize i.tdiv 24=q at e
 rw[w64 (by omega),Int.tmod_eq_emod_of_nonneg (by omega)]
 simp only[decide_eq_true_eq,decide_eq_false_iff_not]
 omega
theorem z2X(i:Int):PCall P 31 [j5 i] (j5 (i%24)):=by
 cases h:decide (i.tmod 24<0)with
 |true=>exact(zkP i h).eq (congrArg (fun x=>j5 x) ((zjg i).1 h))
 |false=>exact(zms i h).eq (congrArg (fun x=>j5 x) ((zjg i).2.1 h))
theorem Y4(i:Int):PCall P 32 [j5 i] (j5 (i%24)):=(zk9 i).eq (congrArg (fun x=>j5 x) (zjg i).2.2)
theorem ziT(i:Int)(h1:decide (i%24>12)=true)(h2:decide (i64.wrap ((24:Int)-i%24)>6)=true)(a:(0:Int)≤i64.wrap ((12:Int)-i64.wrap ((24:Int)-i%24))∧i64.wrap ((12:Int)-i64.wrap ((24:Int)-i%24))<7)(d:Smk (z1h (i64.wrap ((12:Int)-i64.wrap ((24:Int)-i%24))).toNat)):PCall P 33 [j5 i] (Z0 (-z1h (i64.wrap ((12:Int)-i64.wrap ((24:Int)-i%24))).toNat)):=
 j3 (.r 2 (z2X i) (.b 6 h1 (.b 12 h2 (.r 15 (z1M (i64.wrap ((12:Int)-i64.wrap ((24:Int)-i%24))) a) (.r 16 (zaE (z1h (i64.wrap ((12:Int)-i64.wrap ((24:Int)-i%24))).toNat) d) (.c (lq 10 10) .nil)))))) (by kernel_rfl)
theorem zn1(i:Int)(h1:decide (i%24>12)=true)(h2:decide (i64.wrap ((24:Int)-i%24)>6)=false)(a:(0:Int)≤i64.wrap ((24:Int)-i%24)∧i64.wrap ((24:Int)-i%24)<7):PCall P 33 [j5 i] (Z0 (z1h (i64.wrap ((24:Int)-i%24)).toNat)):=
 j3 (.r 2 (z2X i) (.b 6 h1 (.b 12 h2 (.r 14 (z1M (i64.wrap ((24:Int)-i%24)) a) (.c (lq 10 10) .nil))))) (by kernel_rfl)
theorem zkR(i:Int)(h1:decide (i%24>12)=false)(h2:decide (i%24>6)=true)(a:(0:Int)≤i64.wrap ((12:Int)-i%24)∧i64.wrap ((12:Int)-i%24)<7)(d:Smk (z1h (i64.wrap ((12:Int)-i%24)).toNat)):PCall P 33 [j5 i] (Z0 (-z1h (i64.wrap ((12:Int)-i%24)).toNat)):=
 j3 (.r 2 (z2X i) (.b 6 h1 (.b 9 h2 (.r 12 (z1M (i64.wrap ((12:Int)-i%24)) a) (.r 13 (zaE (z1h (i64.wrap ((12:Int)-i%24)).toNat) d) (.c (lq 10 10) .nil)))))) (by kernel_rfl)
theorem zk2(i:Int)(h1:decide (i%24>12)=false)(h2:decide (i%24>6)=false)(a:(0:Int)≤i%24∧i%24<7):PCall P 33 [j5 i] (Z0 (z1h (i%24).toNat)):=
 j3 (.r 2 (z2X i) (.b 6 h1 (.b 9 h2 (.r 11 (z1M (i%24) a) (.c (lq 10 10) .nil))))) (by kernel_rfl)
def z5o(i:Int):K:=
 let j:=i%24
 let k:=if j>12 then 24-j else j
 if k>6 then-z1h (12-k).toNat else z1h k.toNat
def z9n(i:Int):K:=z5o (i%24-6)
theorem zcQ(n:Nat):Smk (z1h n):=by
 match n with
 |0=>decide
 |1=>decide
 |2=>decide
 |3=>decide
 |4=>decide
 |5=>decide
 |_+6=>exact(by decide:Smk (z1h 6))
theorem z8q(i:Int):PCall P 33 [j5 i] (Z0 (z5o i)):=by
 have e1:i64.wrap (24-i%24)=24-i%24:=w64 (by omega)
 have e2:i64.wrap (12-i%24)=12-i%24:=w64 (by omega)
 have e3:i64.wrap (12-(24-i%24))=12-(24-i%24):=w64 (by omega)
 cases h1:decide (i%24>12)with
 |true=>
  have h1':=of_decide_eq_true h1
  cases h2:decide (24-i%24>6)with
  |true=>
   have h2':=of_decide_eq_true h2
   refine(ziT i h1 (by rw[e1];exact h2) (by rw[e1,e3];omega) (zcQ _)).eq ?_
   rw[e1,e3];simp only[z5o,if_pos h1',if_pos h2']
  |false=>
   have h2':=of_decide_eq_false h2
   refine(zn1 i h1 (by rw[e1];exact h2) (by rw[e1];omega)).eq ?_
   rw[e1];simp only[z5o,if_pos h1',if_neg h2']
 |false=>
  have h1':=of_decide_eq_false h1
  cases h2:decide (i%24>6)with
  |true=>
   have h2':=of_decide_eq_true h2
   refine(zkR i h1 h2 (by rw[e2];omega) (zcQ _)).eq ?_
   rw[e2];simp only[z5o,if_neg h1',if_pos h2']
  |false=>
   have h2':=of_decide_eq_false h2
   refine(zk2 i h1 h2 (by omega)).eq ?_
   simp only[z5o,if_neg h1',if_neg h2']
theorem zdh (a b c d e : Int) (he : e ≠ 0) (ha : a.natAbs < 256 ^ 7) (hb : b.natAbs < 256 ^ 7) (hc : c.natAbs < 256 ^ 7) (hd : d.natAbs < 256 ^ 7) (hl : e.natAbs < 256 ^ 7) :
    PCall P 191 [c4C a b c d,J2 e] (.tup [Z0 (K.of a b c d e),j5 0]):=zno a b c d e (by simpa using he) he ha hb hc hd hl
theorem zoI (a b c d : Int) (ha : a.natAbs < 256 ^ 7) (hb : b.natAbs < 256 ^ 7) (hc : c.natAbs < 256 ^ 7) (hd : d.natAbs < 256 ^ 7) :
    PCall P 191 [c4C a b c d,.agg [.lit (.bool false),X1 (bytesOf 4)]] (.tup [Z0 (K.of a b c d 4),j5 0]):=zdh a b c d 4 (by decide) ha hb hc hd (by decide)
theorem zrU(a b c d:Int)(e:(-9223372036854775808:Int)≤a∧a≤9223372036854775807)(f:(-9223372036854775808:Int)≤b∧b≤9223372036854775807)(g:(-9223372036854775808:Int)≤c∧c≤9223372036854775807)(i:(-9223372036854775808:Int)≤d∧d≤9223372036854775807)(j:(-9223372036854775808:Int)≤4∧(4:Int)≤9223372036854775807)(k:a.natAbs<256^7)(l:b.natAbs<256^7)(m:c.natAbs<256^7)(n:d.natAbs<256^7):PCall P 123 [j5 a,j5 b,j5 c,j5 d] (Z0 (K.of a b c d (4:Int))):=
 j3 (.r 2 (Z5 a e) (.r 4 (Z5 b f) (.r 6 (Z5 c g) (.r 8 (Z5 d i) (.r 10 (Z5 (4:Int) j) (.r 11 (zoI a b c d k l m n) (.c (lq 10 10) (.c (lq 10 10) .nil)))))))) (by kernel_rfl)
theorem RQt(a b c d:Int)(x:K)(ha:a.natAbs<256)(hb:b.natAbs<256)(hc:c.natAbs<256)(hd:d.natAbs<256)(h:K.of a b c d 4=x):PCall P 123 [j5 a,j5 b,j5 c,j5 d] (Z0 x):=by
 have k:(256:Nat)≤256^7:=by decide
 exact h ▸ zrU a b c d (by omega) (by omega) (by omega) (by omega) (by decide) (Nat.lt_of_lt_of_le ha k) (Nat.lt_of_lt_of_le hb k) (Nat.lt_of_lt_of_le hc k) (Nat.lt_of_lt_of_le hd k)
theorem RQ0:PCall P 123 [j5 (4),j5 (0),j5 (0),j5 (0)] (Z0 (z1h 0)):=RQt _ _ _ _ _ (by decide) (by decide) (by decide) (by decide) (by decide)
theorem RQ1:PCall P 123 [j5 (0),j5 (1),j5 (0),j5 (1)] (Z0 (z1h 1)):=RQt _ _ _ _ _ (by decide) (by decide) (by decide) (by decide) (by decide)
theorem RQ2:PCall P 123 [j5 (0),j5 (0),j5 (2),j5 (0)] (Z0 (z1h 2)):=RQt _ _ _ _ _ (by decide) (by decide) (by decide) (by decide) (by decide)
theorem RQ3:PCall P 123 [j5 (0),j5 (2),j5 (0),j5 (0)] (Z0 (z1h 3)):=RQt _ _ _ _ _ (by decide) (by decide) (by decide) (by decide) (by decide)
theorem RQ4:PCall P 123 [j5 (2),j5 (0),j5 (0),j5 (0)] (Z0 (z1h 4)):=RQt _ _ _ _ _ (by decide) (by decide) (by decide) (by decide) (by decide)
theorem RQ5:PCall P 123 [j5 (0),j5 (-1),j5 (0),j5 (1)] (Z0 (z1h 5)):=RQt _ _ _ _ _ (by decide) (by decide) (by decide) (by decide) (by decide)
theorem RQ6:PCall P 123 [j5 (0),j5 (0),j5 (0),j5 (0)] (Z0 (z1h 6)):=RQt _ _ _ _ _ (by decide) (by decide) (by decide) (by decide) (by decide)
theorem ziZ:PCall P 34 [j5 0] (.agg [.lit (.bool false),.lit (.string (bytesOf 1)),.lit (.bool false),.lit (.string (bytesOf 0)),.lit (.bool false),.lit (.string (bytesOf 0)),.lit (.bool false),.lit (.string (bytesOf 0)),.lit (.bool false),.lit (.string (bytesOf 1))]):=
 j3 (.r 2 (Y4 (0:Int)) (.r 11 RQ0 (.c (lq 10 10) .nil))) (by kernel_rfl)
theorem ziQ:PCall P 34 [j5 1] (.agg [.lit (.bool false),.lit (.string (bytesOf 0)),.lit (.bool false),.lit (.string (bytesOf 1)),.lit (.bool false),.lit (.string (bytesOf 0)),.lit (.bool false),.lit (.string (bytesOf 1)),.lit (.bool false),.lit (.string (bytesOf 4))]):=
 j3 (.r 2 (Y4 (1:Int)) (.r 14 RQ1 (.c (lq 10 10) .nil))) (by kernel_rfl)
theorem zk3:PCall P 34 [j5 2] (.agg [.lit (.bool false),.lit (.string (bytesOf 0)),.lit (.bool false),.lit (.string (bytesOf 0)),.lit (.bool false),.lit (.string (bytesOf 1)),.lit (.bool false),.lit (.string (bytesOf 0)),.lit (.bool false),.lit (.string (bytesOf 2))]):=
 j3 (.r 2 (Y4 (2:Int)) (.r 17 RQ2 (.c (lq 10 10) .nil))) (by kernel_rfl)
theorem zjf:PCall P 34 [j5 3] (.agg [.lit (.bool false),.lit (.string (bytesOf 0)),.lit (.bool false),.lit (.string (bytesOf 1)),.lit (.bool false),.lit (.string (bytesOf 0)),.lit (.bool false),.lit (.string (bytesOf 0)),.lit (.bool false),.lit (.string (bytesOf 2))]):=
 j3 (.r 2 (Y4 (3:Int)) (.r 20 RQ3 (.c (lq 10 10) .nil))) (by kernel_rfl)
theorem zmr:PCall P 34 [j5 4] (.agg [.lit (.bool false),.lit (.string (bytesOf 1)),.lit (.bool false),.lit (.string (bytesOf 0)),.lit (.bool false),.lit (.string (bytesOf 0)),.lit (.bool false),.lit (.string (bytesOf 0)),.lit (.bool false),.lit (.string (bytesOf 2))]):=
 j3 (.r 2 (Y4 (4:Int)) (.r 23 RQ4 (.c (lq 10 10) .nil))) (by kernel_rfl)
theorem zmO:PCall P 34 [j5 5] (.agg [.lit (.bool false),.lit (.string (bytesOf 0)),.lit (.bool true),.lit (.string (bytesOf 1)),.lit (.bool false),.lit (.string (bytesOf 0)),.lit (.bool false),.lit (.string (bytesOf 1)),.lit (.bool false),.lit (.string (bytesOf 4))]):=
 j3 (.r 2 (Y4 (5:Int)) (.r 26 RQ5 (.c (lq 10 10) .nil))) (by kernel_rfl)
theorem zic(j:Int)(h:0≤j∧j<6):PCall P 34 [j5 j] (Z0 (z1h j.toNat)):=by
 have:j=0∨j=1∨j=2∨j=3∨j=4∨j=5:=by omega
 rcases this with rfl|rfl|rfl|rfl|rfl|rfl
 · exact ziZ
 · exact ziQ
 · exact zk3
 · exact zjf
 · exact zmr
 · exact zmO
theorem Sm3.of{x:K}(h:x.c0.natAbs<256∧x.c1.natAbs<256∧x.c2.natAbs<256∧x.c3.natAbs<256∧x.d.natAbs<256):Sm3 x:=by
 intro i hi
 have k:(256:Nat)≤256^3:=by decide
 have:i=0∨i=1∨i=2∨i=3∨i=4:=by omega
 rcases this with rfl|rfl|rfl|rfl|rfl
 · exact Nat.lt_of_lt_of_le h.1 k
 · exact Nat.lt_of_lt_of_le h.2.1 k
 · exact Nat.lt_of_lt_of_le h.2.2.1 k
 · exact Nat.lt_of_lt_of_le h.2.2.2.1 k
 · exact Nat.lt_of_lt_of_le h.2.2.2.2 k
theorem zbk(n:Nat):Sm3 (z1h n):=by
 match n with
 |0|1|2|3|4|5=>exact Sm3.of (by decide)
 |_+6=>exact Sm3.of (by decide:(z1h 6).c0.natAbs<256∧(z1h 6).c1.natAbs<256∧(z1h 6).c2.natAbs<256∧(z1h 6).c3.natAbs<256∧(z1h 6).d.natAbs<256)
theorem zo9(i:Int)(h1:decide (i%24>12)=true)(h2:(i64.wrap ((24:Int)-i%24)==0)=true):PCall P 34 [j5 i] (.agg [.lit (.bool false),.lit (.string (bytesOf 1)),.lit (.bool false),.lit (.string (bytesOf 0)),.lit (.bool false),.lit (.string (bytesOf 0)),.lit (.bool false),.lit (.string (bytesOf 0)),.lit (.bool false),.lit (.string (bytesOf 1))]):=
 j3 (.r 2 (Y4 i) (.b 6 h1 (.b 13 h2 (.r 14 RQ0 (.c (lq 10 10) .nil))))) (by kernel_rfl)
theorem zpm(i:Int)(h1:decide (i%24>12)=true)(h2:(i64.wrap ((24:Int)-i%24)==0)=false)(h3:(i64.wrap ((24:Int)-i%24)==1)=true):PCall P 34 [j5 i] (.agg [.lit (.bool false),.lit (.string (bytesOf 0)),.lit (.bool false),.lit (.string (bytesOf 1)),.lit (.bool false),.lit (.string (bytesOf 0)),.lit (.bool false),.lit (.string (bytesOf 1)),.lit (.bool false),.lit (.string (bytesOf 4))]):=
 j3 (.r 2 (Y4 i) (.b 6 h1 (.b 13 h2 (.b 16 h3 (.r 17 RQ1 (.c (lq 10 10) .nil)))))) (by kernel_rfl)
theorem zpq(i:Int)(h1:decide (i%24>12)=true)(h2:(i64.wrap ((24:Int)-i%24)==0)=false)(h3:(i64.wrap ((24:Int)-i%24)==1)=false)(h4:(i64.wrap ((24:Int)-i%24)==2)=true):PCall P 34 [j5 i] (.agg [.lit (.bool false),.lit (.string (bytesOf 0)),.lit (.bool false),.lit (.string (bytesOf 0)),.lit (.bool false),.lit (.string (bytesOf 1)),.lit (.bool false),.lit (.string (bytesOf 0)),.lit (.bool false),.lit (.string (bytesOf 2))]):=
 j3 (.r 2 (Y4 i) (.b 6 h1 (.b 13 h2 (.b 16 h3 (.b 19 h4 (.r 20 RQ2 (.c (lq 10 10) .nil))))))) (by kernel_rfl)
theorem zoo(i:Int)(h1:decide (i%24>12)=true)(h2:(i64.wrap ((24:Int)-i%24)==0)=false)(h3:(i64.wrap ((24:Int)-i%24)==1)=false)(h4:(i64.wrap ((24:Int)-i%24)==2)=false)(h5:(i64.wrap ((24:Int)-i%24)==3)=true):PCall P 34 [j5 i] (.agg [.lit (.bool false),.lit (.string (bytesOf 0)),.lit (.bool false),.lit (.string (bytesOf 1)),.lit (.bool false),.lit (.string (bytesOf 0)),.lit (.bool false),.lit (.string (bytesOf 0)),.lit (.bool false),.lit (.string (bytesOf 2))]):=
 j3 (.r 2 (Y4 i) (.b 6 h1 (.b 13 h2 (.b 16 h3 (.b 19 h4 (.b 22 h5 (.r 23 RQ3 (.c (lq 10 10) .nil)))))))) (by kernel_rfl)
theorem zs7(i:Int)(h1:decide (i%24>12)=true)(h2:(i64.wrap ((24:Int)-i%24)==0)=false)(h3:(i64.wrap ((24:Int)-i%24)==1)=false)(h4:(i64.wrap ((24:Int)-i%24)==2)=false)(h5:(i64.wrap ((24:Int)-i%24)==3)=false)(h6:(i64.wrap ((24:Int)-i%24)==4)=true):PCall P 34 [j5 i] (.agg [.lit (.bool false),.lit (.string (bytesOf 1)),.lit (.bool false),.lit (.string (bytesOf 0)),.lit (.bool false),.lit (.string (bytesOf 0)),.lit (.bool false),.lit (.string (bytesOf 0)),.lit (.bool false),.lit (.string (bytesOf 2))]):=
 j3 (.r 2 (Y4 i) (.b 6 h1 (.b 13 h2 (.b 16 h3 (.b 19 h4 (.b 22 h5 (.b 25 h6 (.r 26 RQ4 (.c (lq 10 10) .nil))))))))) (by kernel_rfl)
theorem znQ(i:Int)(h1:decide (i%24>12)=true)(h2:(i64.wrap ((24:Int)-i%24)==0)=false)(h3:(i64.wrap ((24:Int)-i%24)==1)=false)(h4:(i64.wrap ((24:Int)-i%24)==2)=false)(h5:(i64.wrap ((24:Int)-i%24)==3)=false)(h6:(i64.wrap ((24:Int)-i%24)==4)=false)(h7:(i64.wrap ((24:Int)-i%24)==5)=true):PCall P 34 [j5 i] (.agg [.lit (.bool false),.lit (.string (bytesOf 0)),.lit (.bool true),.lit (.string (bytesOf 1)),.lit (.bool false),.lit (.string (bytesOf 0)),.lit (.bool false),.lit (.string (bytesOf 1)),.lit (.bool false),.lit (.string (bytesOf 4))]):=
 j3 (.r 2 (Y4 i) (.b 6 h1 (.b 13 h2 (.b 16 h3 (.b 19 h4 (.b 22 h5 (.b 25 h6 (.b 28 h7 (.r 29 RQ5 (.c (lq 10 10) .nil)))))))))) (by kernel_rfl)
theorem zo8(i:Int)(h1:decide (i%24>12)=true)(h2:(i64.wrap ((24:Int)-i%24)==0)=false)(h3:(i64.wrap ((24:Int)-i%24)==1)=false)(h4:(i64.wrap ((24:Int)-i%24)==2)=false)(h5:(i64.wrap ((24:Int)-i%24)==3)=false)(h6:(i64.wrap ((24:Int)-i%24)==4)=false)(h7:(i64.wrap ((24:Int)-i%24)==5)=false)(h8:(i64.wrap ((24:Int)-i%24)==6)=true):PCall P 34 [j5 i] (.agg [.lit (.bool false),.lit (.string (bytesOf 0)),.lit (.bool false),.lit (.string (bytesOf 0)),.lit (.bool false),.lit (.string (bytesOf 0)),.lit (.bool false),.lit (.string (bytesOf 0)),.lit (.bool false),.lit (.string (bytesOf 1))]):=
 j3 (.r 2 (Y4 i) (.b 6 h1 (.b 13 h2 (.b 16 h3 (.b 19 h4 (.b 22 h5 (.b 25 h6 (.b 28 h7 (.b 31 h8 (.r 32 RQ6 (.c (lq 10 10) .nil))))))))))) (by kernel_rfl)
theorem zs5(i:Int)(h1:decide (i%24>12)=true)(h2:(i64.wrap ((24:Int)-i%24)==0)=false)(h3:(i64.wrap ((24:Int)-i%24)==1)=false)(h4:(i64.wrap ((24:Int)-i%24)==2)=false)(h5:(i64.wrap ((24:Int)-i%24)==3)=false)(h6:(i64.wrap ((24:Int)-i%24)==4)=false)(h7:(i64.wrap ((24:Int)-i%24)==5)=false)(h8:(i64.wrap ((24:Int)-i%24)==6)=false)(a:(0:Int)≤i64.wrap ((12:Int)-i64.wrap ((24:Int)-i%24))∧i64.wrap ((12:Int)-i64.wrap ((24:Int)-i%24))<6)(d:Sm3 (z1h (i64.wrap ((12:Int)-i64.wrap ((24:Int)-i%24))).toNat)):PCall P 34 [j5 i] (Z0 (-z1h (i64.wrap ((12:Int)-i64.wrap ((24:Int)-i%24))).toNat)):=
 j3 (.r 2 (Y4 i) (.b 6 h1 (.b 13 h2 (.b 16 h3 (.b 19 h4 (.b 22 h5 (.b 25 h6 (.b 28 h7 (.b 31 h8 (.r 34 (zic (i64.wrap ((12:Int)-i64.wrap ((24:Int)-i%24))) a) (.r 35 (zf8 (z1h (i64.wrap ((12:Int)-i64.wrap ((24:Int)-i%24))).toNat) d) (.c (lq 10 10) .nil)))))))))))) (by kernel_rfl)
theorem zoy(i:Int)(h1:decide (i%24>12)=false)(h2:(i%24==0)=true):PCall P 34 [j5 i] (.agg [.lit (.bool false),.lit (.string (bytesOf 1)),.lit (.bool false),.lit (.string (bytesOf 0)),.lit (.bool false),.lit (.string (bytesOf 0)),.lit (.bool false),.lit (.string (bytesOf 0)),.lit (.bool false),.lit (.string (bytesOf 1))]):=
 j3 (.r 2 (Y4 i) (.b 6 h1 (.b 10 h2 (.r 11 RQ0 (.c (lq 10 10) .nil))))) (by kernel_rfl)
theorem zjQ(i:Int)(h1:decide (i%24>12)=false)(h2:(i%24==0)=false)(h3:(i%24==1)=true):PCall P 34 [j5 i] (.agg [.lit (.bool false),.lit (.string (bytesOf 0)),.lit (.bool false),.lit (.string (bytesOf 1)),.lit (.bool false),.lit (.string (bytesOf 0)),.lit (.bool false),.lit (.string (bytesOf 1)),.lit (.bool false),.lit (.string (bytesOf 4))]):=
 j3 (.r 2 (Y4 i) (.b 6 h1 (.b 10 h2 (.b 13 h3 (.r 14 RQ1 (.c (lq 10 10) .nil)))))) (by kernel_rfl)
theorem zk6(i:Int)(h1:decide (i%24>12)=false)(h2:(i%24==0)=false)(h3:(i%24==1)=false)(h4:(i%24==2)=true):PCall P 34 [j5 i] (.agg [.lit (.bool false),.lit (.string (bytesOf 0)),.lit (.bool false),.lit (.string (bytesOf 0)),.lit (.bool false),.lit (.string (bytesOf 1)),.lit (.bool false),.lit (.string (bytesOf 0)),.lit (.bool false),.lit (.string (bytesOf 2))]):=
 j3 (.r 2 (Y4 i) (.b 6 h1 (.b 10 h2 (.b 13 h3 (.b 16 h4 (.r 17 RQ2 (.c (lq 10 10) .nil))))))) (by kernel_rfl)
theorem zn2(i:Int)(h1:decide (i%24>12)=false)(h2:(i%24==0)=false)(h3:(i%24==1)=false)(h4:(i%24==2)=false)(h5:(i%24==3)=true):PCall P 34 [j5 i] (.agg [.lit (.bool false),.lit (.string (bytesOf 0)),.lit (.bool false),.lit (.string (bytesOf 1)),.lit (.bool false),.lit (.string (bytesOf 0)),.lit (.bool false),.lit (.string (bytesOf 0)),.lit (.bool false),.lit (.string (bytesOf 2))]):=
 j3 (.r 2 (Y4 i) (.b 6 h1 (.b 10 h2 (.b 13 h3 (.b 16 h4 (.b 19 h5 (.r 20 RQ3 (.c (lq 10 10) .nil)))))))) (by kernel_rfl)
theorem zkV(i:Int)(h1:decide (i%24>12)=false)(h2:(i%24==0)=false)(h3:(i%24==1)=false)(h4:(i%24==2)=false)(h5:(i%24==3)=false)(h6:(i%24==4)=true):PCall P 34 [j5 i] (.agg [.lit (.bool false),.lit (.string (bytesOf 1)),.lit (.bool false),.lit (.string (bytesOf 0)),.lit (.bool false),.lit (.string (bytesOf 0)),.lit (.bool false),.lit (.string (bytesOf 0)),.lit (.bool false),.lit (.string (bytesOf 2))]):=
 j3 (.r 2 (Y4 i) (.b 6 h1 (.b 10 h2 (.b 13 h3 (.b 16 h4 (.b 19 h5 (.b 22 h6 (.r 23 RQ4 (.c (lq 10 10) .nil))))))))) (by kernel_rfl)
theorem zm8(i:Int)(h1:decide (i%24>12)=false)(h2:(i%24==0)=false)(h3:(i%24==1)=false)(h4:(i%24==2)=false)(h5:(i%24==3)=false)(h6:(i%24==4)=false)(h7:(i%24==5)=true):PCall P 34 [j5 i] (.agg [.lit (.bool false),.lit (.string (bytesOf 0)),.lit (.bool true),.lit (.string (bytesOf 1)),.lit (.bool false),.lit (.string (bytesOf 0)),.lit (.bool false),.lit (.string (bytesOf 1)),.lit (.bool false),.lit (.string (bytesOf 4))]):=
 j3 (.r 2 (Y4 i) (.b 6 h1 (.b 10 h2 (.b 13 h3 (.b 16 h4 (.b 19 h5 (.b 22 h6 (.b 25 h7 (.r 26 RQ5 (.c (lq 10 10) .nil)))))))))) (by kernel_rfl)
theorem zje(i:Int)(h1:decide (i%24>12)=false)(h2:(i%24==0)=false)(h3:(i%24==1)=false)(h4:(i%24==2)=false)(h5:(i%24==3)=false)(h6:(i%24==4)=false)(h7:(i%24==5)=false)(h8:(i%24==6)=true):PCall P 34 [j5 i] (.agg [.lit (.bool false),.lit (.string (bytesOf 0)),.lit (.bool false),.lit (.string (bytesOf 0)),.lit (.bool false),.lit (.string (bytesOf 0)),.lit (.bool false),.lit (.string (bytesOf 0)),.lit (.bool false),.lit (.string (bytesOf 1))]):=
 j3 (.r 2 (Y4 i) (.b 6 h1 (.b 10 h2 (.b 13 h3 (.b 16 h4 (.b 19 h5 (.b 22 h6 (.b 25 h7 (.b 28 h8 (.r 29 RQ6 (.c (lq 10 10) .nil))))))))))) (by kernel_rfl)
theorem zlS(i:Int)(h1:decide (i%24>12)=false)(h2:(i%24==0)=false)(h3:(i%24==1)=false)(h4:(i%24==2)=false)(h5:(i%24==3)=false)(h6:(i%24==4)=false)(h7:(i%24==5)=false)(h8:(i%24==6)=false)(a:(0:Int)≤i64.wrap ((12:Int)-i%24)∧i64.wrap ((12:Int)-i%24)<6)(d:Sm3 (z1h (i64.wrap ((12:Int)-i%24)).toNat)):PCall P 34 [j5 i] (Z0 (-z1h (i64.wrap ((12:Int)-i%24)).toNat)):=
 j3 (.r 2 (Y4 i) (.b 6 h1 (.b 10 h2 (.b 13 h3 (.b 16 h4 (.b 19 h5 (.b 22 h6 (.b 25 h7 (.b 28 h8 (.r 31 (zic (i64.wrap ((12:Int)-i%24)) a) (.r 32 (zf8 (z1h (i64.wrap ((12:Int)-i%24)).toNat) d) (.c (lq 10 10) .nil)))))))))))) (by kernel_rfl)
end Go.Fw
