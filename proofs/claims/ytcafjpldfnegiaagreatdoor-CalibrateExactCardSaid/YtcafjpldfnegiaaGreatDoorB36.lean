/- A part of the proof that the law returns true for every input: an executor for the model's code, and what functions of the program compute. -/
import Derived.Test.YtcafjpldfnegiaaGreatDoorB11
import Derived.Test.YtcafjpldfnegiaaGreatDoorB15
import Derived.Test.YtcafjpldfnegiaaGreatDoorB28
import Derived.Test.YtcafjpldfnegiaaGreatDoorB33
import Derived.Test.YtcafjpldfnegiaaGreatDoorB35
import Derived.KernelRfl
open Go IntKind
open Go Go.ChangeMaps
namespace Go.Fw
set_option maxRecDepth 100000
def znI:List Nat:=[0,1,2,3,4,10,11,21]
theorem zgt {R : Goal} {k : List Item} {a n2 n3 n6 d key v : Int} {acc root : K} {r : Nat} {es : Array MapEntry} {seen : Array Nat} (hR : R.n = 0)
    (hv:v.natAbs<256) (hroot:PCall P 235 [j7 key] (Y6 root)) (hsr:root.sz≤1) (hs:acc.sz<10000)
    (h:OkX P 190 k ⟨tmN a n2 n3 n6 d .unk .unk (z8h r) .unk,hpN (acc+K.ofInt v*root)⟩ R (XI r es 3 seen)):
    OkX P 190 (.code zfV::k) ⟨tmN a n2 n3 n6 d (.cv (.lit (.int .i64 key))) (.cv (.lit (.int .i64 v))) (z8h r) (.cv (.lit (.bool true))),hpN acc⟩ R (XI r es 3 seen):=by
 have hsv:(K.ofInt v).sz≤1:=K.sz_int v (Nat.le_refl _) (by omega)
 have hsm:=K.sz_mul (K.ofInt v) root
 have c1:PCall P 144 [j7 v] (Y6 (K.ofInt v)):=z0d v (by omega)
 have c2:PCall P 136 [Y6 (K.ofInt v),Y6 root] (Y6 (K.ofInt v*root)):=z4I _ _ (by omega)
 have c3:PCall P 137 [Y6 acc,Y6 (K.ofInt v*root)] (Y6 (acc+K.ofInt v*root)):=z5Y _ _ (by omega)
 have z1:CvL ZN:=CvL.map_cv (List.replicate 5 [CV.lit (.bool false),CV.lit (.string ⟨#[]⟩)]).flatten
 have z2:CvL (MV.cv (Y6 (acc+K.ofInt v*root))).cells:=CvL.map_cv _
 exact OkX.regS (ors:=[(2,.r (Y6 (K.ofInt v))),(4,.r (Y6 root)),(5,.r (Y6 (K.ofInt v*root))),(6,.r (Y6 (acc+K.ofInt v*root)))]) znI [0,1]
  (by kernel_rfl) rfl (.cons c1 (.cons hroot (.cons c2 (.cons c3 (.cons (show 10≤10 by decide) (.cons z1 (.cons z2 .nil))))))) rfl rfl hR h
def z0I(n2 n3 n6:Int)(seen:Array Nat):K:=
 (if seen.contains 0 then K.ofInt 0 else K.ofInt n2*K.r2)+(if seen.contains 1 then K.ofInt 0 else K.ofInt n3*K.r3)+(if seen.contains 2 then K.ofInt 0 else K.ofInt n6*K.r6)
theorem zco{n2 n3 n6:Int}{seen:Array Nat}(h:(leftOf (z1h n2 n3 n6) seen).size=0)(acc:K):acc+z0I n2 n3 n6 seen=acc:=by
 have:=all_seen _ _ h
 have h0:seen.contains 0=true:=this ⟨.int .i64 2,.int .i64 n2,0⟩ (by simp[z1h])
 have h1:seen.contains 1=true:=this ⟨.int .i64 3,.int .i64 n3,1⟩ (by simp[z1h])
 have h2:seen.contains 2=true:=this ⟨.int .i64 6,.int .i64 n6,2⟩ (by simp[z1h])
 unfold z0I
 rw[h0,h1,h2]
 exact(show ∀ρ:Nat→K,ρ 0+(CR.ofInt 0+CR.ofInt 0+CR.ofInt 0)=ρ 0 from fun ρ=>CR.ring ρ rfl) (CR.vr [acc])
theorem z5n {n2 n3 n6 : Int} {seen : Array Nat} {acc : K} :
    (seen.contains 0=false→acc+K.ofInt n2*K.r2+z0I n2 n3 n6 (seen.push 0)=acc+z0I n2 n3 n6 seen)∧
    (seen.contains 1=false→acc+K.ofInt n3*K.r3+z0I n2 n3 n6 (seen.push 1)=acc+z0I n2 n3 n6 seen)∧
    (seen.contains 2=false→acc+K.ofInt n6*K.r6+z0I n2 n3 n6 (seen.push 2)=acc+z0I n2 n3 n6 seen):=by
 unfold z0I
 simp only[contains_push]
 refine⟨fun h=>?_,fun h=>?_,fun h=>?_⟩
 · rw[h,show(1==0:Bool)=false from rfl,show(2==0:Bool)=false from rfl,show(0==0:Bool)=true from rfl,Bool.or_false,Bool.or_false,Bool.or_true]
   exact(show ∀ρ:Nat→K,ρ 0+ρ 1+(CR.ofInt 0+ρ 2+ρ 3)=ρ 0+(ρ 1+ρ 2+ρ 3)from fun ρ=>CR.ring ρ rfl) (CR.vr [acc,_,_,_])
 · rw[h,show(0==1:Bool)=false from rfl,show(2==1:Bool)=false from rfl,show(1==1:Bool)=true from rfl,Bool.or_false,Bool.or_false,Bool.or_true]
   exact(show ∀ρ:Nat→K,ρ 0+ρ 2+(ρ 1+CR.ofInt 0+ρ 3)=ρ 0+(ρ 1+ρ 2+ρ 3)from fun ρ=>CR.ring ρ rfl) (CR.vr [acc,_,_,_])
 · rw[h,show(0==2:Bool)=false from rfl,show(1==2:Bool)=false from rfl,show(2==2:Bool)=true from rfl,Bool.or_false,Bool.or_false,Bool.or_true]
   exact(show ∀ρ:Nat→K,ρ 0+ρ 3+(ρ 1+ρ 2+CR.ofInt 0)=ρ 0+(ρ 1+ρ 2+ρ 3)from fun ρ=>CR.ring ρ rfl) (CR.vr [acc,_,_,_])
theorem z9M {R : Goal} {k : List Item} {a n2 n3 n6 d : Int} {tot : K} (hR : R.n = 0) (h2 : n2.natAbs < 256) (h3 : n3.natAbs < 256) (h6 : n6.natAbs < 256)
    (hk:Ok P 190 k ⟨tmN a n2 n3 n6 d .unk .unk .unk .unk,hpN tot⟩ R): ∀(n:Nat) (seen:Array Nat) (acc:K) (r:Nat),(leftOf (z1h n2 n3 n6) seen).size=n→acc+z0I n2 n3 n6 seen=tot→acc.sz+10*n<1000→
     OkX P 190 (.code z28:: .inLoop z28:: .inBlock 0::k) ⟨tmN a n2 n3 n6 d .unk .unk (z8h r) .unk,hpN acc⟩ R (XI r (z1h n2 n3 n6) 3 seen):=by
 intro n
 induction n using Nat.strongRecOn with
 |ind n ih=>
 intro seen acc r hn ht hs
 show OkX P 190 (.code (.seq reg3 (.seq (.cond (.tmp 23) .skip (.exit 0)) (.block 1 (.seq reg4 zfV))))::_) _ _ _
 refine OkX.step ?_ (fun b a cs w=>step_seq)
 intro w0 I p act w b cs q1 q2 q3 q31 q32 q4 q5 q6
 obtain⟨bm,m1,m2,m3⟩:=q6.m
 have hst: ∀x∈(z1h n2 n3 n6).toList,x.born<3:=by simp[z1h]
 have hnd:((z1h n2 n3 n6).toList.map (·.born)).Nodup:=by simp[z1h]
 rcases run_next_at (P:=P) w 0 r bm 3 3 seen (z1h n2 n3 n6) 3 m2 m1 hst (Nat.le_refl _)with⟨h0,hrun⟩|⟨e,he,w1,hal,hrun⟩
 · obtain⟨a',hrel,hst⟩:=zcg (k:= .code (.seq (.cond (.tmp 23) .skip (.exit 0)) (.block 1 (.seq reg4 zfV))):: .inLoop z28:: .inBlock 0::k) w0 I p act w q4 (fun ty=>hrun) b cs
   rw[←ht,zco h0]at hk
   have z1:CvL ZN:=CvL.map_cv (List.replicate 5 [CV.lit (.bool false),CV.lit (.string ⟨#[]⟩)]).flatten
   have z2:CvL (MV.cv (Y6 acc)).cells:=CvL.map_cv _
   have hfin:Ok P 190 (.code (.seq (.cond (.tmp 23) .skip (.exit 0)) (.block 1 (.seq reg4 zfV))):: .inLoop z28:: .inBlock 0::k) ⟨tmN a n2 n3 n6 d .unk .unk (z8h r) (.cv (.lit (.bool false))),hpN acc⟩ R:=by
    refine Ok.step ?_ (fun b a cs w=>step_seq)
    refine Ok.cond (t:=false) (d:=false) rfl rfl ?_
    refine Ok.step (todo':=k) ?_ (fun b a cs w=>step_exit (by rfl))
    exact Ok.sel [0,1,2,3,4,10,11] [0,1] rfl (by rw[hR];rfl) (show AllP [CvL ZN,CvL (MV.cv (Y6 acc)).cells]from⟨z1,z2⟩) hk
   obtain⟨e,w',fr,k1,k2,k3⟩:=hfin w0 I p a' w b cs q1 q2 q3 q31 q32 hrel q5
   exact⟨e,w',fr,k1,.of_steps hst k2,k3⟩
 · obtain ⟨a', w', hrel, hX, hst⟩ := zbg (_R := R) (k := .code (.seq (.cond (.tmp 23) .skip (.exit 0)) (.block 1 (.seq reg4 zfV))) :: .inLoop z28 :: .inBlock 0 :: k) w0 I p act w w1 q4 q6 hal (fun ty bm' g1 g2 => by
     rw[m2]at g2;cases g2;exact hrun) b cs
   have hem:=(mem_left he).1
   have hsh:=left_shrinks (z1h n2 n3 n6) seen e he
   have hns:=(mem_left he).2
   have step5 : ∀ {key v : Int} {root : K}, e.key = .int .i64 key → e.val = .int .i64 v → v.natAbs < 256 → PCall P 235 [j7 key] (Y6 root) → root.sz ≤ 1 → acc + K.ofInt v * root + z0I n2 n3 n6 (seen.push e.born) = tot →
       OkX P 190 (.code (.seq (.cond (.tmp 23) .skip (.exit 0)) (.block 1 (.seq reg4 zfV))):: .inLoop z28:: .inBlock 0::k) ⟨tmN a n2 n3 n6 d .unk .unk (z8h r) (.cv (.lit (.bool true))),hpN acc⟩ R (XI r (z1h n2 n3 n6) 3 (seen.push e.born)):=by
    intro key v root hk1 hv1 hv2 hr1 hr2 hr3
    refine OkX.step ?_ (fun b a cs w=>step_seq)
    refine OkX.cond (t:=true) (d:=true) rfl rfl ?_
    refine OkX.step ?_ (fun b a cs w=>step_skip)
    refine OkX.step ?_ (fun b a cs w=>step_block)
    refine OkX.step ?_ (fun b a cs w=>step_seq)
    refine zgp hem hnd ?_
    rw[hk1,hv1]
    refine zgt hR hv2 hr1 hr2 (by omega) ?_
    refine OkX.step ?_ (fun b a cs w=>step_inBlock)
    refine OkX.step ?_ (fun b a cs w=>step_inLoop)
    have hsv:(K.ofInt v).sz≤1:=K.sz_int v (Nat.le_refl _) (by omega)
    have hsm:=K.sz_mul (K.ofInt v) root
    have hsa:=K.sz_add acc (K.ofInt v*root)
    exact ih _ (hn ▸ hsh) (seen.push e.born) _ r rfl hr3 (by omega)
   have hall:OkX P 190 (.code (.seq (.cond (.tmp 23) .skip (.exit 0)) (.block 1 (.seq reg4 zfV))):: .inLoop z28:: .inBlock 0::k) ⟨tmN a n2 n3 n6 d .unk .unk (z8h r) (.cv (.lit (.bool true))),hpN acc⟩ R (XI r (z1h n2 n3 n6) 3 (seen.push e.born)):=by
    have hcase:e=⟨.int .i64 2,.int .i64 n2,0⟩∨e=⟨.int .i64 3,.int .i64 n3,1⟩∨e=⟨.int .i64 6,.int .i64 n6,2⟩:=by simpa[z1h]using hem
    rcases hcase with rfl|rfl|rfl
    · exact step5 rfl rfl h2 zhD (by decide) ((z5n.1 hns).trans ht)
    · exact step5 rfl rfl h3 zgo (by decide) ((z5n.2.1 hns).trans ht)
    · exact step5 rfl rfl h6 zhP (by decide) ((z5n.2.2 hns).trans ht)
   obtain⟨e,w',fr,k1,k2,k3⟩:=hall w0 I p a' w' b cs q1 q2 q3 q31 q32 hrel q5 hX
   exact⟨e,w',fr,k1,.of_steps hst k2,k3⟩
def zgi(a n2 n3 n6:Int):K:=K.ofInt a+(K.ofInt n2*K.r2+K.ofInt n3*K.r3+K.ofInt n6*K.r6)
theorem z0i (a n2 n3 n6 d : Int) (ha : a.natAbs < 256) (h2 : n2.natAbs < 256) (h3 : n3.natAbs < 256) (h6 : n6.natAbs < 256) (hd : d.natAbs < 256) (hd0 : K.ofInt d ≠ 0) :
    PCall P 190 [j7 a,j7 n2,j7 n3,j7 n6,j7 d] (Y6 (K.div (zgi a n2 n3 n6) (K.ofInt d))):=by
 have hsz: ∀v:Int,v.natAbs<256→(K.ofInt v).sz≤1:=fun v hv=>K.sz_int v (Nat.le_refl _) (by omega)
 have z1:CvL ZN:=CvL.map_cv (List.replicate 5 [CV.lit (.bool false),CV.lit (.string ⟨#[]⟩)]).flatten
 have z2:CvL (MV.cv (Y6 (K.ofInt a))).cells:=CvL.map_cv _
 have c1:PCall P 144 [j7 a] (Y6 (K.ofInt a)):=z0d a (by omega)
 have c2:PCall P 144 [j7 d] (Y6 (K.ofInt d)):=z0d d (by omega)
 have sm:=fun(v:Int) (w:K) (hv:v.natAbs<256) (hw:w.sz≤1)=>Nat.le_trans (K.sz_mul (K.ofInt v) w) (Nat.add_le_add_right (Nat.add_le_add (hsz v hv) hw) 1)
 have t2:=sm n2 K.r2 h2 (show K.r2.sz≤1 by decide)
 have t3:=sm n3 K.r3 h3 (show K.r3.sz≤1 by decide)
 have t6:=sm n6 K.r6 h6 (show K.r6.sz≤1 by decide)
 have u1:=K.sz_add (K.ofInt n2*K.r2) (K.ofInt n3*K.r3)
 have u2:=K.sz_add (K.ofInt n2*K.r2+K.ofInt n3*K.r3) (K.ofInt n6*K.r6)
 have u3:=K.sz_add (K.ofInt a) (K.ofInt n2*K.r2+K.ofInt n3*K.r3+K.ofInt n6*K.r6)
 have ua:=hsz a ha
 have ud:=hsz d hd
 have hs:(zgi a n2 n3 n6).sz≤100:=by unfold zgi;omega
 have c3:PCall P 147 [Y6 (zgi a n2 n3 n6),Y6 (K.ofInt d)] (.tup [Y6 (K.div (zgi a n2 n3 n6) (K.ofInt d)),j7 0]):=zfY _ _ hd0 (by omega)
 refine z1b (todo:=[.code z0m]) (s:=⟨([j7 a,j7 n2,j7 n3,j7 n6,j7 d].map .cv)++List.replicate 37 undefM,[]⟩) (rs:=_) rfl ?_
 rw[zaA]
 refine Ok.step ?_ (fun b a cs w=>step_seq)
 refine Ok.regS (s':=⟨(([j7 a,j7 n2,j7 n3,j7 n6,j7 d].map MV.cv)++List.replicate 5 .unk++[.ptr 0 0]++List.replicate 31 .unk),[some ZN]⟩) (ors:=[]) [0,1,2,3,4,10] [0] (by kernel_rfl) rfl (.cons z1 .nil) rfl ?_
 refine Ok.step ?_ (fun b a cs w=>step_seq)
 refine Ok.regS (s':=⟨tmN a n2 n3 n6 d .unk .unk .unk .unk,hpN (K.ofInt a)⟩) (ors:=[(1,.r (Y6 (K.ofInt a)))]) [0,1,2,3,4,10,11] [0,2] (by kernel_rfl) rfl (.cons c1 (.cons (show 10≤10 by decide) (.cons z1 (.cons z2 .nil)))) rfl ?_
 refine Ok.step ?_ (fun b a cs w=>step_seq)
 refine Ok.step ?_ (fun b a cs w=>step_seq)
 refine zj6 rfl (fun r=>?_)
 refine OkX.step ?_ (fun b a cs w=>step_block)
 refine OkX.step ?_ (fun b a cs w=>step_loop)
 refine z9M (tot:=zgi a n2 n3 n6) rfl h2 h3 h6 ?_ 3 #[] (K.ofInt a) r (by simp[leftOf,z1h]) (by simp[z0I,zgi]) (by omega)
 exact okR (ors:=[(2,.r (Y6 (K.ofInt d))),(3,.r (.tup [Y6 (K.div (zgi a n2 n3 n6) (K.ofInt d)),j7 0]))]) (by kernel_rfl) (.cons c2 (.cons c3 (.cons (show 10≤10 by decide) (.cons (show 10≤10 by decide) .nil)))) rfl
def z3T(i:Nat):K:=
 match i with
 |0=>⟨1,0,0,0,1,by decide,by decide⟩
 |1=>⟨0,1,0,1,4,by decide,by decide⟩
 |2=>⟨0,0,1,0,2,by decide,by decide⟩
 |3=>⟨0,1,0,0,2,by decide,by decide⟩
 |4=>⟨1,0,0,0,2,by decide,by decide⟩
 |5=>⟨0,-1,0,1,4,by decide,by decide⟩
 |_=>⟨0,0,0,0,1,by decide,by decide⟩
theorem kq(x y:K)(h0:x.c0=y.c0)(h1:x.c1=y.c1)(h2:x.c2=y.c2)(h3:x.c3=y.c3)(h4:x.d=y.d):Y6 x=Y6 y:=zg1 h0 h1 h2 h3 h4
theorem z8H {i a b c e d : Int} {v : CV} (h : PCall P 190 [j7 a, j7 b, j7 c, j7 e, j7 d] v) (hi : 0 ≤ i ∧ i < 7)
    (hrun:zaJ P 122 [j7 i] [(26,.r v)] false 100000= .ret v [35≤35,0≤i∧i<7,5≤5,(0:Int)≤0∧(0:Int)<5,(0:Int)≤1∧(1:Int)<5,(0:Int)≤2∧(2:Int)<5,(0:Int)≤3∧(3:Int)<5,(0:Int)≤4∧(4:Int)<5,PCall P 190 [j7 a,j7 b,j7 c,j7 e,j7 d] v,10≤10]):PCall P 122 [j7 i] v:=
 zcv hrun (.cons (by decide) (.cons hi (.cons (by decide) (.cons (by decide) (.cons (by decide) (.cons (by decide) (.cons (by decide) (.cons (by decide) (.cons h (.cons (by decide) .nil))))))))))
theorem zcc:PCall P 122 [j7 0] (Y6 (z3T 0)):=z8H ((z0i (1) (0) (0) (0) (1) (by decide) (by decide) (by decide) (by decide) (by decide) (by decide)).eq (kq _ (z3T 0) (by decide) (by decide) (by decide) (by decide) (by decide))) (by decide) (by kernel_rfl)
theorem zbz:PCall P 122 [j7 1] (Y6 (z3T 1)):=z8H ((z0i (0) (1) (0) (1) (4) (by decide) (by decide) (by decide) (by decide) (by decide) (by decide)).eq (kq _ (z3T 1) (by decide) (by decide) (by decide) (by decide) (by decide))) (by decide) (by kernel_rfl)
theorem zbI:PCall P 122 [j7 2] (Y6 (z3T 2)):=z8H ((z0i (0) (0) (1) (0) (2) (by decide) (by decide) (by decide) (by decide) (by decide) (by decide)).eq (kq _ (z3T 2) (by decide) (by decide) (by decide) (by decide) (by decide))) (by decide) (by kernel_rfl)
theorem zde:PCall P 122 [j7 3] (Y6 (z3T 3)):=z8H ((z0i (0) (1) (0) (0) (2) (by decide) (by decide) (by decide) (by decide) (by decide) (by decide)).eq (kq _ (z3T 3) (by decide) (by decide) (by decide) (by decide) (by decide))) (by decide) (by kernel_rfl)
theorem zd2:PCall P 122 [j7 4] (Y6 (z3T 4)):=z8H ((z0i (1) (0) (0) (0) (2) (by decide) (by decide) (by decide) (by decide) (by decide) (by decide)).eq (kq _ (z3T 4) (by decide) (by decide) (by decide) (by decide) (by decide))) (by decide) (by kernel_rfl)
theorem zd7:PCall P 122 [j7 5] (Y6 (z3T 5)):=z8H ((z0i (0) (-1) (0) (1) (4) (by decide) (by decide) (by decide) (by decide) (by decide) (by decide)).eq (kq _ (z3T 5) (by decide) (by decide) (by decide) (by decide) (by decide))) (by decide) (by kernel_rfl)
theorem zaY:PCall P 122 [j7 6] (Y6 (z3T 6)):=z8H ((z0i (0) (0) (0) (0) (1) (by decide) (by decide) (by decide) (by decide) (by decide) (by decide)).eq (kq _ (z3T 6) (by decide) (by decide) (by decide) (by decide) (by decide))) (by decide) (by kernel_rfl)
theorem z17(i:Int)(h:0≤i∧i<7):PCall P 122 [j7 i] (Y6 (z3T i.toNat)):=by
 have hc:i=0∨i=1∨i=2∨i=3∨i=4∨i=5∨i=6:=by omega
 rcases hc with rfl|rfl|rfl|rfl|rfl|rfl|rfl
 · exact zcc
 · exact zbz
 · exact zbI
 · exact zde
 · exact zd2
 · exact zd7
 · exact zaY
theorem zjq(i:Int)(h1:decide (i.tmod 24<0)=true):PCall P 31 [j7 i] (.lit (.int .i64 (i64.wrap (i.tmod 24+24)))):=
 j5 (.c (nz 24) (.b 6 h1 .nil)) (by kernel_rfl)
theorem zgZ(i:Int)(h1:decide (i.tmod 24<0)=false):PCall P 31 [j7 i] (.lit (.int .i64 (i.tmod 24))):=
 j5 (.c (nz 24) (.b 6 h1 .nil)) (by kernel_rfl)
theorem zjM(i:Int):(decide (i.tmod 24<0)=true→i64.wrap (i.tmod 24+24)=i%24)∧(decide (i.tmod 24<0)=false→i.tmod 24=i%24)∧(i64.wrap (i.tmod 24+24)).tmod 24=i%24:=by
 have e:=Int.mul_tdiv_add_tmod i 24
 have b1:=Int.tmod_lt_of_pos i (show(0:Int)<24 by decide)
 have b2:=Int.lt_tmod_of_pos i (show(0:Int)<24 by decide)
 generalize i.tmod 24=t at e b1 b2 ⊢
 generalize i.tdiv 24=q at e
 rw[w64 (by omega),Int.tmod_eq_emod_of_nonneg (by omega)]
 simp only[decide_eq_true_eq,decide_eq_false_iff_not]
 omega
theorem z25(i:Int):PCall P 31 [j7 i] (j7 (i%24)):=by
 cases h:decide (i.tmod 24<0)with
 |true=>exact(zjq i h).eq (congrArg (fun x=>j7 x) ((zjM i).1 h))
 |false=>exact(zgZ i h).eq (congrArg (fun x=>j7 x) ((zjM i).2.1 h))
theorem zii(i:Int)(h1:decide (i%24>12)=true)(h2:decide (i64.wrap ((24:Int)-i%24)>6)=true)(a:(0:Int)≤i64.wrap ((12:Int)-i64.wrap ((24:Int)-i%24))∧i64.wrap ((12:Int)-i64.wrap ((24:Int)-i%24))<7)(d:Smk (z3T (i64.wrap ((12:Int)-i64.wrap ((24:Int)-i%24))).toNat)):PCall P 33 [j7 i] (Y6 (-z3T (i64.wrap ((12:Int)-i64.wrap ((24:Int)-i%24))).toNat)):=
 j5 (.r 2 (z25 i) (.b 6 h1 (.b 12 h2 (.r 15 (z17 (i64.wrap ((12:Int)-i64.wrap ((24:Int)-i%24))) a) (.r 16 (z9j (z3T (i64.wrap ((12:Int)-i64.wrap ((24:Int)-i%24))).toNat) d) (.c (lq 10 10) .nil)))))) (by kernel_rfl)
theorem ziz(i:Int)(h1:decide (i%24>12)=true)(h2:decide (i64.wrap ((24:Int)-i%24)>6)=false)(a:(0:Int)≤i64.wrap ((24:Int)-i%24)∧i64.wrap ((24:Int)-i%24)<7):PCall P 33 [j7 i] (Y6 (z3T (i64.wrap ((24:Int)-i%24)).toNat)):=
 j5 (.r 2 (z25 i) (.b 6 h1 (.b 12 h2 (.r 14 (z17 (i64.wrap ((24:Int)-i%24)) a) (.c (lq 10 10) .nil))))) (by kernel_rfl)
theorem zgN(i:Int)(h1:decide (i%24>12)=false)(h2:decide (i%24>6)=true)(a:(0:Int)≤i64.wrap ((12:Int)-i%24)∧i64.wrap ((12:Int)-i%24)<7)(d:Smk (z3T (i64.wrap ((12:Int)-i%24)).toNat)):PCall P 33 [j7 i] (Y6 (-z3T (i64.wrap ((12:Int)-i%24)).toNat)):=
 j5 (.r 2 (z25 i) (.b 6 h1 (.b 9 h2 (.r 12 (z17 (i64.wrap ((12:Int)-i%24)) a) (.r 13 (z9j (z3T (i64.wrap ((12:Int)-i%24)).toNat) d) (.c (lq 10 10) .nil)))))) (by kernel_rfl)
theorem ziv(i:Int)(h1:decide (i%24>12)=false)(h2:decide (i%24>6)=false)(a:(0:Int)≤i%24∧i%24<7):PCall P 33 [j7 i] (Y6 (z3T (i%24).toNat)):=
 j5 (.r 2 (z25 i) (.b 6 h1 (.b 9 h2 (.r 11 (z17 (i%24) a) (.c (lq 10 10) .nil))))) (by kernel_rfl)
def z6y(i:Int):K:=
 let j:=i%24
 let k:=if j>12 then 24-j else j
 if k>6 then-z3T (12-k).toNat else z3T k.toNat
def zae(i:Int):K:=z6y (i%24-6)
theorem zck(n:Nat):Smk (z3T n):=by
 match n with
 |0=>decide
 |1=>decide
 |2=>decide
 |3=>decide
 |4=>decide
 |5=>decide
 |_+6=>exact(by decide:Smk (z3T 6))
theorem z7i(i:Int):PCall P 33 [j7 i] (Y6 (z6y i)):=by
 have e1:i64.wrap (24-i%24)=24-i%24:=w64 (by omega)
 have e2:i64.wrap (12-i%24)=12-i%24:=w64 (by omega)
 have e3:i64.wrap (12-(24-i%24))=12-(24-i%24):=w64 (by omega)
 cases h1:decide (i%24>12)with
 |true=>
  have h1':=of_decide_eq_true h1
  cases h2:decide (24-i%24>6)with
  |true=>
   have h2':=of_decide_eq_true h2
   refine(zii i h1 (by rw[e1];exact h2) (by rw[e1,e3];omega) (zck _)).eq ?_
   rw[e1,e3];simp only[z6y,if_pos h1',if_pos h2']
  |false=>
   have h2':=of_decide_eq_false h2
   refine(ziz i h1 (by rw[e1];exact h2) (by rw[e1];omega)).eq ?_
   rw[e1];simp only[z6y,if_pos h1',if_neg h2']
 |false=>
  have h1':=of_decide_eq_false h1
  cases h2:decide (i%24>6)with
  |true=>
   have h2':=of_decide_eq_true h2
   refine(zgN i h1 h2 (by rw[e2];omega) (zck _)).eq ?_
   rw[e2];simp only[z6y,if_neg h1',if_pos h2']
  |false=>
   have h2':=of_decide_eq_false h2
   refine(ziv i h1 h2 (by omega)).eq ?_
   simp only[z6y,if_neg h1',if_neg h2']
theorem Sm3.of{x:K}(h:x.c0.natAbs<256∧x.c1.natAbs<256∧x.c2.natAbs<256∧x.c3.natAbs<256∧x.d.natAbs<256):Sm3 x:=by
 intro i hi
 have k:(256:Nat)≤256^3:=by decide
 have:i=0∨i=1∨i=2∨i=3∨i=4:=by omega
 rcases this with rfl|rfl|rfl|rfl|rfl
 · exact Nat.lt_of_lt_of_le h.1 k
 · exact Nat.lt_of_lt_of_le h.2.1 k
 · exact Nat.lt_of_lt_of_le h.2.2.1 k
 · exact Nat.lt_of_lt_of_le h.2.2.2.1 k
 · exact Nat.lt_of_lt_of_le h.2.2.2.2 k
theorem zgU(i:Int):PCall P 35 [j7 i] (Y6 (z6y (i64.wrap (i%24-6)))):=
 j5 (.r 2 (z25 i) (.r 4 (z7i (i64.wrap (i%24-6))) (.c (lq 10 10) .nil))) (by kernel_rfl)
theorem zbB(i:Int):PCall P 35 [j7 i] (Y6 (zae i)):=(zgU i).eq (by rw[w64 (by omega)];rfl)
theorem CvL.own(l:List CV):CvL (own l):=CvL.map_cv l
theorem z8j(a b:List CV):own (a++b)=own a++own b:=by simp[own]
def th(t:Nat→Bool)(p:Nat):MV:= .cv (.lit (.bool (t p)))
def zjK(x:K):Bool:=decide (x.c0.natAbs<256)&&decide (x.c1.natAbs<256)&&decide (x.c2.natAbs<256)&&decide (x.c3.natAbs<256)&&decide (x.d.natAbs<256)
theorem Sm3.b{x:K}(h:zjK x=true):Sm3 x:=by
 simp only[zjK,Bool.and_eq_true,decide_eq_true_eq]at h
 exact Sm3.of ⟨h.1.1.1.1,h.1.1.1.2,h.1.1.2,h.1.2,h.2⟩
theorem zfd(i:Int):z6y i=z6y (i%24):=by simp only[z6y,Int.emod_emod_of_dvd i (Int.dvd_refl 24)]
theorem zeJ(i:Int):zae i=zae (i%24):=by simp only[zae,Int.emod_emod_of_dvd i (Int.dvd_refl 24)]
theorem zmO: ∀i:_root_.Fin 24,zjK (z6y i.val)=true∧zjK (zae i.val)=true:=by decide+kernel
theorem zob(i:Int): ∃a:_root_.Fin 24,i%24=(a.val:Int):=⟨⟨(i%24).toNat,by omega⟩,by simp only;omega⟩
theorem zlU{i:Int}{a:_root_.Fin 24}(h:i%24=(a.val:Int)):z6y i=z6y a.val:=by rw[zfd i,h]
theorem zly{i:Int}{a:_root_.Fin 24}(h:i%24=(a.val:Int)):zae i=zae a.val:=by rw[zeJ i,h]
def zav(x:K):List CV:=[.lit (.bool (decide (x.c0<0))),X2 (bytesOf x.c0.natAbs),.lit (.bool (decide (x.c1<0))),X2 (bytesOf x.c1.natAbs),.lit (.bool (decide (x.c2<0))),X2 (bytesOf x.c2.natAbs),.lit (.bool (decide (x.c3<0))),X2 (bytesOf x.c3.natAbs),.lit (.bool (decide (x.d<0))),X2 (bytesOf x.d.natAbs)]
def z8y(x y z:K):CV:= .agg (zav x++(zav y++zav z))
structure RN where
 b0:Bool
 s0:ByteArray
 b1:Bool
 s1:ByteArray
 b2:Bool
 s2:ByteArray
 b3:Bool
 s3:ByteArray
 b4:Bool
 s4:ByteArray
namespace RN
def l(x:RN):List CV:=[.lit (.bool x.b0),X2 x.s0,.lit (.bool x.b1),X2 x.s1,.lit (.bool x.b2),X2 x.s2,.lit (.bool x.b3),X2 x.s3,.lit (.bool x.b4),X2 x.s4]
def raw(n:Nat)(x:RN):Bool:=decide (x.s0.size≤n)&&decide (x.s1.size≤n)&&decide (x.s2.size≤n)&&decide (x.s3.size≤n)&&decide (x.s4.size≤n)
def ok(x:RN):Bool:=J1 x.b0 x.s0&&J1 x.b1 x.s1&&J1 x.b2 x.s2&&J1 x.b3 x.s3&&J1 x.b4 x.s4&&decide (0<zOf x.b4 x.s4)&&decide (Y7 (zOf x.b0 x.s0) (zOf x.b1 x.s1) (zOf x.b2 x.s2) (zOf x.b3 x.s3) (zOf x.b4 x.s4)=1)
theorem l_n5 {x : RN} (h0 : J1 x.b0 x.s0 = true) (h1 : J1 x.b1 x.s1 = true) (h2 : J1 x.b2 x.s2 = true) (h3 : J1 x.b3 x.s3 = true) (h4 : J1 x.b4 x.s4 = true) :
    CV.agg x.l=n5C (zOf x.b0 x.s0) (zOf x.b1 x.s1) (zOf x.b2 x.s2) (zOf x.b3 x.s3) (zOf x.b4 x.s4):=by
 obtain⟨a0,c0,d0⟩:=V9 h0
 obtain⟨a1,c1,d1⟩:=V9 h1
 obtain⟨a2,c2,d2⟩:=V9 h2
 obtain⟨a3,c3,d3⟩:=V9 h3
 obtain⟨a4,c4,d4⟩:=V9 h4
 have e0:=z2Q h0
 have e1:=z2Q h1
 have e2:=z2Q h2
 have e3:=z2Q h3
 have e4:=z2Q h4
 unfold J7 at e0 e1 e2 e3 e4
 simp only[CV.agg.injEq,List.cons.injEq,and_true]at e0 e1 e2 e3 e4
 unfold l
 rw[e0.1,e0.2,e1.1,e1.2,e2.1,e2.2,e3.1,e3.2,e4.1,e4.2]
 rfl
theorem ok_k{x:RN}(h:x.ok=true): ∃k:K,x.l=zav k:=by
 unfold ok at h
 simp only[Bool.and_eq_true,decide_eq_true_eq]at h
 obtain⟨⟨⟨⟨⟨⟨h0,h1⟩,h2⟩,h3⟩,h4⟩,h5⟩,h6⟩:=h
 have e:=l_n5 h0 h1 h2 h3 h4
 refine⟨⟨_,_,_,_,_,h5,h6⟩,?_⟩
 injection e
end RN
theorem zdM(a b c d e:Int):Y7 a b c d e=Nat.gcd (Nat.gcd (Nat.gcd (Nat.gcd a.natAbs b.natAbs) c.natAbs) d.natAbs) e.natAbs:=by
 unfold Y7
 rw[Nat.gcd_comm e.natAbs a.natAbs]
 simp only[Nat.gcd_assoc]
 congr 1
 rw[Nat.gcd_comm e.natAbs]
 simp only[Nat.gcd_assoc]
theorem Sml.str{s:ByteArray}(h:s.size≤1000000):Sml (J5 s):=Sml.of_lt (Nat.lt_of_lt_of_le (z0o s) (Nat.pow_le_pow_right (by decide) h)) (by decide)
theorem z2m(z:Int):decide (z.sign>0)=decide (0<z):=by
 rw[decide_eq_decide];exact Int.sign_pos_iff
theorem Sml.ofStr{s:ByteArray}{n:Nat}(hn:n<1073741824)(h:s.size≤n):Sml (J5 s):=Sml.of_lt (z0o s) (Nat.lt_of_le_of_lt h hn)
theorem zdE(x:RN){n:Nat}(hn:n<1073741824)(hs:x.raw n=true):PCall P 124 [.agg x.l] (.lit (.bool x.ok)):=by
 obtain⟨b0,s0,b1,s1,b2,s2,b3,s3,b4,s4⟩:=x
 simp only[RN.raw,Bool.and_eq_true,decide_eq_true_eq]at hs
 obtain⟨⟨⟨⟨z0,z1⟩,z2⟩,z3⟩,z4⟩:=hs
 have y0:=Sml.ofStr hn z0
 have y1:=Sml.ofStr hn z1
 have y2:=Sml.ofStr hn z2
 have y3:=Sml.ofStr hn z3
 have y4:=Sml.ofStr hn z4
 show PCall P 124 [r5 b0 b1 b2 b3 b4 s0 s1 s2 s3 s4] _
 by_cases hw: ∀i,i<5→z5G (fB b0 b1 b2 b3 b4) (fS s0 s1 s2 s3 s4) i
 · have v0:J1 b0 s0=true:=(hw 0 (by decide)).2
   have v1:J1 b1 s1=true:=(hw 1 (by decide)).2
   have v2:J1 b2 s2=true:=(hw 2 (by decide)).2
   have v3:J1 b3 s3=true:=(hw 3 (by decide)).2
   have v4:J1 b4 s4=true:=(hw 4 (by decide)).2
   have bd: ∀{b:Bool} {s:ByteArray},J1 b s=true→s.size≤3→(zOf b s).natAbs<2^63:=fun {b s} hv hs=>by
    rw[(V9 hv).2.2]
    exact Nat.lt_of_lt_of_le (z0o s) (Nat.le_trans (Nat.pow_le_pow_right (by decide) hs) (by decide))
   have hok:RN.ok ⟨b0,s0,b1,s1,b2,s2,b3,s3,b4,s4⟩=(decide (0<zOf b4 s4)&&decide (Y7 (zOf b0 s0) (zOf b1 s1) (zOf b2 s2) (zOf b3 s3) (zOf b4 s4)=1)):=by
    simp only[RN.ok,v0,v1,v2,v3,v4,Bool.true_and]
   rw[hok]
   by_cases hp:0<zOf b4 s4
   · have:=zlq b0 b1 b2 b3 b4 s0 s1 s2 s3 s4 (decide_eq_true hp) hw ⟨bd v0 (hw 0 (by decide)).1,bd v1 (hw 1 (by decide)).1,bd v2 (hw 2 (by decide)).1,bd v3 (hw 3 (by decide)).1,bd v4 (hw 4 (by decide)).1⟩
     refine this.eqB ?_
     show(((Y7 (zOf b0 s0) (zOf b1 s1) (zOf b2 s2) (zOf b3 s3) (zOf b4 s4):Nat):Int)==1)=_
     rw[decide_eq_true hp,Bool.true_and,Bool.eq_iff_iff,beq_iff_eq,decide_eq_true_eq]
     omega
   · have:=zm3 b0 b1 b2 b3 b4 s0 s1 s2 s3 s4 (decide_eq_false hp) hw
     refine this.eqB ?_
     rw[decide_eq_false hp,Bool.false_and]
 · cases v0:J1 b0 s0
   · refine(zn4 b0 b1 b2 b3 b4 s0 s1 s2 s3 s4 v0 hw).eqB ?_
     simp[RN.ok,v0]
   cases v1:J1 b1 s1
   · refine(zmb b0 b1 b2 b3 b4 s0 s1 s2 s3 s4 v0 v1 hw y0).eqB ?_
     simp[RN.ok,v1]
   have t0:=(V9 v0).2.2
   have t1:=(V9 v1).2.2
   have g0:Sml ((Nat.gcd 0 (zOf b0 s0).natAbs:Nat):Int).natAbs:=by rw[Int.natAbs_natCast,Nat.gcd_zero_left,t0];exact y0
   cases v2:J1 b2 s2
   · refine(zm5 b0 b1 b2 b3 b4 s0 s1 s2 s3 s4 v0 v1 v2 hw y0 g0 y1).eqB ?_
     simp[RN.ok,v2]
   have t2:=(V9 v2).2.2
   have g1:Sml (((((Nat.gcd 0 (zOf b0 s0).natAbs:Nat):Int).natAbs).gcd (zOf b1 s1).natAbs:Nat):Int).natAbs:=by rw[Int.natAbs_natCast];exact g0.gcd (by rw[t1];exact y1)
   cases v3:J1 b3 s3
   · refine(zmG b0 b1 b2 b3 b4 s0 s1 s2 s3 s4 v0 v1 v2 v3 hw y0 g0 y1 g1 y2).eqB ?_
     simp[RN.ok,v3]
   have t3:=(V9 v3).2.2
   have g2:Sml (((((((Nat.gcd 0 (zOf b0 s0).natAbs:Nat):Int).natAbs).gcd (zOf b1 s1).natAbs:Nat):Int).natAbs.gcd (zOf b2 s2).natAbs:Nat):Int).natAbs:=by rw[Int.natAbs_natCast];exact g1.gcd (by rw[t2];exact y2)
   cases v4:J1 b4 s4
   · refine(zlR b0 b1 b2 b3 b4 s0 s1 s2 s3 s4 v0 v1 v2 v3 v4 hw y0 g0 y1 g1 y2 g2 y3).eqB ?_
     simp[RN.ok,v4]
   have g3:Sml (((((((((Nat.gcd 0 (zOf b0 s0).natAbs:Nat):Int).natAbs).gcd (zOf b1 s1).natAbs:Nat):Int).natAbs.gcd (zOf b2 s2).natAbs:Nat):Int).natAbs.gcd (zOf b3 s3).natAbs:Nat):Int).natAbs:=by rw[Int.natAbs_natCast];exact g2.gcd (by rw[t3];exact y3)
   have hok:RN.ok ⟨b0,s0,b1,s1,b2,s2,b3,s3,b4,s4⟩=(decide (0<zOf b4 s4)&&decide (Y7 (zOf b0 s0) (zOf b1 s1) (zOf b2 s2) (zOf b3 s3) (zOf b4 s4)=1)):=by
    simp only[RN.ok,v0,v1,v2,v3,v4,Bool.true_and]
   rw[hok]
   by_cases hp:0<zOf b4 s4
   · refine(zkD b0 b1 b2 b3 b4 s0 s1 s2 s3 s4 v0 v1 v2 v3 v4 (by rw[z2m];exact decide_eq_true hp) hw y0 g0 y1 g1 y2 g2 y3 g3 y4 (by decide)).eqB ?_
     rw[zdM,decide_eq_true hp,Bool.true_and]
     simp only[Int.natAbs_natCast,Nat.gcd_zero_left,z23,Bool.and_true]
     rw[decide_eq_false (by omega)]
     rfl
   · refine(zlf b0 b1 b2 b3 b4 s0 s1 s2 s3 s4 v0 v1 v2 v3 v4 (by rw[z2m];exact decide_eq_false hp) hw y0 g0 y1 g1 y2 g2 y3).eqB ?_
     rw[decide_eq_false hp,Bool.false_and]
theorem z9n(x:RN)(hs:x.raw 1000000=true):PCall P 124 [.agg x.l] (.lit (.bool x.ok)):=zdE x (by decide) hs
theorem z3k{b:Bool}{s:ByteArray}(hv:J1 b s=true)(h:s.size≤1000000):SmlZ (zOf b s):=by
 show Sml (zOf b s).natAbs
 rw[(V9 hv).2.2];exact Sml.str h
theorem z90(x:RN)(hs:x.raw 1000000=true):PCall P 154 [.agg x.l] (.lit (.bool x.ok)):=by
 cases v0:J1 x.b0 x.s0
 · refine(zmV x.b0 x.b1 x.b2 x.b3 x.b4 x.s0 x.s1 x.s2 x.s3 x.s4 v0).eqB ?_
   simp[RN.ok,v0]
 cases v1:J1 x.b1 x.s1
 · refine(zkG x.b0 x.b1 x.b2 x.b3 x.b4 x.s0 x.s1 x.s2 x.s3 x.s4 v0 v1).eqB ?_
   simp[RN.ok,v1]
 cases v2:J1 x.b2 x.s2
 · refine(zlA x.b0 x.b1 x.b2 x.b3 x.b4 x.s0 x.s1 x.s2 x.s3 x.s4 v0 v1 v2).eqB ?_
   simp[RN.ok,v2]
 cases v3:J1 x.b3 x.s3
 · refine(zkv x.b0 x.b1 x.b2 x.b3 x.b4 x.s0 x.s1 x.s2 x.s3 x.s4 v0 v1 v2 v3).eqB ?_
   simp[RN.ok,v3]
 cases v4:J1 x.b4 x.s4
 · refine(zm1 x.b0 x.b1 x.b2 x.b3 x.b4 x.s0 x.s1 x.s2 x.s3 x.s4 v0 v1 v2 v3 v4).eqB ?_
   simp[RN.ok,v4]
 simp only[RN.raw,Bool.and_eq_true,decide_eq_true_eq]at hs
 obtain⟨⟨⟨⟨z0,z1⟩,z2⟩,z3⟩,z4⟩:=hs
 rw[RN.l_n5 v0 v1 v2 v3 v4]
 have hok:x.ok=(decide (0<zOf x.b4 x.s4)&&decide (Y7 (zOf x.b0 x.s0) (zOf x.b1 x.s1) (zOf x.b2 x.s2) (zOf x.b3 x.s3) (zOf x.b4 x.s4)=1)):=by
  simp only[RN.ok,v0,v1,v2,v3,v4,Bool.true_and]
 rw[hok]
 by_cases hp:0<zOf x.b4 x.s4
 · refine(z6W _ _ _ _ _ (by rw[z2m];exact decide_eq_true hp) (z3k v0 z0) (z3k v1 z1) (z3k v2 z2) (z3k v3 z3) (z3k v4 z4) (by decide)).eqB ?_
   rw[decide_eq_true hp,Bool.true_and]
   simp only[Int.natAbs_natCast,z23,Bool.and_true]
   rw[decide_eq_false (by omega)]
   rfl
 · refine(zcm _ _ _ _ _ (by rw[z2m];exact decide_eq_false hp)).eqB ?_
   rw[decide_eq_false hp,Bool.false_and]
def RN.c(x:RN):CV:=r5 x.b0 x.b1 x.b2 x.b3 x.b4 x.s0 x.s1 x.s2 x.s3 x.s4
def z5d(x y z:RN):CV:= .agg (x.l++(y.l++z.l))
theorem zjV(x:RN)(hs:x.raw 1000000=true):PCall P 124 [x.c] (.lit (.bool x.ok)):=z9n x hs
theorem z29(x:RN)(hs:x.raw 1000000=true):PCall P 154 [x.c] (.lit (.bool x.ok)):=z90 x hs
def RN.ofK(x:K):RN:=⟨decide (x.c0<0),bytesOf x.c0.natAbs,decide (x.c1<0),bytesOf x.c1.natAbs,decide (x.c2<0),bytesOf x.c2.natAbs,decide (x.c3<0),bytesOf x.c3.natAbs,decide (x.d<0),bytesOf x.d.natAbs⟩
theorem RN.ofK_l(x:K):(RN.ofK x).l=zav x:=rfl
theorem RN.ofK_ok(x:K):(RN.ofK x).ok=true:=by
 unfold RN.ok RN.ofK
 simp only[z3S,ziO,Bool.true_and,Bool.and_eq_true,decide_eq_true_eq]
 exact⟨x.pos,x.cop⟩
theorem RN.ofK_raw(x:K){n:Nat}(h:x.sz≤n):(RN.ofK x).raw n=true:=by
 obtain⟨h0,h1,h2,h3,h4⟩:=K.sz_le.1 h
 unfold RN.raw RN.ofK
 simp only[Bool.and_eq_true,decide_eq_true_eq]
 exact⟨⟨⟨⟨V6.2 h0,V6.2 h1⟩,V6.2 h2⟩,V6.2 h3⟩,V6.2 h4⟩
theorem z8U(x:K)(h:x.sz≤1000000):PCall P 124 [Y6 x] (.lit (.bool true)):=by
 have:=z9n (RN.ofK x) (RN.ofK_raw x h)
 rw[RN.ofK_ok]at this
 exact this
def Mil(a:Int):Prop:= ∃n,n≤1000000∧a.natAbs<256^n
theorem Mil.sml{a:Int}(h:Mil a):Sml a.natAbs:=by
 obtain⟨n,hn,h⟩:=h
 exact Sml.of_lt h (by omega)
theorem mul_lt_pow{a b n m:Nat}(ha:a<256^n)(hb:b<256^m):a*b<256^(n+m):=by
 rw[Nat.pow_add]
 exact Nat.mul_lt_mul'' ha hb
theorem z5S{a b n:Nat}(ha:a<256^n)(hb:b<256^n):a+b<256^(n+1):=by
 rw[Nat.pow_succ];omega
theorem zeO{a n m:Nat}(ha:a<256^n)(h:n≤m):a<256^m:=Nat.lt_of_lt_of_le ha (Nat.pow_le_pow_right (by decide) h)
def By(n:Nat)(a:Int):Prop:=a.natAbs<256^n
theorem By.sml{n:Nat}{a:Int}(h:By n a)(hn:n<1073741824):Sml a.natAbs:=Sml.of_lt h hn
theorem By.mul{n m:Nat}{a b:Int}(ha:By n a)(hb:By m b):By (n+m) (a*b):=by
 unfold By;rw[Int.natAbs_mul];exact mul_lt_pow ha hb
theorem By.mono{n m:Nat}{a:Int}(h:By n a)(hm:n≤m):By m a:=zeO h hm
theorem By.add{n:Nat}{a b:Int}(ha:By n a)(hb:By n b):By (n+1) (a+b):=Nat.lt_of_le_of_lt (Int.natAbs_add_le ..) (z5S ha hb)
theorem By.neg{n:Nat}{a:Int}(h:By n a):By n (-a):=by unfold By;rw[Int.natAbs_neg];exact h
theorem By.sm2{n m:Nat}{a b:Int}(ha:By n a)(hb:By m b)(hn:n+m<1073741824):Sml (a.natAbs*b.natAbs):=Sml.of_lt (mul_lt_pow ha hb) hn
theorem By.sma{n:Nat}{a b:Int}(ha:By n a)(hb:By n b)(hn:n+1<1073741824):Sml (a.natAbs+b.natAbs):=Sml.of_lt (z5S ha hb) hn
theorem By.of_sz{x:K}{n:Nat}(h:x.sz≤n):By n x.c0∧By n x.c1∧By n x.c2∧By n x.c3∧By n x.d:=K.sz_le.1 h
end Go.Fw
