/- A part of the proof that the law returns true for every input: an executor for the model's code, and what functions of the program compute. -/
import Derived.Test.YtcafjpldfnegiaaGreatDoorB11
import Derived.Test.YtcafjpldfnegiaaGreatDoorB15
import Derived.Test.YtcafjpldfnegiaaGreatDoorB28
import Derived.Test.YtcafjpldfnegiaaGreatDoorB36
import Derived.Test.YtcafjpldfnegiaaGreatDoorB37
import Derived.Test.YtcafjpldfnegiaaGreatDoorB38
import Derived.KernelRfl
open Go Go.ChangeMaps
namespace Go.Fw
set_option maxRecDepth 100000
def zq7:List Nat:=[0,1,2,3,4,10,11,21]
theorem zk9 {R : Goal} {k : List Item} {a n2 n3 n6 d key v : Int} {acc root : K} {r : Nat} {es : Array MapEntry} {seen : Array Nat} (hR : R.n = 0)
    (hv:v.natAbs<256) (hroot:PCall P 235 [j6 key] (Y6 root)) (hsr:root.sz≤1) (hs:acc.sz<10000)
    (h:OkX P 190 k ⟨tmN a n2 n3 n6 d .unk .unk (z9j r) .unk,hpN (acc+K.ofInt v*root)⟩ R (XI r es 3 seen)):
    OkX P 190 (.code zgT::k) ⟨tmN a n2 n3 n6 d (.cv (.lit (.int .i64 key))) (.cv (.lit (.int .i64 v))) (z9j r) (.cv (.lit (.bool true))),hpN acc⟩ R (XI r es 3 seen):=by
 have hsv:(K.ofInt v).sz≤1:=K.sz_int v (Nat.le_refl _) (by omega)
 have hsm:=K.sz_mul (K.ofInt v) root
 have c1:PCall P 144 [j6 v] (Y6 (K.ofInt v)):=z0x v (by omega)
 have c2:PCall P 136 [Y6 (K.ofInt v),Y6 root] (Y6 (K.ofInt v*root)):=z7Q _ _ (by omega)
 have c3:PCall P 137 [Y6 acc,Y6 (K.ofInt v*root)] (Y6 (acc+K.ofInt v*root)):=zgQ _ _ (by omega)
 have z1:CvL ZN:=CvL.map_cv (List.replicate 5 [CV.lit (.bool false),CV.lit (.string ⟨#[]⟩)]).flatten
 have z2:CvL (MV.cv (Y6 (acc+K.ofInt v*root))).cells:=CvL.map_cv _
 exact OkX.regS (ors:=[(2,.r (Y6 (K.ofInt v))),(4,.r (Y6 root)),(5,.r (Y6 (K.ofInt v*root))),(6,.r (Y6 (acc+K.ofInt v*root)))]) zq7 [0,1]
  (by kernel_rfl) rfl (.cons c1 (.cons hroot (.cons c2 (.cons c3 (.cons (show 10≤10 by decide) (.cons z1 (.cons z2 .nil))))))) rfl rfl hR h
def z14(n2 n3 n6:Int)(seen:Array Nat):K:=
 (if seen.contains 0 then K.ofInt 0 else K.ofInt n2*K.r2)+(if seen.contains 1 then K.ofInt 0 else K.ofInt n3*K.r3)+(if seen.contains 2 then K.ofInt 0 else K.ofInt n6*K.r6)
theorem zcx{n2 n3 n6:Int}{seen:Array Nat}(h:(leftOf (z1U n2 n3 n6) seen).size=0)(acc:K):acc+z14 n2 n3 n6 seen=acc:=by
 have:=all_seen _ _ h
 have h0:seen.contains 0=true:=this ⟨.int .i64 2,.int .i64 n2,0⟩ (by simp[z1U])
 have h1:seen.contains 1=true:=this ⟨.int .i64 3,.int .i64 n3,1⟩ (by simp[z1U])
 have h2:seen.contains 2=true:=this ⟨.int .i64 6,.int .i64 n6,2⟩ (by simp[z1U])
 unfold z14
 rw[h0,h1,h2]
 exact(show ∀ρ:Nat→K,ρ 0+(CR.ofInt 0+CR.ofInt 0+CR.ofInt 0)=ρ 0 from fun ρ=>CR.ring ρ rfl) (CR.vr [acc])
theorem z5Y {n2 n3 n6 : Int} {seen : Array Nat} {acc : K} :
    (seen.contains 0=false→acc+K.ofInt n2*K.r2+z14 n2 n3 n6 (seen.push 0)=acc+z14 n2 n3 n6 seen)∧
    (seen.contains 1=false→acc+K.ofInt n3*K.r3+z14 n2 n3 n6 (seen.push 1)=acc+z14 n2 n3 n6 seen)∧
    (seen.contains 2=false→acc+K.ofInt n6*K.r6+z14 n2 n3 n6 (seen.push 2)=acc+z14 n2 n3 n6 seen):=by
 unfold z14
 simp only[contains_push]
 refine⟨fun h=>?_,fun h=>?_,fun h=>?_⟩
 · rw[h,show(1==0:Bool)=false from rfl,show(2==0:Bool)=false from rfl,show(0==0:Bool)=true from rfl,Bool.or_false,Bool.or_false,Bool.or_true]
   exact(show ∀ρ:Nat→K,ρ 0+ρ 1+(CR.ofInt 0+ρ 2+ρ 3)=ρ 0+(ρ 1+ρ 2+ρ 3)from fun ρ=>CR.ring ρ rfl) (CR.vr [acc,_,_,_])
 · rw[h,show(0==1:Bool)=false from rfl,show(2==1:Bool)=false from rfl,show(1==1:Bool)=true from rfl,Bool.or_false,Bool.or_false,Bool.or_true]
   exact(show ∀ρ:Nat→K,ρ 0+ρ 2+(ρ 1+CR.ofInt 0+ρ 3)=ρ 0+(ρ 1+ρ 2+ρ 3)from fun ρ=>CR.ring ρ rfl) (CR.vr [acc,_,_,_])
 · rw[h,show(0==2:Bool)=false from rfl,show(1==2:Bool)=false from rfl,show(2==2:Bool)=true from rfl,Bool.or_false,Bool.or_false,Bool.or_true]
   exact(show ∀ρ:Nat→K,ρ 0+ρ 3+(ρ 1+ρ 2+CR.ofInt 0)=ρ 0+(ρ 1+ρ 2+ρ 3)from fun ρ=>CR.ring ρ rfl) (CR.vr [acc,_,_,_])
theorem zaK {R : Goal} {k : List Item} {a n2 n3 n6 d : Int} {tot : K} (hR : R.n = 0) (h2 : n2.natAbs < 256) (h3 : n3.natAbs < 256) (h6 : n6.natAbs < 256)
    (hk:Ok P 190 k ⟨tmN a n2 n3 n6 d .unk .unk .unk .unk,hpN tot⟩ R): ∀(n:Nat) (seen:Array Nat) (acc:K) (r:Nat),(leftOf (z1U n2 n3 n6) seen).size=n→acc+z14 n2 n3 n6 seen=tot→acc.sz+10*n<1000→
     OkX P 190 (.code z2Q:: .inLoop z2Q:: .inBlock 0::k) ⟨tmN a n2 n3 n6 d .unk .unk (z9j r) .unk,hpN acc⟩ R (XI r (z1U n2 n3 n6) 3 seen):=by
 intro n
 induction n using Nat.strongRecOn with
 |ind n ih=>
 intro seen acc r hn ht hs
 show OkX P 190 (.code (.seq reg3 (.seq (.cond (.tmp 23) .skip (.exit 0)) (.block 1 (.seq reg4 zgT))))::_) _ _ _
 refine OkX.step ?_ (fun b a cs w=>step_seq)
 intro w0 I p act w b cs q1 q2 q3 q31 q32 q4 q5 q6
 obtain⟨bm,m1,m2,m3⟩:=q6.m
 have hst: ∀x∈(z1U n2 n3 n6).toList,x.born<3:=by simp[z1U]
 have hnd:((z1U n2 n3 n6).toList.map (·.born)).Nodup:=by simp[z1U]
 rcases run_next_at (P:=P) w 0 r bm 3 3 seen (z1U n2 n3 n6) 3 m2 m1 hst (Nat.le_refl _)with⟨h0,hrun⟩|⟨e,he,w1,hal,hrun⟩
 · obtain⟨a',hrel,hst⟩:=zd6 (k:= .code (.seq (.cond (.tmp 23) .skip (.exit 0)) (.block 1 (.seq reg4 zgT))):: .inLoop z2Q:: .inBlock 0::k) w0 I p act w q4 (fun ty=>hrun) b cs
   rw[←ht,zcx h0]at hk
   have z1:CvL ZN:=CvL.map_cv (List.replicate 5 [CV.lit (.bool false),CV.lit (.string ⟨#[]⟩)]).flatten
   have z2:CvL (MV.cv (Y6 acc)).cells:=CvL.map_cv _
   have hfin:Ok P 190 (.code (.seq (.cond (.tmp 23) .skip (.exit 0)) (.block 1 (.seq reg4 zgT))):: .inLoop z2Q:: .inBlock 0::k) ⟨tmN a n2 n3 n6 d .unk .unk (z9j r) (.cv (.lit (.bool false))),hpN acc⟩ R:=by
    refine Ok.step ?_ (fun b a cs w=>step_seq)
    refine Ok.cond (t:=false) (d:=false) rfl rfl ?_
    refine Ok.step (todo':=k) ?_ (fun b a cs w=>step_exit (by rfl))
    exact Ok.sel [0,1,2,3,4,10,11] [0,1] rfl (by rw[hR];rfl) (show AllP [CvL ZN,CvL (MV.cv (Y6 acc)).cells]from⟨z1,z2⟩) hk
   obtain⟨e,w',fr,k1,k2,k3⟩:=hfin w0 I p a' w b cs q1 q2 q3 q31 q32 hrel q5
   exact⟨e,w',fr,k1,.of_steps hst k2,k3⟩
 · obtain ⟨a', w', hrel, hX, hst⟩ := zbT (_R := R) (k := .code (.seq (.cond (.tmp 23) .skip (.exit 0)) (.block 1 (.seq reg4 zgT))) :: .inLoop z2Q :: .inBlock 0 :: k) w0 I p act w w1 q4 q6 hal (fun ty bm' g1 g2 => by
     rw[m2]at g2;cases g2;exact hrun) b cs
   have hem:=(mem_left he).1
   have hsh:=left_shrinks (z1U n2 n3 n6) seen e he
   have hns:=(mem_left he).2
   have step5 : ∀ {key v : Int} {root : K}, e.key = .int .i64 key → e.val = .int .i64 v → v.natAbs < 256 → PCall P 235 [j6 key] (Y6 root) → root.sz ≤ 1 → acc + K.ofInt v * root + z14 n2 n3 n6 (seen.push e.born) = tot →
       OkX P 190 (.code (.seq (.cond (.tmp 23) .skip (.exit 0)) (.block 1 (.seq reg4 zgT))):: .inLoop z2Q:: .inBlock 0::k) ⟨tmN a n2 n3 n6 d .unk .unk (z9j r) (.cv (.lit (.bool true))),hpN acc⟩ R (XI r (z1U n2 n3 n6) 3 (seen.push e.born)):=by
    intro key v root hk1 hv1 hv2 hr1 hr2 hr3
    refine OkX.step ?_ (fun b a cs w=>step_seq)
    refine OkX.cond (t:=true) (d:=true) rfl rfl ?_
    refine OkX.step ?_ (fun b a cs w=>step_skip)
    refine OkX.step ?_ (fun b a cs w=>step_block)
    refine OkX.step ?_ (fun b a cs w=>step_seq)
    refine zhX hem hnd ?_
    rw[hk1,hv1]
    refine zk9 hR hv2 hr1 hr2 (by omega) ?_
    refine OkX.step ?_ (fun b a cs w=>step_inBlock)
    refine OkX.step ?_ (fun b a cs w=>step_inLoop)
    have hsv:(K.ofInt v).sz≤1:=K.sz_int v (Nat.le_refl _) (by omega)
    have hsm:=K.sz_mul (K.ofInt v) root
    have hsa:=K.sz_add acc (K.ofInt v*root)
    exact ih _ (hn ▸ hsh) (seen.push e.born) _ r rfl hr3 (by omega)
   have hall:OkX P 190 (.code (.seq (.cond (.tmp 23) .skip (.exit 0)) (.block 1 (.seq reg4 zgT))):: .inLoop z2Q:: .inBlock 0::k) ⟨tmN a n2 n3 n6 d .unk .unk (z9j r) (.cv (.lit (.bool true))),hpN acc⟩ R (XI r (z1U n2 n3 n6) 3 (seen.push e.born)):=by
    have hcase:e=⟨.int .i64 2,.int .i64 n2,0⟩∨e=⟨.int .i64 3,.int .i64 n3,1⟩∨e=⟨.int .i64 6,.int .i64 n6,2⟩:=by simpa[z1U]using hem
    rcases hcase with rfl|rfl|rfl
    · exact step5 rfl rfl h2 zkE (by decide) ((z5Y.1 hns).trans ht)
    · exact step5 rfl rfl h3 zkp (by decide) ((z5Y.2.1 hns).trans ht)
    · exact step5 rfl rfl h6 zkh (by decide) ((z5Y.2.2 hns).trans ht)
   obtain⟨e,w',fr,k1,k2,k3⟩:=hall w0 I p a' w' b cs q1 q2 q3 q31 q32 hrel q5 hX
   exact⟨e,w',fr,k1,.of_steps hst k2,k3⟩
end Go.Fw
open Go Go.ChangeMaps
namespace Go.Fw
set_option maxRecDepth 100000
def zgY(a n2 n3 n6:Int):K:=K.ofInt a+(K.ofInt n2*K.r2+K.ofInt n3*K.r3+K.ofInt n6*K.r6)
theorem z0y (a n2 n3 n6 d : Int) (ha : a.natAbs < 256) (h2 : n2.natAbs < 256) (h3 : n3.natAbs < 256) (h6 : n6.natAbs < 256) (hd : d.natAbs < 256) (hd0 : K.ofInt d ≠ 0) :
    PCall P 190 [j6 a,j6 n2,j6 n3,j6 n6,j6 d] (Y6 (K.div (zgY a n2 n3 n6) (K.ofInt d))):=by
 have hsz: ∀v:Int,v.natAbs<256→(K.ofInt v).sz≤1:=fun v hv=>K.sz_int v (Nat.le_refl _) (by omega)
 have z1:CvL ZN:=CvL.map_cv (List.replicate 5 [CV.lit (.bool false),CV.lit (.string ⟨#[]⟩)]).flatten
 have z2:CvL (MV.cv (Y6 (K.ofInt a))).cells:=CvL.map_cv _
 have c1:PCall P 144 [j6 a] (Y6 (K.ofInt a)):=z0x a (by omega)
 have c2:PCall P 144 [j6 d] (Y6 (K.ofInt d)):=z0x d (by omega)
 have sm:=fun(v:Int) (w:K) (hv:v.natAbs<256) (hw:w.sz≤1)=>Nat.le_trans (K.sz_mul (K.ofInt v) w) (Nat.add_le_add_right (Nat.add_le_add (hsz v hv) hw) 1)
 have t2:=sm n2 K.r2 h2 (show K.r2.sz≤1 by decide)
 have t3:=sm n3 K.r3 h3 (show K.r3.sz≤1 by decide)
 have t6:=sm n6 K.r6 h6 (show K.r6.sz≤1 by decide)
 have u1:=K.sz_add (K.ofInt n2*K.r2) (K.ofInt n3*K.r3)
 have u2:=K.sz_add (K.ofInt n2*K.r2+K.ofInt n3*K.r3) (K.ofInt n6*K.r6)
 have u3:=K.sz_add (K.ofInt a) (K.ofInt n2*K.r2+K.ofInt n3*K.r3+K.ofInt n6*K.r6)
 have ua:=hsz a ha
 have ud:=hsz d hd
 have hs:(zgY a n2 n3 n6).sz≤100:=by unfold zgY;omega
 have c3:PCall P 147 [Y6 (zgY a n2 n3 n6),Y6 (K.ofInt d)] (.tup [Y6 (K.div (zgY a n2 n3 n6) (K.ofInt d)),j6 0]):=zhb _ _ hd0 (by omega)
 refine z2S (todo:=[.code z0I]) (s:=⟨([j6 a,j6 n2,j6 n3,j6 n6,j6 d].map .cv)++List.replicate 37 undefM,[]⟩) (rs:=_) rfl ?_
 rw[zaY]
 refine Ok.step ?_ (fun b a cs w=>step_seq)
 refine Ok.regS (s':=⟨(([j6 a,j6 n2,j6 n3,j6 n6,j6 d].map MV.cv)++List.replicate 5 .unk++[.ptr 0 0]++List.replicate 31 .unk),[some ZN]⟩) (ors:=[]) [0,1,2,3,4,10] [0] (by kernel_rfl) rfl (.cons z1 .nil) rfl ?_
 refine Ok.step ?_ (fun b a cs w=>step_seq)
 refine Ok.regS (s':=⟨tmN a n2 n3 n6 d .unk .unk .unk .unk,hpN (K.ofInt a)⟩) (ors:=[(1,.r (Y6 (K.ofInt a)))]) [0,1,2,3,4,10,11] [0,2] (by kernel_rfl) rfl (.cons c1 (.cons (show 10≤10 by decide) (.cons z1 (.cons z2 .nil)))) rfl ?_
 refine Ok.step ?_ (fun b a cs w=>step_seq)
 refine Ok.step ?_ (fun b a cs w=>step_seq)
 refine zj0 rfl (fun r=>?_)
 refine OkX.step ?_ (fun b a cs w=>step_block)
 refine OkX.step ?_ (fun b a cs w=>step_loop)
 refine zaK (tot:=zgY a n2 n3 n6) rfl h2 h3 h6 ?_ 3 #[] (K.ofInt a) r (by simp[leftOf,z1U]) (by simp[z14,zgY]) (by omega)
 exact okR (ors:=[(2,.r (Y6 (K.ofInt d))),(3,.r (.tup [Y6 (K.div (zgY a n2 n3 n6) (K.ofInt d)),j6 0]))]) (by kernel_rfl) (.cons c2 (.cons c3 (.cons (show 10≤10 by decide) (.cons (show 10≤10 by decide) .nil)))) rfl
end Go.Fw
open Go
namespace Go.Fw
set_option maxRecDepth 100000
def z4s(i:Nat):K:=
 match i with
 |0=>⟨1,0,0,0,1,by decide,by decide⟩
 |1=>⟨0,1,0,1,4,by decide,by decide⟩
 |2=>⟨0,0,1,0,2,by decide,by decide⟩
 |3=>⟨0,1,0,0,2,by decide,by decide⟩
 |4=>⟨1,0,0,0,2,by decide,by decide⟩
 |5=>⟨0,-1,0,1,4,by decide,by decide⟩
 |_=>⟨0,0,0,0,1,by decide,by decide⟩
theorem kq(x y:K)(h0:x.c0=y.c0)(h1:x.c1=y.c1)(h2:x.c2=y.c2)(h3:x.c3=y.c3)(h4:x.d=y.d):Y6 x=Y6 y:=zhu h0 h1 h2 h3 h4
theorem z9u {i a b c e d : Int} {v : CV} (h : PCall P 190 [j6 a, j6 b, j6 c, j6 e, j6 d] v) (hi : 0 ≤ i ∧ i < 7)
    (hrun:zbC P 122 [j6 i] [(26,.r v)] false 100000= .ret v [35≤35,0≤i∧i<7,5≤5,(0:Int)≤0∧(0:Int)<5,(0:Int)≤1∧(1:Int)<5,(0:Int)≤2∧(2:Int)<5,(0:Int)≤3∧(3:Int)<5,(0:Int)≤4∧(4:Int)<5,PCall P 190 [j6 a,j6 b,j6 c,j6 e,j6 d] v,10≤10]):PCall P 122 [j6 i] v:=
 zh5 hrun (.cons (by decide) (.cons hi (.cons (by decide) (.cons (by decide) (.cons (by decide) (.cons (by decide) (.cons (by decide) (.cons (by decide) (.cons h (.cons (by decide) .nil))))))))))
theorem zdX:PCall P 122 [j6 0] (Y6 (z4s 0)):=z9u ((z0y (1) (0) (0) (0) (1) (by decide) (by decide) (by decide) (by decide) (by decide) (by decide)).eq (kq _ (z4s 0) (by decide) (by decide) (by decide) (by decide) (by decide))) (by decide) (by kernel_rfl)
theorem zdT:PCall P 122 [j6 1] (Y6 (z4s 1)):=z9u ((z0y (0) (1) (0) (1) (4) (by decide) (by decide) (by decide) (by decide) (by decide) (by decide)).eq (kq _ (z4s 1) (by decide) (by decide) (by decide) (by decide) (by decide))) (by decide) (by kernel_rfl)
theorem zbX:PCall P 122 [j6 2] (Y6 (z4s 2)):=z9u ((z0y (0) (0) (1) (0) (2) (by decide) (by decide) (by decide) (by decide) (by decide) (by decide)).eq (kq _ (z4s 2) (by decide) (by decide) (by decide) (by decide) (by decide))) (by decide) (by kernel_rfl)
theorem zc0:PCall P 122 [j6 3] (Y6 (z4s 3)):=z9u ((z0y (0) (1) (0) (0) (2) (by decide) (by decide) (by decide) (by decide) (by decide) (by decide)).eq (kq _ (z4s 3) (by decide) (by decide) (by decide) (by decide) (by decide))) (by decide) (by kernel_rfl)
theorem zcX:PCall P 122 [j6 4] (Y6 (z4s 4)):=z9u ((z0y (1) (0) (0) (0) (2) (by decide) (by decide) (by decide) (by decide) (by decide) (by decide)).eq (kq _ (z4s 4) (by decide) (by decide) (by decide) (by decide) (by decide))) (by decide) (by kernel_rfl)
theorem ze8:PCall P 122 [j6 5] (Y6 (z4s 5)):=z9u ((z0y (0) (-1) (0) (1) (4) (by decide) (by decide) (by decide) (by decide) (by decide) (by decide)).eq (kq _ (z4s 5) (by decide) (by decide) (by decide) (by decide) (by decide))) (by decide) (by kernel_rfl)
theorem zdM:PCall P 122 [j6 6] (Y6 (z4s 6)):=z9u ((z0y (0) (0) (0) (0) (1) (by decide) (by decide) (by decide) (by decide) (by decide) (by decide)).eq (kq _ (z4s 6) (by decide) (by decide) (by decide) (by decide) (by decide))) (by decide) (by kernel_rfl)
theorem z1E(i:Int)(h:0≤i∧i<7):PCall P 122 [j6 i] (Y6 (z4s i.toNat)):=by
 have hc:i=0∨i=1∨i=2∨i=3∨i=4∨i=5∨i=6:=by omega
 rcases hc with rfl|rfl|rfl|rfl|rfl|rfl|rfl
 · exact zdX
 · exact zdT
 · exact zbX
 · exact zc0
 · exact zcX
 · exact ze8
 · exact zdM
end Go.Fw
open Go IntKind
namespace Go.Fw
set_option maxRecDepth 100000
theorem zkA(i:Int)(h1:decide (i.tmod 24<0)=true):PCall P 31 [j6 i] (.lit (.int .i64 (i64.wrap (i.tmod 24+24)))):=
 j4 (.c (nz 24) (.b 6 h1 .nil)) (by kernel_rfl)
theorem ziS(i:Int)(h1:decide (i.tmod 24<0)=false):PCall P 31 [j6 i] (.lit (.int .i64 (i.tmod 24))):=
 j4 (.c (nz 24) (.b 6 h1 .nil)) (by kernel_rfl)
end Go.Fw
open Go
namespace Go.Fw
theorem zmx(i:Int):(decide (i.tmod 24<0)=true→IntKind.i64.wrap (i.tmod 24+24)=i%24)∧(decide (i.tmod 24<0)=false→i.tmod 24=i%24)∧(IntKind.i64.wrap (i.tmod 24+24)).tmod 24=i%24:=by
 have e:=Int.mul_tdiv_add_tmod i 24
 have b1:=Int.tmod_lt_of_pos i (show(0:Int)<24 by decide)
 have b2:=Int.lt_tmod_of_pos i (show(0:Int)<24 by decide)
 generalize i.tmod 24=t at e b1 b2 ⊢
 generalize i.tdiv 24=q at e
 rw[w64 (by omega),Int.tmod_eq_emod_of_nonneg (by omega)]
 simp only[decide_eq_true_eq,decide_eq_false_iff_not]
 omega
theorem z2F(i:Int):PCall P 31 [j6 i] (j6 (i%24)):=by
 cases h:decide (i.tmod 24<0)with
 |true=>exact(zkA i h).eq (congrArg (fun x=>j6 x) ((zmx i).1 h))
 |false=>exact(ziS i h).eq (congrArg (fun x=>j6 x) ((zmx i).2.1 h))
end Go.Fw
open Go IntKind
namespace Go.Fw
set_option maxRecDepth 100000
theorem zkj(i:Int)(h1:decide (i%24>12)=true)(h2:decide (i64.wrap ((24:Int)-i%24)>6)=true)(s15_0:(0:Int)≤i64.wrap ((12:Int)-i64.wrap ((24:Int)-i%24))∧i64.wrap ((12:Int)-i64.wrap ((24:Int)-i%24))<7)(s16_0:Smk (z4s (i64.wrap ((12:Int)-i64.wrap ((24:Int)-i%24))).toNat)):PCall P 33 [j6 i] (Y6 (-z4s (i64.wrap ((12:Int)-i64.wrap ((24:Int)-i%24))).toNat)):=
 j4 (.r 2 (z2F (i)) (.b 6 h1 (.b 12 h2 (.r 15 (z1E (i64.wrap ((12:Int)-i64.wrap ((24:Int)-i%24))) s15_0) (.r 16 (zdo (z4s (i64.wrap ((12:Int)-i64.wrap ((24:Int)-i%24))).toNat) s16_0) (.c (lq 10 10) .nil)))))) (by kernel_rfl)
theorem ziH(i:Int)(h1:decide (i%24>12)=true)(h2:decide (i64.wrap ((24:Int)-i%24)>6)=false)(s14_0:(0:Int)≤i64.wrap ((24:Int)-i%24)∧i64.wrap ((24:Int)-i%24)<7):PCall P 33 [j6 i] (Y6 (z4s (i64.wrap ((24:Int)-i%24)).toNat)):=
 j4 (.r 2 (z2F (i)) (.b 6 h1 (.b 12 h2 (.r 14 (z1E (i64.wrap ((24:Int)-i%24)) s14_0) (.c (lq 10 10) .nil))))) (by kernel_rfl)
theorem zl8(i:Int)(h1:decide (i%24>12)=false)(h2:decide (i%24>6)=true)(s12_0:(0:Int)≤i64.wrap ((12:Int)-i%24)∧i64.wrap ((12:Int)-i%24)<7)(s13_0:Smk (z4s (i64.wrap ((12:Int)-i%24)).toNat)):PCall P 33 [j6 i] (Y6 (-z4s (i64.wrap ((12:Int)-i%24)).toNat)):=
 j4 (.r 2 (z2F (i)) (.b 6 h1 (.b 9 h2 (.r 12 (z1E (i64.wrap ((12:Int)-i%24)) s12_0) (.r 13 (zdo (z4s (i64.wrap ((12:Int)-i%24)).toNat) s13_0) (.c (lq 10 10) .nil)))))) (by kernel_rfl)
theorem zjm(i:Int)(h1:decide (i%24>12)=false)(h2:decide (i%24>6)=false)(s11_0:(0:Int)≤i%24∧i%24<7):PCall P 33 [j6 i] (Y6 (z4s (i%24).toNat)):=
 j4 (.r 2 (z2F (i)) (.b 6 h1 (.b 9 h2 (.r 11 (z1E (i%24) s11_0) (.c (lq 10 10) .nil))))) (by kernel_rfl)
end Go.Fw
open Go
namespace Go.Fw
def Y0(i:Int):K:=
 let j:=i%24
 let k:=if j>12 then 24-j else j
 if k>6 then-z4s (12-k).toNat else z4s k.toNat
def Y5(i:Int):K:=Y0 (i%24-6)
theorem zef(n:Nat):Smk (z4s n):=by
 match n with
 |0=>decide
 |1=>decide
 |2=>decide
 |3=>decide
 |4=>decide
 |5=>decide
 |_+6=>exact(by decide:Smk (z4s 6))
theorem z8e(i:Int):PCall P 33 [j6 i] (Y6 (Y0 i)):=by
 have e1:IntKind.i64.wrap (24-i%24)=24-i%24:=w64 (by omega)
 have e2:IntKind.i64.wrap (12-i%24)=12-i%24:=w64 (by omega)
 have e3:IntKind.i64.wrap (12-(24-i%24))=12-(24-i%24):=w64 (by omega)
 cases h1:decide (i%24>12)with
 |true=>
  have h1':=of_decide_eq_true h1
  cases h2:decide (24-i%24>6)with
  |true=>
   have h2':=of_decide_eq_true h2
   refine(zkj i h1 (by rw[e1];exact h2) (by rw[e1,e3];omega) (zef _)).eq ?_
   rw[e1,e3];simp only[Y0,if_pos h1',if_pos h2']
  |false=>
   have h2':=of_decide_eq_false h2
   refine(ziH i h1 (by rw[e1];exact h2) (by rw[e1];omega)).eq ?_
   rw[e1];simp only[Y0,if_pos h1',if_neg h2']
 |false=>
  have h1':=of_decide_eq_false h1
  cases h2:decide (i%24>6)with
  |true=>
   have h2':=of_decide_eq_true h2
   refine(zl8 i h1 h2 (by rw[e2];omega) (zef _)).eq ?_
   rw[e2];simp only[Y0,if_neg h1',if_pos h2']
  |false=>
   have h2':=of_decide_eq_false h2
   refine(zjm i h1 h2 (by omega)).eq ?_
   simp only[Y0,if_neg h1',if_neg h2']
end Go.Fw
open Go
namespace Go.Fw
set_option maxRecDepth 100000
theorem Sm3.of{x:K}(h:x.c0.natAbs<256∧x.c1.natAbs<256∧x.c2.natAbs<256∧x.c3.natAbs<256∧x.d.natAbs<256):Sm3 x:=by
 intro i hi
 have k:(256:Nat)≤256^3:=by decide
 have:i=0∨i=1∨i=2∨i=3∨i=4:=by omega
 rcases this with rfl|rfl|rfl|rfl|rfl
 · exact Nat.lt_of_lt_of_le h.1 k
 · exact Nat.lt_of_lt_of_le h.2.1 k
 · exact Nat.lt_of_lt_of_le h.2.2.1 k
 · exact Nat.lt_of_lt_of_le h.2.2.2.1 k
 · exact Nat.lt_of_lt_of_le h.2.2.2.2 k
end Go.Fw
open Go
namespace Go.Fw
set_option maxRecDepth 100000
theorem pS0:PCall P 183 [.agg [.lit (.bool false),Z9 (bytesOf 0)]] (j6 0):=Q9 0
theorem pO4:PCall P 185 [.agg [.lit (.bool false),Z9 (bytesOf 4)],.agg [.lit (.bool false),Z9 (bytesOf 1)]] (.agg [.lit (.bool false),Z9 (bytesOf 4)]):=z8W 4 1 (by decide) (by decide) (by decide) (by decide)
theorem zr4:PCall P 131 [j6 1] (.agg [.lit (.bool false),Z9 (bytesOf 1)]):=X9 1 (by decide)
theorem pP4:PCall P 187 [.agg [.lit (.bool false),Z9 (bytesOf 4)]] (Z9 ⟨#[52]⟩):=zl2
end Go.Fw
open Go IntKind
namespace Go.Fw
set_option maxRecDepth 100000
theorem zjA(i:Int):PCall P 35 [j6 i] (Y6 (Y0 (i64.wrap (i%24-6)))):=
 j4 (.r 2 (z2F (i)) (.r 4 (z8e (i64.wrap (i%24-6))) (.c (lq 10 10) .nil))) (by kernel_rfl)
end Go.Fw
open Go
namespace Go.Fw
theorem zdE(i:Int):PCall P 35 [j6 i] (Y6 (Y5 i)):=(zjA i).eq (by rw[w64 (by omega)];rfl)
end Go.Fw
open Go
namespace Go.Fw
theorem CvL.own(l:List CV):CvL (own l):=CvL.map_cv l
end Go.Fw
open Go
namespace Go.Fw
def th(t:Nat→Bool)(p:Nat):MV:= .cv (.lit (.bool (t p)))
end Go.Fw
open Go
namespace Go.Fw
set_option maxRecDepth 100000
def zll(x:K):Bool:=decide (x.c0.natAbs<256)&&decide (x.c1.natAbs<256)&&decide (x.c2.natAbs<256)&&decide (x.c3.natAbs<256)&&decide (x.d.natAbs<256)
theorem Sm3.b{x:K}(h:zll x=true):Sm3 x:=by
 simp only[zll,Bool.and_eq_true,decide_eq_true_eq]at h
 exact Sm3.of ⟨h.1.1.1.1,h.1.1.1.2,h.1.1.2,h.1.2,h.2⟩
theorem z70(i:Int):Y0 i=Y0 (i%24):=by simp only[Y0,Int.emod_emod_of_dvd i (Int.dvd_refl 24)]
theorem z7r(i:Int):Y5 i=Y5 (i%24):=by simp only[Y5,Int.emod_emod_of_dvd i (Int.dvd_refl 24)]
theorem z5I{i j:Int}(h:i%24=j%24):Y0 i=Y0 j:=by rw[z70 i,z70 j,h]
theorem z5s{i j:Int}(h:i%24=j%24):Y5 i=Y5 j:=by rw[z7r i,z7r j,h]
theorem zqE: ∀i:_root_.Fin 24,Y0 i.val*Y0 i.val+Y5 i.val*Y5 i.val=K.ofInt 1:=by decide+kernel
theorem zql: ∀i k:_root_.Fin 24,Y0 (i.val+k.val)=Y0 i.val*Y0 k.val-Y5 i.val*Y5 k.val:=by decide+kernel
theorem zqI: ∀i k:_root_.Fin 24,Y5 (i.val+k.val)=Y5 i.val*Y0 k.val+Y0 i.val*Y5 k.val:=by decide+kernel
theorem zoN: ∀i:_root_.Fin 24,zll (Y0 i.val)=true∧zll (Y5 i.val)=true:=by decide+kernel
theorem zm2: ∀i:_root_.Fin 24,Y0 (-i.val)=Y0 i.val∧Y5 (-i.val)= -Y5 i.val:=by decide+kernel
theorem zeN(i:Int): ∃a:_root_.Fin 24,i%24=(a.val:Int):=⟨⟨(i%24).toNat,by omega⟩,by simp only;omega⟩
theorem z5W{i:Int}{a:_root_.Fin 24}(h:i%24=(a.val:Int)):Y0 i=Y0 a.val:=by rw[z70 i,h]
theorem z5Q{i:Int}{a:_root_.Fin 24}(h:i%24=(a.val:Int)):Y5 i=Y5 a.val:=by rw[z7r i,h]
theorem z9o(i:Int):Y0 i*Y0 i+Y5 i*Y5 i=K.ofInt 1:=by
 obtain⟨a,ha⟩:=zeN i
 rw[z5W ha,z5Q ha];exact zqE a
theorem ziZ(i k:Int):Y0 (i+k)=Y0 i*Y0 k-Y5 i*Y5 k:=by
 obtain⟨a,ha⟩:=zeN i
 obtain⟨b,hb⟩:=zeN k
 rw[z5W ha,z5Q ha,z5W hb,z5Q hb,←zql]
 exact z5I (by omega)
theorem zhH(i k:Int):Y5 (i+k)=Y5 i*Y0 k+Y0 i*Y5 k:=by
 obtain⟨a,ha⟩:=zeN i
 obtain⟨b,hb⟩:=zeN k
 rw[z5W ha,z5Q ha,z5W hb,z5Q hb,←zqI]
 exact z5s (by omega)
theorem zd2(i:Int):Y0 (-i)=Y0 i:=by
 obtain⟨a,ha⟩:=zeN i
 rw[z5W ha,←(zm2 a).1]
 exact z5I (by omega)
theorem zcQ(i:Int):Y5 (-i)= -Y5 i:=by
 obtain⟨a,ha⟩:=zeN i
 rw[z5Q ha,←(zm2 a).2]
 exact z5s (by omega)
end Go.Fw
open Go
namespace Go.Fw
def zbm(x:K):List CV:=[.lit (.bool (decide (x.c0<0))),Z9 (bytesOf x.c0.natAbs),.lit (.bool (decide (x.c1<0))),Z9 (bytesOf x.c1.natAbs),.lit (.bool (decide (x.c2<0))),Z9 (bytesOf x.c2.natAbs),.lit (.bool (decide (x.c3<0))),Z9 (bytesOf x.c3.natAbs),.lit (.bool (decide (x.d<0))),Z9 (bytesOf x.d.natAbs)]
def zbt(x y z:K):CV:= .agg (zbm x++(zbm y++zbm z))
end Go.Fw
open Go
namespace Go.Fw
set_option maxRecDepth 100000
structure RN where
 b0:Bool
 s0:ByteArray
 b1:Bool
 s1:ByteArray
 b2:Bool
 s2:ByteArray
 b3:Bool
 s3:ByteArray
 b4:Bool
 s4:ByteArray
namespace RN
def l(x:RN):List CV:=[.lit (.bool x.b0),Z9 x.s0,.lit (.bool x.b1),Z9 x.s1,.lit (.bool x.b2),Z9 x.s2,.lit (.bool x.b3),Z9 x.s3,.lit (.bool x.b4),Z9 x.s4]
def raw(n:Nat)(x:RN):Bool:=decide (x.s0.size≤n)&&decide (x.s1.size≤n)&&decide (x.s2.size≤n)&&decide (x.s3.size≤n)&&decide (x.s4.size≤n)
def ok(x:RN):Bool:=J5 x.b0 x.s0&&J5 x.b1 x.s1&&J5 x.b2 x.s2&&J5 x.b3 x.s3&&J5 x.b4 x.s4&&decide (0<zOf x.b4 x.s4)&&decide (X3 (zOf x.b0 x.s0) (zOf x.b1 x.s1) (zOf x.b2 x.s2) (zOf x.b3 x.s3) (zOf x.b4 x.s4)=1)
theorem l_n5 {x : RN} (h0 : J5 x.b0 x.s0 = true) (h1 : J5 x.b1 x.s1 = true) (h2 : J5 x.b2 x.s2 = true) (h3 : J5 x.b3 x.s3 = true) (h4 : J5 x.b4 x.s4 = true) :
    CV.agg x.l=n5C (zOf x.b0 x.s0) (zOf x.b1 x.s1) (zOf x.b2 x.s2) (zOf x.b3 x.s3) (zOf x.b4 x.s4):=by
 obtain⟨a0,c0,d0⟩:=z02 h0
 obtain⟨a1,c1,d1⟩:=z02 h1
 obtain⟨a2,c2,d2⟩:=z02 h2
 obtain⟨a3,c3,d3⟩:=z02 h3
 obtain⟨a4,c4,d4⟩:=z02 h4
 have e0:=z3n h0
 have e1:=z3n h1
 have e2:=z3n h2
 have e3:=z3n h3
 have e4:=z3n h4
 unfold J6 at e0 e1 e2 e3 e4
 simp only[CV.agg.injEq,List.cons.injEq,and_true]at e0 e1 e2 e3 e4
 unfold l
 rw[e0.1,e0.2,e1.1,e1.2,e2.1,e2.2,e3.1,e3.2,e4.1,e4.2]
 rfl
theorem ok_k{x:RN}(h:x.ok=true): ∃k:K,x.l=zbm k:=by
 unfold ok at h
 simp only[Bool.and_eq_true,decide_eq_true_eq]at h
 obtain⟨⟨⟨⟨⟨⟨h0,h1⟩,h2⟩,h3⟩,h4⟩,h5⟩,h6⟩:=h
 have e:=l_n5 h0 h1 h2 h3 h4
 refine⟨⟨_,_,_,_,_,h5,h6⟩,?_⟩
 injection e
end RN
theorem zg9(a b c d e:Int):X3 a b c d e=Nat.gcd (Nat.gcd (Nat.gcd (Nat.gcd a.natAbs b.natAbs) c.natAbs) d.natAbs) e.natAbs:=by
 unfold X3
 rw[Nat.gcd_comm e.natAbs a.natAbs]
 simp only[Nat.gcd_assoc]
 congr 1
 rw[Nat.gcd_comm e.natAbs]
 simp only[Nat.gcd_assoc]
theorem Sml.str{s:ByteArray}(h:s.size≤1000000):Sml (J7 s):=Sml.of_lt (Nat.lt_of_lt_of_le (z0t s) (Nat.pow_le_pow_right (by decide) h)) (by decide)
theorem z31(z:Int):decide (z.sign>0)=decide (0<z):=by
 rw[decide_eq_decide];exact Int.sign_pos_iff
theorem z9O(x:RN)(hs:x.raw 1000000=true):PCall P 124 [.agg x.l] (.lit (.bool x.ok)):=by
 obtain⟨b0,s0,b1,s1,b2,s2,b3,s3,b4,s4⟩:=x
 simp only[RN.raw,Bool.and_eq_true,decide_eq_true_eq]at hs
 obtain⟨⟨⟨⟨z0,z1⟩,z2⟩,z3⟩,z4⟩:=hs
 have y0:=Sml.str z0
 have y1:=Sml.str z1
 have y2:=Sml.str z2
 have y3:=Sml.str z3
 have y4:=Sml.str z4
 show PCall P 124 [r5 b0 b1 b2 b3 b4 s0 s1 s2 s3 s4] _
 by_cases hw: ∀i,i<5→z6g (fB b0 b1 b2 b3 b4) (fS s0 s1 s2 s3 s4) i
 · have v0:J5 b0 s0=true:=(hw 0 (by decide)).2
   have v1:J5 b1 s1=true:=(hw 1 (by decide)).2
   have v2:J5 b2 s2=true:=(hw 2 (by decide)).2
   have v3:J5 b3 s3=true:=(hw 3 (by decide)).2
   have v4:J5 b4 s4=true:=(hw 4 (by decide)).2
   have bd: ∀{b:Bool} {s:ByteArray},J5 b s=true→s.size≤3→(zOf b s).natAbs<2^63:=fun {b s} hv hs=>by
    rw[(z02 hv).2.2]
    exact Nat.lt_of_lt_of_le (z0t s) (Nat.le_trans (Nat.pow_le_pow_right (by decide) hs) (by decide))
   have hok:RN.ok ⟨b0,s0,b1,s1,b2,s2,b3,s3,b4,s4⟩=(decide (0<zOf b4 s4)&&decide (X3 (zOf b0 s0) (zOf b1 s1) (zOf b2 s2) (zOf b3 s3) (zOf b4 s4)=1)):=by
    simp only[RN.ok,v0,v1,v2,v3,v4,Bool.true_and]
   rw[hok]
   by_cases hp:0<zOf b4 s4
   · have:=zoo b0 b1 b2 b3 b4 s0 s1 s2 s3 s4 (decide_eq_true hp) hw ⟨bd v0 (hw 0 (by decide)).1,bd v1 (hw 1 (by decide)).1,bd v2 (hw 2 (by decide)).1,bd v3 (hw 3 (by decide)).1,bd v4 (hw 4 (by decide)).1⟩
     refine this.eqB ?_
     show(((X3 (zOf b0 s0) (zOf b1 s1) (zOf b2 s2) (zOf b3 s3) (zOf b4 s4):Nat):Int)==1)=_
     rw[decide_eq_true hp,Bool.true_and,Bool.eq_iff_iff,beq_iff_eq,decide_eq_true_eq]
     omega
   · have:=zpG b0 b1 b2 b3 b4 s0 s1 s2 s3 s4 (decide_eq_false hp) hw
     refine this.eqB ?_
     rw[decide_eq_false hp,Bool.false_and]
 · cases v0:J5 b0 s0
   · refine(zp3 b0 b1 b2 b3 b4 s0 s1 s2 s3 s4 v0 hw).eqB ?_
     simp[RN.ok,v0]
   cases v1:J5 b1 s1
   · refine(zoH b0 b1 b2 b3 b4 s0 s1 s2 s3 s4 v0 v1 hw y0).eqB ?_
     simp[RN.ok,v1]
   have t0:=(z02 v0).2.2
   have t1:=(z02 v1).2.2
   have g0:Sml ((Nat.gcd 0 (zOf b0 s0).natAbs:Nat):Int).natAbs:=by rw[Int.natAbs_natCast,Nat.gcd_zero_left,t0];exact y0
   cases v2:J5 b2 s2
   · refine(zmg b0 b1 b2 b3 b4 s0 s1 s2 s3 s4 v0 v1 v2 hw y0 g0 y1).eqB ?_
     simp[RN.ok,v2]
   have t2:=(z02 v2).2.2
   have g1:Sml (((((Nat.gcd 0 (zOf b0 s0).natAbs:Nat):Int).natAbs).gcd (zOf b1 s1).natAbs:Nat):Int).natAbs:=by rw[Int.natAbs_natCast];exact g0.gcd (by rw[t1];exact y1)
   cases v3:J5 b3 s3
   · refine(zp7 b0 b1 b2 b3 b4 s0 s1 s2 s3 s4 v0 v1 v2 v3 hw y0 g0 y1 g1 y2).eqB ?_
     simp[RN.ok,v3]
   have t3:=(z02 v3).2.2
   have g2:Sml (((((((Nat.gcd 0 (zOf b0 s0).natAbs:Nat):Int).natAbs).gcd (zOf b1 s1).natAbs:Nat):Int).natAbs.gcd (zOf b2 s2).natAbs:Nat):Int).natAbs:=by rw[Int.natAbs_natCast];exact g1.gcd (by rw[t2];exact y2)
   cases v4:J5 b4 s4
   · refine(zpx b0 b1 b2 b3 b4 s0 s1 s2 s3 s4 v0 v1 v2 v3 v4 hw y0 g0 y1 g1 y2 g2 y3).eqB ?_
     simp[RN.ok,v4]
   have g3:Sml (((((((((Nat.gcd 0 (zOf b0 s0).natAbs:Nat):Int).natAbs).gcd (zOf b1 s1).natAbs:Nat):Int).natAbs.gcd (zOf b2 s2).natAbs:Nat):Int).natAbs.gcd (zOf b3 s3).natAbs:Nat):Int).natAbs:=by rw[Int.natAbs_natCast];exact g2.gcd (by rw[t3];exact y3)
   have hok:RN.ok ⟨b0,s0,b1,s1,b2,s2,b3,s3,b4,s4⟩=(decide (0<zOf b4 s4)&&decide (X3 (zOf b0 s0) (zOf b1 s1) (zOf b2 s2) (zOf b3 s3) (zOf b4 s4)=1)):=by
    simp only[RN.ok,v0,v1,v2,v3,v4,Bool.true_and]
   rw[hok]
   by_cases hp:0<zOf b4 s4
   · refine(zmv b0 b1 b2 b3 b4 s0 s1 s2 s3 s4 v0 v1 v2 v3 v4 (by rw[z31];exact decide_eq_true hp) hw y0 g0 y1 g1 y2 g2 y3 g3 y4 (by decide)).eqB ?_
     rw[zg9,decide_eq_true hp,Bool.true_and]
     simp only[Int.natAbs_natCast,Nat.gcd_zero_left,z1n,Bool.and_true]
     rw[decide_eq_false (by omega)]
     rfl
   · refine(zpc b0 b1 b2 b3 b4 s0 s1 s2 s3 s4 v0 v1 v2 v3 v4 (by rw[z31];exact decide_eq_false hp) hw y0 g0 y1 g1 y2 g2 y3).eqB ?_
     rw[decide_eq_false hp,Bool.false_and]
theorem z3O{b:Bool}{s:ByteArray}(hv:J5 b s=true)(h:s.size≤1000000):SmlZ (zOf b s):=by
 show Sml (zOf b s).natAbs
 rw[(z02 hv).2.2];exact Sml.str h
theorem zaz(x:RN)(hs:x.raw 1000000=true):PCall P 154 [.agg x.l] (.lit (.bool x.ok)):=by
 cases v0:J5 x.b0 x.s0
 · refine(znl x.b0 x.b1 x.b2 x.b3 x.b4 x.s0 x.s1 x.s2 x.s3 x.s4 v0).eqB ?_
   simp[RN.ok,v0]
 cases v1:J5 x.b1 x.s1
 · refine(znx x.b0 x.b1 x.b2 x.b3 x.b4 x.s0 x.s1 x.s2 x.s3 x.s4 v0 v1).eqB ?_
   simp[RN.ok,v1]
 cases v2:J5 x.b2 x.s2
 · refine(zoZ x.b0 x.b1 x.b2 x.b3 x.b4 x.s0 x.s1 x.s2 x.s3 x.s4 v0 v1 v2).eqB ?_
   simp[RN.ok,v2]
 cases v3:J5 x.b3 x.s3
 · refine(zmW x.b0 x.b1 x.b2 x.b3 x.b4 x.s0 x.s1 x.s2 x.s3 x.s4 v0 v1 v2 v3).eqB ?_
   simp[RN.ok,v3]
 cases v4:J5 x.b4 x.s4
 · refine(zlE x.b0 x.b1 x.b2 x.b3 x.b4 x.s0 x.s1 x.s2 x.s3 x.s4 v0 v1 v2 v3 v4).eqB ?_
   simp[RN.ok,v4]
 simp only[RN.raw,Bool.and_eq_true,decide_eq_true_eq]at hs
 obtain⟨⟨⟨⟨z0,z1⟩,z2⟩,z3⟩,z4⟩:=hs
 rw[RN.l_n5 v0 v1 v2 v3 v4]
 have hok:x.ok=(decide (0<zOf x.b4 x.s4)&&decide (X3 (zOf x.b0 x.s0) (zOf x.b1 x.s1) (zOf x.b2 x.s2) (zOf x.b3 x.s3) (zOf x.b4 x.s4)=1)):=by
  simp only[RN.ok,v0,v1,v2,v3,v4,Bool.true_and]
 rw[hok]
 by_cases hp:0<zOf x.b4 x.s4
 · refine(z7R _ _ _ _ _ (by rw[z31];exact decide_eq_true hp) (z3O v0 z0) (z3O v1 z1) (z3O v2 z2) (z3O v3 z3) (z3O v4 z4) (by decide)).eqB ?_
   rw[decide_eq_true hp,Bool.true_and]
   simp only[Int.natAbs_natCast,z1n,Bool.and_true]
   rw[decide_eq_false (by omega)]
   rfl
 · refine(zbF _ _ _ _ _ (by rw[z31];exact decide_eq_false hp)).eqB ?_
   rw[decide_eq_false hp,Bool.false_and]
end Go.Fw
open Go
namespace Go.Fw
set_option maxRecDepth 100000
def RN.c(x:RN):CV:=r5 x.b0 x.b1 x.b2 x.b3 x.b4 x.s0 x.s1 x.s2 x.s3 x.s4
def zli(x y z:RN):CV:= .agg (x.l++(y.l++z.l))
theorem z1B(x:RN)(hs:x.raw 1000000=true):PCall P 124 [x.c] (.lit (.bool x.ok)):=z9O x hs
theorem z0V(x:RN)(hs:x.raw 1000000=true):PCall P 154 [x.c] (.lit (.bool x.ok)):=zaz x hs
end Go.Fw
open Go
namespace Go.Fw
set_option maxRecDepth 100000
theorem zhf(a b c d e:Int)(he:e≠0)(ha:SmlZ a)(hb:SmlZ b)(hc:SmlZ c)(hd:SmlZ d)(hl:SmlZ e):PCall P 129 [c4C a b c d,J6 e] (Y6 (K.of a b c d e)):=by
 have gl: ∀x y:Nat,x≠0→Sml x→Nat.gcd x y≠0∧Sml (Nat.gcd x y):=fun x y h0 h=>⟨by have:=Nat.gcd_pos_of_pos_left y (Nat.pos_of_ne_zero h0);omega,h.mono (Nat.gcd_le_left _ (Nat.pos_of_ne_zero h0))⟩
 obtain⟨n1,l1⟩:=gl e.natAbs a.natAbs (by omega) hl
 obtain⟨n2,l2⟩:=gl _ b.natAbs n1 l1
 obtain⟨n3,l3⟩:=gl _ c.natAbs n2 l2
 obtain⟨n4,l4⟩:=gl _ d.natAbs n3 l3
 obtain⟨v0,v1,v2,v3,v4⟩:=K.den_dvd a b c d e
 have hne:=K.den_ne (c0:=a) (c1:=b) (c2:=c) (c3:=d) he
 have hdl:Sml (K.den a b c d e).natAbs:=by rw[K.den_natAbs];exact l4
 exact zeh a b c d e he (z2z _ _ hl ha) (z2z _ _ (by rwa[Int.natAbs_natCast]) hb) (z2z _ _ (by rwa[Int.natAbs_natCast]) hc) (z2z _ _ (by rwa[Int.natAbs_natCast]) hd)
  (z27 _ _ ha hdl hne v0) (z27 _ _ hb hdl hne v1) (z27 _ _ hc hdl hne v2) (z27 _ _ hd hdl hne v3) (z27 _ _ hl hdl hne v4)
def RN.ofK(x:K):RN:=⟨decide (x.c0<0),bytesOf x.c0.natAbs,decide (x.c1<0),bytesOf x.c1.natAbs,decide (x.c2<0),bytesOf x.c2.natAbs,decide (x.c3<0),bytesOf x.c3.natAbs,decide (x.d<0),bytesOf x.d.natAbs⟩
theorem RN.ofK_l(x:K):(RN.ofK x).l=zbm x:=rfl
theorem RN.ofK_ok(x:K):(RN.ofK x).ok=true:=by
 unfold RN.ok RN.ofK
 simp only[z4o,zd1,Bool.true_and,Bool.and_eq_true,decide_eq_true_eq]
 exact⟨x.pos,x.cop⟩
theorem RN.ofK_raw(x:K){n:Nat}(h:x.sz≤n):(RN.ofK x).raw n=true:=by
 obtain⟨h0,h1,h2,h3,h4⟩:=K.sz_le.1 h
 unfold RN.raw RN.ofK
 simp only[Bool.and_eq_true,decide_eq_true_eq]
 exact⟨⟨⟨⟨V5.2 h0,V5.2 h1⟩,V5.2 h2⟩,V5.2 h3⟩,V5.2 h4⟩
theorem z1H(x:K)(h:x.sz≤1000000):PCall P 124 [Y6 x] (.lit (.bool true)):=by
 have:=z9O (RN.ofK x) (RN.ofK_raw x h)
 rw[RN.ofK_ok]at this
 exact this
open Classical in
noncomputable def wdA(x:K):Nat→Int:=if h:Sm3 x then kZ x else(z66 x h).choose
open Classical in
noncomputable def zbE(x:K):Bool:=decide (Sm3 x)
theorem z9q(x:K):PCall P 125 [Y6 x] (wdV (wdA x) (zbE x)):=by
 rcases Classical.em (Sm3 x)with h|h
 · have e1:wdA x=kZ x:=dif_pos h
   have e2:zbE x=true:=by unfold zbE;exact @decide_eq_true _ (_) h
   rw[e1,e2];exact z7l x h
 · have e1:wdA x=(z66 x h).choose:=dif_neg h
   have e2:zbE x=false:=by unfold zbE;exact @decide_eq_false _ (_) h
   rw[e1,e2];exact(z66 x h).choose_spec
theorem z7M{x:K}(h:zbE x=true):Sm3 x:=by
 unfold zbE at h
 exact @of_decide_eq_true _ (_) h
end Go.Fw
open Go
namespace Go.Fw
set_option maxRecDepth 100000
def Mil(a:Int):Prop:= ∃n,n≤1000000∧a.natAbs<256^n
theorem Mil.sml{a:Int}(h:Mil a):Sml a.natAbs:=by
 obtain⟨n,hn,h⟩:=h
 exact Sml.of_lt h (by omega)
theorem mul_lt_pow{a b n m:Nat}(ha:a<256^n)(hb:b<256^m):a*b<256^(n+m):=by
 rw[Nat.pow_add]
 exact Nat.mul_lt_mul'' ha hb
theorem z6s{a b n:Nat}(ha:a<256^n)(hb:b<256^n):a+b<256^(n+1):=by
 rw[Nat.pow_succ];omega
theorem zg8{a n m:Nat}(ha:a<256^n)(h:n≤m):a<256^m:=Nat.lt_of_lt_of_le ha (Nat.pow_le_pow_right (by decide) h)
def By(n:Nat)(a:Int):Prop:=a.natAbs<256^n
theorem By.sml{n:Nat}{a:Int}(h:By n a)(hn:n<1073741824):Sml a.natAbs:=Sml.of_lt h hn
theorem By.mul{n m:Nat}{a b:Int}(ha:By n a)(hb:By m b):By (n+m) (a*b):=by
 unfold By;rw[Int.natAbs_mul];exact mul_lt_pow ha hb
theorem By.mono{n m:Nat}{a:Int}(h:By n a)(hm:n≤m):By m a:=zg8 h hm
theorem By.add{n:Nat}{a b:Int}(ha:By n a)(hb:By n b):By (n+1) (a+b):=Nat.lt_of_le_of_lt (Int.natAbs_add_le ..) (z6s ha hb)
theorem By.neg{n:Nat}{a:Int}(h:By n a):By n (-a):=by unfold By;rw[Int.natAbs_neg];exact h
theorem By.sm2{n m:Nat}{a b:Int}(ha:By n a)(hb:By m b)(hn:n+m<1073741824):Sml (a.natAbs*b.natAbs):=Sml.of_lt (mul_lt_pow ha hb) hn
theorem By.sma{n:Nat}{a b:Int}(ha:By n a)(hb:By n b)(hn:n+1<1073741824):Sml (a.natAbs+b.natAbs):=Sml.of_lt (z6s ha hb) hn
theorem By.of_sz{x:K}{n:Nat}(h:x.sz≤n):By n x.c0∧By n x.c1∧By n x.c2∧By n x.c3∧By n x.d:=K.sz_le.1 h
end Go.Fw
