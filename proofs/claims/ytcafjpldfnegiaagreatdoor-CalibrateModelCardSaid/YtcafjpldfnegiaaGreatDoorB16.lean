/- A part of the proof that the law returns true for every input: an executor for the model's code, and what functions of the program compute. -/
import Derived.Test.YtcafjpldfnegiaaGreatDoorB03
import Derived.Test.YtcafjpldfnegiaaGreatDoorB15
open Go IntKind
set_option maxRecDepth 10000
namespace Go.Fw
theorem V9(n:Nat):0<B32^n:=Nat.pow_pos (by decide)
theorem zhm{b:Nat}(hb:0<b)(m n j x:Nat)(hj:j<m)(hx:x<b):(Z1 b m n).set j x=Z1 b m (n-n/b^j%b*b^j+x*b^j):=by
 have hp:0<b^j:=Nat.pow_pos hb
 have hle:n/b^j%b*b^j≤n:=Nat.le_trans (Nat.mul_le_mul_right _ (Nat.mod_le _ _)) (Nat.div_mul_le_self _ _)
 have key:(Z1 b m n)=(Z1 b m (n-n/b^j%b*b^j)).set j (n/b^j%b):=by
  have h0:(n-n/b^j%b*b^j)/b^j%b=0:=by
   have e:n-n/b^j%b*b^j=n%b^j+b*(n/b^j/b)*b^j:=by
    have h1:=Nat.mod_add_div n (b^j)
    have h2:=Nat.mod_add_div (n/b^j) b
    have h3:b^j*(n/b^j)=(n/b^j%b)*b^j+b*(n/b^j/b)*b^j:=by rw[←Nat.add_mul,h2,Nat.mul_comm]
    omega
   rw[e,Nat.add_mul_div_right _ _ hp,Nat.div_eq_of_lt (Nat.mod_lt _ hp),Nat.zero_add,Nat.mul_mod_right]
  have:=z1g hb m (n-n/b^j%b*b^j) j (n/b^j%b) hj (by rw[h0,Nat.zero_add];exact Nat.mod_lt _ hb)
  rw[h0,Nat.zero_add]at this
  rw[this]
  congr 1;omega
 have h0:(n-n/b^j%b*b^j)/b^j%b=0:=by
  have e:n-n/b^j%b*b^j=n%b^j+b*(n/b^j/b)*b^j:=by
   have h1:=Nat.mod_add_div n (b^j)
   have h2:=Nat.mod_add_div (n/b^j) b
   have h3:b^j*(n/b^j)=(n/b^j%b)*b^j+b*(n/b^j/b)*b^j:=by rw[←Nat.add_mul,h2,Nat.mul_comm]
   omega
  rw[e,Nat.add_mul_div_right _ _ hp,Nat.div_eq_of_lt (Nat.mod_lt _ hp),Nat.zero_add,Nat.mul_mod_right]
 have hs:=z1g hb m (n-n/b^j%b*b^j) j x hj (by rw[h0,Nat.zero_add];exact hx)
 rw[h0,Nat.zero_add]at hs
 rw[key,List.set_set,hs]
structure Guess(U V v1 v2 top u2 p:Nat):Prop where
 hp:0<p
 hU: ∃ul,ul<p∧U=(top*B32+u2)*p+ul
 hV: ∃vl,vl<p∧V=(v1*B32+v2)*p+vl
 hv1:2147483648≤v1
 hv1':v1<B32
 hv2:v2<B32
 hu2:u2<B32
 hlt:U<V*B32
namespace Guess
variable{U V v1 v2 top u2 p:Nat}(g:Guess U V v1 v2 top u2 p)
include g
theorem vpos:0<V:=by
 obtain⟨vl,_,e⟩:=g.hV
 have h1:=g.hv1
 have hp:=g.hp
 have:0<(v1*B32+v2)*p:=Nat.mul_pos (by simp only[B32];omega) hp
 omega
theorem top_le:top≤v1*B32+(B32-1):=by
 obtain⟨ul,hul,eU⟩:=g.hU
 obtain⟨vl,hvl,eV⟩:=g.hV
 have hlt:=g.hlt
 have hp:=g.hp
 have hv2:=g.hv2
 have h1:top*B32*p≤U:=by rw[eU,Nat.add_mul];omega
 have h2:V<(v1+1)*B32*p:=by
  rw[eV]
  calc (v1*B32+v2)*p+vl<(v1*B32+v2)*p+p:=by omega
   _=(v1*B32+v2+1)*p:=by rw[Nat.add_mul _ 1,Nat.one_mul]
   _≤(v1+1)*B32*p:=Nat.mul_le_mul_right _ (by rw[Nat.add_mul];omega)
 have h3:top*(B32*p)<(v1+1)*B32*(B32*p):=by
  calc top*(B32*p)=top*B32*p:=(Nat.mul_assoc _ _ _).symm
   _≤U:=h1
   _<V*B32:=hlt
   _≤(v1+1)*B32*p*B32:=Nat.mul_le_mul_right _ (by omega)
   _=(v1+1)*B32*(B32*p):=by rw[Nat.mul_assoc ((v1+1)*B32),Nat.mul_comm p]
 have h4:=Nat.lt_of_mul_lt_mul_right h3
 rw[Nat.add_mul]at h4
 simp only[B32]at*;omega
theorem quot_lt:U/V<B32:=by rw[Nat.div_lt_iff_lt_mul g.vpos,Nat.mul_comm];exact g.hlt
theorem quot_le:U/V*(v1*B32+v2)≤top*B32+u2:=by
 obtain⟨ul,hul,eU⟩:=g.hU
 obtain⟨vl,hvl,eV⟩:=g.hV
 have h1:U/V*V≤U:=Nat.div_mul_le_self _ _
 have h2:U/V*(v1*B32+v2)*p<(top*B32+u2+1)*p:=by
  calc U/V*(v1*B32+v2)*p=U/V*((v1*B32+v2)*p):=Nat.mul_assoc _ _ _
   _≤U/V*V:=Nat.mul_le_mul_left _ (by omega)
   _≤U:=h1
   _<(top*B32+u2)*p+p:=by omega
   _=(top*B32+u2+1)*p:=by rw[Nat.add_mul _ 1,Nat.one_mul]
 have:=Nat.lt_of_mul_lt_mul_right h2
 exact Nat.lt_succ_iff.1 this
theorem le_succ{q:Nat}(hq:q<B32)(h:q*(v1*B32+v2)≤top*B32+u2):q≤U/V+1:=by
 obtain⟨ul,hul,eU⟩:=g.hU
 obtain⟨vl,hvl,eV⟩:=g.hV
 have hv1:=g.hv1
 have hqp:q*p≤V:=by
  calc q*p≤(v1*B32+v2)*p:=Nat.mul_le_mul_right _ (by simp only[B32]at*;omega)
   _≤V:=by omega
 have h1:q*V≤U+V:=by
  calc q*V≤q*((v1*B32+v2)*p+p):=Nat.mul_le_mul_left _ (by omega)
   _=q*(v1*B32+v2)*p+q*p:=by rw[Nat.mul_add,Nat.mul_assoc]
   _≤(top*B32+u2)*p+V:=Nat.add_le_add (Nat.mul_le_mul_right _ h) hqp
   _≤U+V:=by omega
 cases q with
 |zero=>exact Nat.zero_le _
 |succ q=>
  have h2:q*V≤U:=by rw[Nat.succ_mul]at h1;omega
  exact Nat.succ_le_succ ((Nat.le_div_iff_mul_le g.vpos).2 h2)
end Guess
structure Corr(U V v1 v2 top u2 q r:Nat):Prop where
 eq:q*v1+r=top
 le:U/V≤q
 up:q≤B32+1
 rest:r<B32
namespace Corr
variable{U V v1 v2 top u2 p q r:Nat}
theorem start(g:Guess U V v1 v2 top u2 p):Corr U V v1 v2 top u2 (top/v1) (top%v1):=by
 have h1:=g.hv1
 have ht:=g.top_le
 have hle:U/V≤top/v1:=by
  rw[Nat.le_div_iff_mul_le (by omega)]
  have:=g.quot_le
  have h2:U/V*v1*B32<(top+1)*B32:=by
   calc U/V*v1*B32=U/V*(v1*B32):=Nat.mul_assoc _ _ _
    _≤U/V*(v1*B32+v2):=Nat.mul_le_mul_left _ (by omega)
    _≤top*B32+u2:=this
    _<(top+1)*B32:=by rw[Nat.add_mul];have:=g.hu2;omega
  have:=Nat.lt_of_mul_lt_mul_right h2
  exact Nat.lt_succ_iff.1 this
 refine⟨?_,hle,?_,?_⟩
 · rw[Nat.mul_comm];exact Nat.div_add_mod _ _
 · rw[←Nat.lt_succ_iff,Nat.div_lt_iff_lt_mul (by omega)]
   simp only[B32]at*;omega
 · have:=Nat.mod_lt top (by omega:0<v1)
   have:=g.hv1'
   omega
theorem done(g:Guess U V v1 v2 top u2 p)(c:Corr U V v1 v2 top u2 q r)(h1:q<B32)(h2:q*v2≤r*B32+u2):q=U/V∨q=U/V+1:=by
 have h3:q*(v1*B32+v2)≤top*B32+u2:=by
  have e1:top*B32=q*v1*B32+r*B32:=by rw[←c.eq,Nat.add_mul]
  rw[e1,Nat.mul_add,←Nat.mul_assoc];omega
 have k1:=g.le_succ h1 h3
 have k2:=c.le
 generalize U/V=Q at*
 omega
theorem pred_le(g:Guess U V v1 v2 top u2 p)(c:Corr U V v1 v2 top u2 q r)(h:B32≤q∨r*B32+u2<q*v2):U/V<q:=by
 rcases h with h|h
 · exact Nat.lt_of_lt_of_le g.quot_lt h
 · have hq:=g.quot_le
   have h3:top*B32+u2<q*(v1*B32+v2):=by
    have e1:top*B32=q*v1*B32+r*B32:=by rw[←c.eq,Nat.add_mul]
    rw[e1,Nat.mul_add,←Nat.mul_assoc]
    rw[Nat.add_assoc]
    exact Nat.add_lt_add_left h _
   have h4: ∀k:Nat,U/V*k≤top*B32+u2→top*B32+u2<q*k→U/V<q:=fun k a b=>Nat.lt_of_mul_lt_mul_right (Nat.lt_of_le_of_lt a b)
   exact h4 _ hq h3
theorem step(g:Guess U V v1 v2 top u2 p)(c:Corr U V v1 v2 top u2 q r)(h:B32≤q∨r*B32+u2<q*v2)(hr:r+v1<B32):Corr U V v1 v2 top u2 (q-1) (r+v1):=by
 have hq:=c.pred_le g h
 have e:=c.eq
 have up:=c.up
 refine⟨?_,Nat.le_sub_one_of_lt hq,by omega,hr⟩
 have hq1:1≤q:=Nat.lt_of_le_of_lt (Nat.zero_le _) hq
 obtain⟨q',rfl⟩: ∃q',q=q'+1:=⟨q-1,by omega⟩
 rw[Nat.add_mul,Nat.one_mul]at e
 simp only[Nat.add_sub_cancel]
 omega
theorem last(g:Guess U V v1 v2 top u2 p)(c:Corr U V v1 v2 top u2 q r)(h:B32≤q∨r*B32+u2<q*v2)(hr:B32≤r+v1):q-1<B32∧(q-1=U/V∨q-1=U/V+1):=by
 have hq:=c.pred_le g h
 have e:=c.eq
 have ht:=g.top_le
 have hu:=c.up
 have hv2:=g.hv2
 have hlt:q≤B32:=by
  rcases Nat.lt_or_ge q (B32+1)with h|h
  · omega
  · have:q=B32+1:=by omega
    subst this
    rw[Nat.add_mul,Nat.one_mul,Nat.mul_comm B32]at e
    omega
 have hls: ∀q,q<B32→q*(v1*B32+v2)≤top*B32+u2→q≤U/V+1:=fun q a b=>g.le_succ a b
 clear g c
 generalize U/V=Q at*
 obtain⟨q',rfl⟩: ∃q',q=q'+1:=⟨q-1,by omega⟩
 refine⟨by omega,?_⟩
 simp only[Nat.add_sub_cancel]
 have hq':q'<B32:=by omega
 have h2:q'*v2≤(r+v1)*B32+u2:=by
  calc q'*v2≤B32*B32:=Nat.mul_le_mul (by omega) (by omega)
   _≤(r+v1)*B32:=Nat.mul_le_mul_right _ hr
   _≤_:=Nat.le_add_right _ _
 have h3:q'*(v1*B32+v2)≤top*B32+u2:=by
  rw[Nat.add_mul,Nat.one_mul]at e
  rw[←e,Nat.mul_add,←Nat.mul_assoc]
  have:(q'*v1+v1+r)*B32=q'*v1*B32+(r+v1)*B32:=by
   rw[←Nat.add_mul];congr 1;omega
  omega
 have:=hls q' hq' h3
 omega
end Corr
theorem zaR (W Wi q vi x P Pj c b d s c2 b2 new : Nat) (hinv : Wi + q * vi * Pj = W + (c + b) * P)
    (hP: ∃Pi,P=Pj*Pi) (hs:c+q*x=s+B32*c2) (hn:new+s+b=d+b2*B32) (hd:d*P≤Wi) (Pi:Nat) (hPi:P=Pj*Pi):
    (Wi-d*P+new*P)+q*(vi+Pi*x)*Pj=W+(c2+b2)*(P*B32):=by
 have e1:q*(vi+Pi*x)*Pj=q*vi*Pj+q*x*P:=by
  rw[Nat.mul_add,Nat.add_mul,hPi]
  congr 1
  rw[←Nat.mul_assoc q,Nat.mul_assoc _ _ Pj,Nat.mul_assoc q Pi,Nat.mul_comm Pi (x*Pj),Nat.mul_assoc x,←Nat.mul_assoc q]
 have e2:(c2+b2)*(P*B32)=B32*c2*P+b2*B32*P:=by
  rw[Nat.add_mul];congr 1<;>(rw[Nat.mul_comm P,←Nat.mul_assoc];try rw[Nat.mul_comm c2])
 have e3:(c+q*x)*P=(s+B32*c2)*P:=by rw[hs]
 have e4:(new+s+b)*P=(d+b2*B32)*P:=by rw[hn]
 rw[e1,e2]
 simp only[Nat.add_mul]at*
 omega
end Go.Fw
set_option maxRecDepth 10000
open Go.Fw
namespace Go.Fw.R24
structure Guess(U V v1 v2 top u2 p:Nat):Prop where
 hp:0<p
 hU: ∃ul,ul<p∧U=(top*B24+u2)*p+ul
 hV: ∃vl,vl<p∧V=(v1*B24+v2)*p+vl
 hv1:8388608≤v1
 hv1':v1<B24
 hv2:v2<B24
 hu2:u2<B24
 hlt:U<V*B24
namespace Guess
variable{U V v1 v2 top u2 p:Nat}(g:Guess U V v1 v2 top u2 p)
include g
theorem vpos:0<V:=by
 obtain⟨vl,_,e⟩:=g.hV
 have h1:=g.hv1
 have hp:=g.hp
 have:0<(v1*B24+v2)*p:=Nat.mul_pos (by simp only[B24];omega) hp
 omega
theorem top_le:top≤v1*B24+(B24-1):=by
 obtain⟨ul,hul,eU⟩:=g.hU
 obtain⟨vl,hvl,eV⟩:=g.hV
 have hlt:=g.hlt
 have hp:=g.hp
 have hv2:=g.hv2
 have h1:top*B24*p≤U:=by rw[eU,Nat.add_mul];omega
 have h2:V<(v1+1)*B24*p:=by
  rw[eV]
  calc (v1*B24+v2)*p+vl<(v1*B24+v2)*p+p:=by omega
   _=(v1*B24+v2+1)*p:=by rw[Nat.add_mul _ 1,Nat.one_mul]
   _≤(v1+1)*B24*p:=Nat.mul_le_mul_right _ (by rw[Nat.add_mul];omega)
 have h3:top*(B24*p)<(v1+1)*B24*(B24*p):=by
  calc top*(B24*p)=top*B24*p:=(Nat.mul_assoc _ _ _).symm
   _≤U:=h1
   _<V*B24:=hlt
   _≤(v1+1)*B24*p*B24:=Nat.mul_le_mul_right _ (by omega)
   _=(v1+1)*B24*(B24*p):=by rw[Nat.mul_assoc ((v1+1)*B24),Nat.mul_comm p]
 have h4:=Nat.lt_of_mul_lt_mul_right h3
 rw[Nat.add_mul]at h4
 simp only[B24]at*;omega
theorem quot_lt:U/V<B24:=by rw[Nat.div_lt_iff_lt_mul g.vpos,Nat.mul_comm];exact g.hlt
theorem quot_le:U/V*(v1*B24+v2)≤top*B24+u2:=by
 obtain⟨ul,hul,eU⟩:=g.hU
 obtain⟨vl,hvl,eV⟩:=g.hV
 have h1:U/V*V≤U:=Nat.div_mul_le_self _ _
 have h2:U/V*(v1*B24+v2)*p<(top*B24+u2+1)*p:=by
  calc U/V*(v1*B24+v2)*p=U/V*((v1*B24+v2)*p):=Nat.mul_assoc _ _ _
   _≤U/V*V:=Nat.mul_le_mul_left _ (by omega)
   _≤U:=h1
   _<(top*B24+u2)*p+p:=by omega
   _=(top*B24+u2+1)*p:=by rw[Nat.add_mul _ 1,Nat.one_mul]
 have:=Nat.lt_of_mul_lt_mul_right h2
 exact Nat.lt_succ_iff.1 this
theorem le_succ{q:Nat}(hq:q<B24)(h:q*(v1*B24+v2)≤top*B24+u2):q≤U/V+1:=by
 obtain⟨ul,hul,eU⟩:=g.hU
 obtain⟨vl,hvl,eV⟩:=g.hV
 have hv1:=g.hv1
 have hqp:q*p≤V:=by
  calc q*p≤(v1*B24+v2)*p:=Nat.mul_le_mul_right _ (by simp only[B24]at*;omega)
   _≤V:=by omega
 have h1:q*V≤U+V:=by
  calc q*V≤q*((v1*B24+v2)*p+p):=Nat.mul_le_mul_left _ (by omega)
   _=q*(v1*B24+v2)*p+q*p:=by rw[Nat.mul_add,Nat.mul_assoc]
   _≤(top*B24+u2)*p+V:=Nat.add_le_add (Nat.mul_le_mul_right _ h) hqp
   _≤U+V:=by omega
 cases q with
 |zero=>exact Nat.zero_le _
 |succ q=>
  have h2:q*V≤U:=by rw[Nat.succ_mul]at h1;omega
  exact Nat.succ_le_succ ((Nat.le_div_iff_mul_le g.vpos).2 h2)
end Guess
structure Corr(U V v1 v2 top u2 q:Nat):Prop where
 mul:q*v1≤top
 le:U/V≤q
 lt:q<B24
namespace Corr
variable{U V v1 v2 top u2 p q:Nat}
theorem zh2(g:Guess U V v1 v2 top u2 p):U/V*v1≤top:=by
 have:=g.quot_le
 have h2:U/V*v1*B24<(top+1)*B24:=by
  calc U/V*v1*B24=U/V*(v1*B24):=Nat.mul_assoc _ _ _
   _≤U/V*(v1*B24+v2):=Nat.mul_le_mul_left _ (by omega)
   _≤top*B24+u2:=this
   _<(top+1)*B24:=by rw[Nat.add_mul];have:=g.hu2;omega
 have:=Nat.lt_of_mul_lt_mul_right h2
 exact Nat.lt_succ_iff.1 this
theorem start(g:Guess U V v1 v2 top u2 p):Corr U V v1 v2 top u2 (min (top/v1) (B24-1)):=by
 have h1:=g.hv1
 have h2:=g.quot_lt
 refine⟨?_,?_,?_⟩
 · exact Nat.le_trans (Nat.mul_le_mul_right _ (Nat.min_le_left ..)) (Nat.div_mul_le_self ..)
 · refine Nat.le_min.2 ⟨?_,?_⟩
   · rw[Nat.le_div_iff_mul_le (by omega)];exact zh2 g
   · exact Nat.le_sub_one_of_lt h2
 · exact Nat.lt_of_le_of_lt (Nat.min_le_right ..) (by decide)
theorem zu9{i b e a d:Nat}(h:i+b=e+a)(k:b+d<a):e+d<i:=by omega
theorem ztG{i b e a d:Nat}(h:i+b=e+a)(k:a≤b+d):i≤e+d:=by omega
theorem zqm(b q v1 v2 top:Nat)(h:q*v1≤top):q*(v1*b+v2)+(top-q*v1)*b=top*b+q*v2:=by
 obtain⟨r,rfl⟩: ∃r,top=q*v1+r:=⟨top-q*v1,by omega⟩
 rw[Nat.add_sub_cancel_left,Nat.mul_add,←Nat.mul_assoc,Nat.add_mul (q*v1)]
 omega
theorem split(c:Corr U V v1 v2 top u2 q):q*(v1*B24+v2)+(top-q*v1)*B24=top*B24+q*v2:=zqm B24 q v1 v2 top c.mul
theorem done(g:Guess U V v1 v2 top u2 p)(c:Corr U V v1 v2 top u2 q)(h:q*v2≤(top-q*v1)*B24+u2∨B24≤top-q*v1):q=U/V∨q=U/V+1:=by
 have h2:q*v2≤(top-q*v1)*B24+u2:=by
  rcases h with h|h
  · exact h
  · calc q * v2 ≤ B24 * B24 := Nat.mul_le_mul (Nat.le_of_lt c.lt) (Nat.le_of_lt g.hv2)
      _≤(top-q*v1)*B24:=Nat.mul_le_mul_right _ h
      _≤_:=Nat.le_add_right ..
 have h3:q*(v1*B24+v2)≤top*B24+u2:=by
  exact ztG c.split h2
 have k1:=g.le_succ c.lt h3
 have k2:=c.le
 generalize U/V=Q at*
 omega
theorem step(g:Guess U V v1 v2 top u2 p)(c:Corr U V v1 v2 top u2 q)(h:(top-q*v1)*B24+u2<q*v2):0<q∧Corr U V v1 v2 top u2 (q-1):=by
 have hq:=g.quot_le
 have h3:top*B24+u2<q*(v1*B24+v2):=zu9 c.split h
 have h4:U/V<q:=Nat.lt_of_mul_lt_mul_right (Nat.lt_of_le_of_lt hq h3)
 have lt:=c.lt
 exact⟨Nat.lt_of_le_of_lt (Nat.zero_le _) h4,Nat.le_trans (Nat.mul_le_mul_right _ (Nat.sub_le ..)) c.mul,Nat.le_sub_one_of_lt h4,Nat.lt_of_le_of_lt (Nat.sub_le ..) lt⟩
end Corr
theorem zcn{t d m h B:Nat}(h0:0<t)(hB:B=h+h)(hd:(t+1)*d+m=B)(hm:m<t+1)(ht:t<h):h≤t*d:=by
 rcases Nat.lt_or_ge (t*d) h with hlt|hge
 · exfalso
   obtain⟨k,rfl⟩: ∃k,t=k+1:=⟨t-1,by omega⟩
   obtain⟨g,rfl⟩: ∃g,h=g+1:=⟨h-1,by omega⟩
   have e1:(k+1+1)*((k+1)*d)+(k+1)*m=(k+1)*B:=by
    rw[←hd,Nat.mul_add (k+1),←Nat.mul_assoc,←Nat.mul_assoc,Nat.mul_comm (k+1+1)]
   have e2:(k+1+1)*((k+1)*d)≤(k+1+1)*g:=Nat.mul_le_mul_left _ (by omega)
   have e3:(k+1)*m≤(k+1)*(k+1):=Nat.mul_le_mul_left _ (by omega)
   have e4:(k+1)*B=(k+1)*g+(k+1)*g+(k+1)+(k+1):=by
    rw[hB,show g+1+(g+1)=g+g+1+1 by omega,Nat.mul_add,Nat.mul_add,Nat.mul_add,Nat.mul_one]
   have e5:(k+1+1)*g=(k+1)*g+g:=by rw[Nat.add_mul,Nat.one_mul]
   have e6:(k+1)*(k+1)=k*(k+1)+(k+1):=by rw[Nat.add_mul,Nat.one_mul]
   have e7:k*(k+1)≤k*g:=Nat.mul_le_mul_left _ (by omega)
   have e8:(k+1)*g=k*g+g:=by rw[Nat.add_mul,Nat.one_mul]
   omega
 · exact hge
theorem factor_top{t:Nat}(h0:0<t)(_h1:t<B24):8388608≤t*(B24/(t+1))∧(t+1)*(B24/(t+1))≤B24:=by
 refine⟨?_,Nat.mul_div_le B24 (t+1)⟩
 rcases Nat.lt_or_ge t 8388608 with h|h
 · exact zcn h0 (B:=B24) (h:=8388608) rfl (Nat.div_add_mod B24 (t+1)) (Nat.mod_lt _ (by omega)) h
 · have hd:1≤B24/(t+1):=(Nat.le_div_iff_mul_le (by omega)).2 (by omega)
   calc 8388608≤t:=h
    _=t*1:=(Nat.mul_one t).symm
    _≤t*(B24/(t+1)):=Nat.mul_le_mul_left _ hd
end Go.Fw.R24
namespace Go.Fw
set_option maxRecDepth 10000
theorem zr7(a:Int):X9 .and .i64 a 16777215=a%16777216:=by
 show i64.wrap (((BitVec.ofInt 64 a&&&BitVec.ofInt 64 (16777215:Int)).toNat:Nat):Int)=_
 have h1:(BitVec.ofInt 64 a&&&BitVec.ofInt 64 (16777215:Int)).toNat=(a%16777216).toNat:=by
  rw[BitVec.toNat_and,BitVec.toNat_ofInt,BitVec.toNat_ofInt]
  rw[show((16777215:Int)%((2^64:Nat):Int)).toNat=2^24-1 from by decide,Nat.and_two_pow_sub_one_eq_mod]
  have h2:(a%((2^64:Nat):Int))%16777216=a%16777216:=Int.emod_emod_of_dvd _ ⟨1099511627776,by decide⟩
  have h3:0≤a%((2^64:Nat):Int):=Int.emod_nonneg _ (by decide)
  omega
 rw[h1]
 have h4:0≤a%16777216:=Int.emod_nonneg _ (by decide)
 have h5:a%16777216<16777216:=Int.emod_lt_of_pos _ (by decide)
 rw[Int.toNat_of_nonneg h4]
 exact IntWalk.i64_in _ (by omega)
def z1o(b:Int):List Int→Int
 | []=>0
 |x::xs=>x+b*z1o b xs
def zof(xs:List Nat):List Int:=xs.map fun n:Nat=>(n:Int)
theorem z4N(xs:List Nat):(zof xs).length=xs.length:=by simp[zof]
theorem z7a(xs:List Nat)(k:Nat):(zof xs).getD k 0=((xs.getD k 0:Nat):Int):=by
 simp only[zof,List.getD_eq_getElem?_getD,List.getElem?_map]
 cases xs[k]?<;>rfl
theorem z3g(b:Nat): ∀xs,z1o b (zof xs)=(val b xs:Int)
 | []=>rfl
 |x::xs=>by
  have ih:=z3g b xs
  simp only[zof]at ih
  simp only[zof,List.map_cons,z1o,val,ih]
  push_cast
  rfl
theorem z5r(b:Int): ∀(xs:List Int) (k:Nat) (d:Int),k<xs.length→z1o b (xs.set k d)=z1o b xs+(d-xs.getD k 0)*b^k
 | [],k,d,h=>by simp at h
 |x::xs,0,d,_=>by simp only[List.set_cons_zero,z1o,List.getD_cons_zero,Int.pow_zero,Int.mul_one];omega
 |x::xs,k+1,d,h=>by
  have ih:=z5r b xs k d (by simpa using h)
  simp only[List.set_cons_succ,z1o,List.getD_cons_succ,ih,Int.pow_succ]
  rw[Int.mul_add,Int.add_assoc,Int.mul_left_comm,Int.mul_comm b (b^k)]
theorem z6V(b:Int): ∀(xs:List Int) (k:Nat),z1o b xs=z1o b (xs.take k)+b^k*z1o b (xs.drop k)
 |xs,0=>by simp[z1o]
 | [],k+1=>by simp[z1o]
 |x::xs,k+1=>by
  have ih:=z6V b xs k
  simp only[List.take_succ_cons,List.drop_succ_cons,z1o,Int.pow_succ]
  rw[ih,Int.mul_add,Int.add_assoc,←Int.mul_assoc,Int.mul_comm b (b^k)]
theorem z95(b:Int): ∀xs:List Int,(∀k,xs.getD k 0=0)→z1o b xs=0
 | [],_=>rfl
 |x::xs,h=>by
  have h0:=h 0
  rw[List.getD_cons_zero]at h0
  have ih:=z95 b xs (fun k=>by have:=h (k+1);rwa[List.getD_cons_succ]at this)
  simp only[z1o,h0,ih,Int.mul_zero,Int.add_zero]
theorem z4M(b:Nat)(hb:0<b): ∀xs:List Int,(∀k,0≤xs.getD k 0∧xs.getD k 0<b)→0≤z1o b xs∧z1o b xs<(b:Int)^xs.length
 | [],_=>by simp[z1o]
 |x::xs,h=>by
  have h0:=h 0
  rw[List.getD_cons_zero]at h0
  obtain⟨i1,i2⟩:=z4M b hb xs (fun k=>by have:=h (k+1);rwa[List.getD_cons_succ]at this)
  have hb':(0:Int)<b:=by omega
  simp only[z1o,List.length_cons,Int.pow_succ]
  have j1:0≤(b:Int)*z1o b xs:=Int.mul_nonneg (Int.le_of_lt hb') i1
  have j2:(b:Int)*(z1o b xs+1)≤b*(b:Int)^xs.length:=Int.mul_le_mul_of_nonneg_left (by omega) (Int.le_of_lt hb')
  rw[Int.mul_add,Int.mul_one]at j2
  rw[Int.mul_comm ((b:Int)^xs.length)]
  omega
theorem z4V(b:Nat)(hb:0<b): ∀xs:List Int,(∀k,0≤xs.getD k 0∧xs.getD k 0<b)→xs=zof (Z1 b xs.length (z1o b xs).toNat)
 | [],_=>rfl
 |x::xs,h=>by
  have h0:=h 0
  rw[List.getD_cons_zero]at h0
  have hx: ∀k,0≤xs.getD k 0∧xs.getD k 0<b:=fun k=>by have:=h (k+1);rwa[List.getD_cons_succ]at this
  have ih:=z4V b hb xs hx
  obtain⟨i1,_⟩:=z4M b hb xs hx
  obtain⟨v,hv⟩: ∃v:Nat,z1o b xs=v:=⟨_,(Int.toNat_of_nonneg i1).symm⟩
  obtain⟨y,rfl⟩: ∃y:Nat,x=y:=⟨_,(Int.toNat_of_nonneg h0.1).symm⟩
  rw[hv,Int.toNat_natCast]at ih
  have hy:y<b:=by omega
  simp only[List.length_cons,Z1,z1o,hv]
  have e:((y:Int)+b*(v:Int)).toNat=y+b*v:=by
   rw[show(y:Int)+b*(v:Int)=((y+b*v:Nat):Int) by push_cast;rfl,Int.toNat_natCast]
  rw[e,Nat.add_mul_mod_self_left,Nat.mod_eq_of_lt hy,Nat.add_mul_div_left _ _ hb,Nat.div_eq_of_lt hy,Nat.zero_add]
  simp only[zof,List.map_cons]
  congr 1
theorem zb8(b:Nat)(hb:0<b)(xs:List Int)(p:Nat)(hp:p<xs.length)(hlo: ∀k,k<p→0≤xs.getD k 0∧xs.getD k 0<b)(hhi: ∀k,p<k→xs.getD k 0=0):xs.getD p 0=z1o b xs/(b:Int)^p:=by
 have hs:=z6V b xs p
 have hd:xs.drop p=xs.getD p 0::xs.drop (p+1):=by
  rw[List.drop_eq_getElem_cons hp,List.getD_eq_getElem?_getD,List.getElem?_eq_getElem hp];rfl
 have hz:z1o b (xs.drop (p+1))=0:=z95 b _ fun k=>by
  rw[List.getD_eq_getElem?_getD,List.getElem?_drop,←List.getD_eq_getElem?_getD];exact hhi _ (by omega)
 have hpos:(0:Int)<(b:Int)^p:=Int.pow_pos (by omega)
 have ht:0≤z1o b (xs.take p)∧z1o b (xs.take p)<(b:Int)^p:=by
  have hr:=z4M b hb (xs.take p) (fun k=>by
   rcases Nat.lt_or_ge k p with h|h
   · have:=hlo k h
     rw[List.getD_eq_getElem?_getD]at this ⊢
     rwa[List.getElem?_take_of_lt h]
   · rw[List.getD_eq_getElem?_getD,List.getElem?_eq_none (by simp;omega)]
     simp;omega)
  rwa[show(xs.take p).length=p by simp;omega]at hr
 rw[hd,z1o,hz,Int.mul_zero,Int.add_zero]at hs
 rw[hs,Int.add_mul_ediv_left _ _ (by omega),Int.ediv_eq_zero_of_lt ht.1 ht.2,Int.zero_add]
theorem z1J(xs:List Int)(k i:Nat)(d:Int)(h:k<xs.length):(xs.set k d).getD i 0=if i=k then d else xs.getD i 0:=by
 simp only[List.getD_eq_getElem?_getD,List.getElem?_set,h,if_true]
 by_cases hi:k=i
 · rw[if_pos hi,if_pos hi.symm];rfl
 · rw[if_neg hi,if_neg (fun e=>hi e.symm)]
theorem z4G (b : Int) (xs : List Int) (k : Nat) (hk : k < xs.length) (c s : Int) :
    z1o b (xs.set k ((c+xs.getD k 0+s)%b))+(c+xs.getD k 0+s)/b*b^(k+1)=z1o b xs+c*b^k+s*b^k:=by
 rw[z5r _ _ _ _ hk]
 have h:=Int.emod_add_mul_ediv (c+xs.getD k 0+s) b
 generalize (c+xs.getD k 0+s)%b=m at*
 generalize (c+xs.getD k 0+s)/b=q at*
 rw[Int.pow_succ]
 have e:q*(b^k*b)=b*q*b^k:=by rw[Int.mul_comm (b^k),←Int.mul_assoc,Int.mul_comm q]
 rw[e]
 have e2:m+b*q=c+xs.getD k 0+s:=h
 have e3:(m-xs.getD k 0)*b^k+b*q*b^k=c*b^k+s*b^k:=by
  rw[←Int.add_mul,←Int.add_mul]
  congr 1
  omega
 omega
theorem zdZ(zs:List Nat)(k d:Nat):zof (zs.set k d)=(zof zs).set k (d:Int):=by simp[zof,List.map_set]
theorem za2 (b : Nat) (zs : List Nat) (k : Nat) (hk : k < zs.length) (c s : Nat) :
    val b (zs.set k ((c+zs.getD k 0+s)%b))+(c+zs.getD k 0+s)/b*b^(k+1)=val b zs+c*b^k+s*b^k:=by
 have h:=z4G (b:Int) (zof zs) k (by rw[z4N];exact hk) (c:Int) (s:Int)
 rw[z7a]at h
 have e1:((c:Int)+((zs.getD k 0:Nat):Int)+(s:Int))%(b:Int)=(((c+zs.getD k 0+s)%b:Nat):Int):=by push_cast;rfl
 have e2:((c:Int)+((zs.getD k 0:Nat):Int)+(s:Int))/(b:Int)=(((c+zs.getD k 0+s)/b:Nat):Int):=by push_cast;rfl
 rw[e1,e2,←zdZ,z3g,z3g]at h
 exact_mod_cast h
theorem zl0(b:Nat)(zs:List Nat)(k d:Nat)(hk:k<zs.length)(h0:zs.getD k 0=0):val b (zs.set k d)=val b zs+d*b^k:=by
 have h:=z5r (b:Int) (zof zs) k (d:Int) (by rw[z4N];exact hk)
 rw[z7a,h0,←zdZ,z3g,z3g]at h
 have e:((d:Int)-((0:Nat):Int))=d:=by omega
 rw[e]at h
 exact_mod_cast h
theorem z8e(xs:List Nat)(k i d:Nat)(h:k<xs.length):(xs.set k d).getD i 0=if i=k then d else xs.getD i 0:=by
 simp only[List.getD_eq_getElem?_getD,List.getElem?_set,h,if_true]
 by_cases hi:k=i
 · rw[if_pos hi,if_pos hi.symm];rfl
 · rw[if_neg hi,if_neg (fun e=>hi e.symm)]
theorem z60(W V M j b:Nat)(hM:M=V*b^j)(hV:0<V)(hb:0<b):W/b^j/V*M≤W∧W<W/b^j/V*M+M:=by
 have hM0:0<M:=by rw[hM];exact Nat.mul_pos hV (Nat.pow_pos hb)
 have e:W/b^j/V=W/M:=by rw[Nat.div_div_eq_div_mul,hM,Nat.mul_comm]
 rw[e]
 refine⟨Nat.div_mul_le_self _ _,?_⟩
 have h1:=Nat.mod_add_div W M
 have h2:=Nat.mod_lt W hM0
 rw[Nat.mul_comm]at h1
 omega
theorem zdu (b o n j W V Q : Nat) (zs : List Int) (hb : 1 < b) (hlen : zs.length = o) (hp : j + n < o) (hlo : ∀ k, k < j + n → 0 ≤ zs.getD k 0 ∧ zs.getD k 0 < b)
    (hhi: ∀k,j+n<k→zs.getD k 0=0) (hV:V<b^n) (hV0:0<V) (hQ:Q=W/b^j/V) (hX:z1o b zs=(W:Int)-(Q*V*b^j:Nat)):
    zs=zof (Z1 b o (W-Q*V*b^j)):=by
 obtain⟨z1,z2⟩:=z60 W V (V*b^j) j b rfl hV0 (by omega)
 rw[←hQ,←Nat.mul_assoc]at z1 z2
 have hbp:V*b^j<b^(j+n):=by
  rw[Nat.pow_add,Nat.mul_comm (b^j)]
  exact Nat.mul_lt_mul_of_pos_right hV (Nat.pow_pos (by omega))
 have hX2:z1o b zs=((W-Q*V*b^j:Nat):Int):=by rw[hX];omega
 have ht:=zb8 b (by omega) zs (j+n) (by omega) hlo hhi
 have hz:zs.getD (j+n) 0=0:=by
  rw[ht,hX2]
  refine Int.ediv_eq_zero_of_lt (by omega) ?_
  exact_mod_cast (show W-Q*V*b^j<b^(j+n) by omega)
 have hr: ∀k,0≤zs.getD k 0∧zs.getD k 0<b:=fun k=>by
  rcases Nat.lt_trichotomy k (j+n)with h|h|h
  · exact hlo k h
  · rw[h,hz];omega
  · rw[hhi k h];omega
 have:=z4V b (by omega) zs hr
 rw[hX2,Int.toNat_natCast,hlen]at this
 exact this
theorem zlJ (b o n j W V Q : Nat) (zs : List Int) (hb : 1 < b) (hlen : zs.length = o) (hp : j + n < o) (hlo : ∀ k, k < j + n → 0 ≤ zs.getD k 0 ∧ zs.getD k 0 < b)
    (hhi: ∀k,j+n<k→zs.getD k 0=0) (hV:V<b^n) (hV0:0<V) (hQ:Q=W/b^j/V+1) (hX:z1o b zs=(W:Int)-(Q*V*b^j:Nat)):
    zs.getD (j+n) 0= -1:=by
 obtain⟨z1,z2⟩:=z60 W V (V*b^j) j b rfl hV0 (by omega)
 have hbp:V*b^j<b^(j+n):=by
  rw[Nat.pow_add,Nat.mul_comm (b^j)]
  exact Nat.mul_lt_mul_of_pos_right hV (Nat.pow_pos (by omega))
 have e:Q*V*b^j=W/b^j/V*(V*b^j)+V*b^j:=by rw[hQ,Nat.mul_assoc,Nat.add_mul,Nat.one_mul]
 rw[zb8 b (by omega) zs (j+n) (by omega) hlo hhi,hX]
 rw[e]
 generalize W/b^j/V*(V*b^j)=A at*
 generalize V*b^j=M at*
 have hP:(0:Int)<(b:Int)^(j+n):=Int.pow_pos (by omega)
 have hMP:(M:Int)<(b:Int)^(j+n):=by exact_mod_cast hbp
 have h1:(W:Int)-((A+M:Nat):Int)=((W:Int)-A-M+(b:Int)^(j+n))+(b:Int)^(j+n)*(-1):=by push_cast;omega
 rw[h1,Int.add_mul_ediv_left _ _ (by omega),Int.ediv_eq_zero_of_lt (by omega) (by omega)]
 rfl
def z6w(zs:List Int):List CV:=zs.map fun n:Int=>CV.lit (.int .i64 n)
theorem z0V(zs:List Int):(z6w zs).length=zs.length:=by simp[z6w]
theorem z7Y(xs:List Nat):z6w (zof xs)=j4 xs:=by simp[z6w,zof,j4]
theorem z1t{zs:List Int}{k:Nat}(h:k<zs.length):(own (z6w zs))[k]?=some (.cv (.lit (.int .i64 (zs.getD k 0)))):=by
 simp[own,z6w,List.getElem?_eq_getElem h,List.getD_eq_getElem?_getD]
theorem z2w{zs:List Int}{k:Nat}{d:Int}(h:k<zs.length):j6 (own (z6w zs)) k [.cv (.lit (.int .i64 d))]=own (z6w (zs.set k d)):=by
 rw[z7Q (by rw[z0V];exact h)]
 simp[z6w,List.map_set]
theorem zd5 {zs : List Int} {ws : List Nat} {i j g b : Nat} {c X0 : Int} (hk : j + i < zs.length) (hinv : z1o b zs + c * (b : Int) ^ (j + i) = X0 - ((g * val b (ws.take i) * b ^ j : Nat) : Int)) :
    z1o b (zs.set (j+i) ((c+(zs.getD (j+i) 0-(g:Int)*((ws.getD i 0:Nat):Int)))%(b:Int)))+(c+(zs.getD (j+i) 0-(g:Int)*((ws.getD i 0:Nat):Int)))/(b:Int)*(b:Int)^(j+(i+1))=X0-((g*val b (ws.take (i+1))*b^j:Nat):Int):=by
 have h:=z4G (b:Int) zs (j+i) hk c (-((g:Int)*((ws.getD i 0:Nat):Int)))
 rw[show c+zs.getD (j+i) 0+ -((g:Int)*((ws.getD i 0:Nat):Int))=c+(zs.getD (j+i) 0-(g:Int)*((ws.getD i 0:Nat):Int)) by omega]at h
 rw[←Nat.add_assoc,h,hinv,Y0]
 have e:g*(val b (ws.take i)+b^i*ws.getD i 0)*b^j=g*val b (ws.take i)*b^j+g*ws.getD i 0*b^(j+i):=by
  rw[Nat.mul_add,Nat.add_mul,Nat.pow_add,Nat.mul_comm (b^i) (ws.getD i 0),←Nat.mul_assoc g,Nat.mul_assoc (g*ws.getD i 0),Nat.mul_comm (b^i)]
 rw[e]
 push_cast
 rw[Int.neg_mul]
 omega
theorem zd7 {zs : List Int} {ws : List Nat} {i j b : Nat} {c X0 : Int} (hk : j + i < zs.length) (hinv : z1o b zs + c * (b : Int) ^ (j + i) = X0 + ((val b (ws.take i) * b ^ j : Nat) : Int)) :
    z1o b (zs.set (j+i) ((c+(zs.getD (j+i) 0+((ws.getD i 0:Nat):Int)))%(b:Int)))+(c+(zs.getD (j+i) 0+((ws.getD i 0:Nat):Int)))/(b:Int)*(b:Int)^(j+(i+1))=X0+((val b (ws.take (i+1))*b^j:Nat):Int):=by
 have h:=z4G (b:Int) zs (j+i) hk c ((ws.getD i 0:Nat):Int)
 rw[show c+zs.getD (j+i) 0+((ws.getD i 0:Nat):Int)=c+(zs.getD (j+i) 0+((ws.getD i 0:Nat):Int)) by omega]at h
 rw[←Nat.add_assoc,h,hinv,Y0]
 have e:(val b (ws.take i)+b^i*ws.getD i 0)*b^j=val b (ws.take i)*b^j+ws.getD i 0*b^(j+i):=by
  rw[Nat.add_mul,Nat.pow_add,Nat.mul_comm (b^i) (ws.getD i 0),Nat.mul_assoc,Nat.mul_comm (b^i)]
 rw[e]
 push_cast
 omega
theorem zg0 {c x : Int} {g w : Nat} (hc : -16777216 ≤ c ∧ c ≤ 0) (hx : 0 ≤ x ∧ x < 16777216) (hg : g < 16777216) (hw : w < 16777216) :
    i64.wrap (c+i64.wrap (x-i64.wrap ((g:Int)*(w:Int))))=c+(x-(g:Int)*(w:Int))∧ -16777216≤(c+(x-(g:Int)*(w:Int)))/16777216∧(c+(x-(g:Int)*(w:Int)))/16777216≤0:=by
 have h1:g*w≤16777215*16777215:=Nat.mul_le_mul (by omega) (by omega)
 have h2:(g:Int)*(w:Int)=((g*w:Nat):Int):=by push_cast;rfl
 rw[h2]
 obtain⟨p,hp⟩: ∃p:Int,p=((g*w:Nat):Int):=⟨_,rfl⟩
 rw[←hp]
 have h3:0≤p∧p≤281474943156225:=by omega
 clear hp h2 h1
 rw[w64 (n:=p) (by omega),w64 (n:=x-p) (by omega),w64 (n:=c+(x-p)) (by omega)]
 omega
theorem zgL {c x : Int} {w : Nat} (hc : 0 ≤ c ∧ c ≤ 1) (hx : 0 ≤ x ∧ x < 16777216) (hw : w < 16777216) :
    i64.wrap (c+i64.wrap (x+(w:Int)))=c+(x+(w:Int))∧0≤(c+(x+(w:Int)))/16777216∧(c+(x+(w:Int)))/16777216≤1:=by
 rw[w64 (n:=x+(w:Int)) (by omega),w64 (by omega)]
 omega
theorem zid(a:Int):a.fdiv 16777216=a/16777216:=Int.fdiv_eq_ediv_of_nonneg _ (by decide)
theorem ztB(a:Int):0≤a%16777216∧a%16777216<16777216:=by omega
def Low(p:Nat)(zs:List Int):Prop:= ∀k,k<p→0≤zs.getD k 0∧zs.getD k 0<16777216
theorem Low.set{p:Nat}{zs:List Int}(h:Low p zs){k:Nat}{d:Int}(hk:k<zs.length)(hd:0≤d∧d<16777216):Low p (zs.set k d):=by
 intro i hi
 rw[z1J _ _ _ _ hk]
 split
 · exact hd
 · exact h i hi
theorem zh5 {W V n j : Nat} (hn2 : 2 ≤ n) (hV : V < B24 ^ n) (hVt : 8388608 ≤ V / B24 ^ (n - 1)) (hW : W < V * B24 ^ (j + 1)) :
    R24.Guess (W/B24^j) V (V/B24^(n-1)) (V/B24^(n-2)%B24) (W/B24^(j+n-1)) (W/B24^(j+n-2)%B24) (B24^(n-2)):=by
 have hp:0<B24^(n-2):=Nat.pow_pos (by decide)
 have e1:W/B24^(j+n-2)=W/B24^j/B24^(n-2):=by rw[Nat.div_div_eq_div_mul,←Nat.pow_add,show j+(n-2)=j+n-2 by omega]
 have e2:W/B24^(j+n-1)=W/B24^j/B24^(n-2)/B24:=by
  rw[←e1,Nat.div_div_eq_div_mul,←Nat.pow_succ,show(j+n-2).succ=j+n-1 by omega]
 have e3:V/B24^(n-1)=V/B24^(n-2)/B24:=by rw[Nat.div_div_eq_div_mul,←Nat.pow_succ,show(n-2).succ=n-1 by omega]
 refine⟨hp,⟨W/B24^j%B24^(n-2),Nat.mod_lt _ hp,?_⟩,⟨V%B24^(n-2),Nat.mod_lt _ hp,?_⟩,hVt,?_,Nat.mod_lt _ (by decide),Nat.mod_lt _ (by decide),?_⟩
 · rw[e1,e2,Nat.mul_comm _ B24,Nat.div_add_mod,Nat.mul_comm,Nat.div_add_mod]
 · rw[e3,Nat.mul_comm _ B24,Nat.div_add_mod,Nat.mul_comm,Nat.div_add_mod]
 · rw[Nat.div_lt_iff_lt_mul (Nat.pow_pos (by decide)),Nat.mul_comm,←Nat.pow_succ,show(n-1).succ=n by omega];exact hV
 · rw[Nat.div_lt_iff_lt_mul (Nat.pow_pos (by decide)),Nat.mul_assoc,Nat.mul_comm B24,←Nat.pow_succ];exact hW
theorem zne{W V n j:Nat}(hn2:2≤n)(hV:V<B24^n)(hW:W<V*B24^(j+1)):W/B24^(j+n)%B24*16777216+W/B24^(j+n-1)%B24=W/B24^(j+n-1):=by
 have e2:W/B24^(j+n)=W/B24^(j+n-1)/B24:=by
  rw[Nat.div_div_eq_div_mul,←Nat.pow_succ,show(j+n-1).succ=j+n by omega]
 have h1:W/B24^(j+n)<B24:=by
  rw[Nat.div_lt_iff_lt_mul (Nat.pow_pos (by decide))]
  have h2:V*B24^(j+1)≤B24^n*B24^(j+1):=Nat.mul_le_mul_right _ (Nat.le_of_lt hV)
  have h3:B24^n*B24^(j+1)=B24*B24^(j+n):=by rw[←Nat.pow_add,Nat.mul_comm,←Nat.pow_succ];congr 1;omega
  omega
 rw[Nat.mod_eq_of_lt h1,e2,Nat.mul_comm]
 exact Nat.div_add_mod _ _
theorem zdA{W V n j k:Nat}(hV:V<B24^n)(hW:W<V*B24^(j+1))(hk:j+n<k):W/B24^k=0:=by
 refine Nat.div_eq_of_lt ?_
 refine Nat.lt_of_lt_of_le hW ?_
 calc V*B24^(j+1)≤B24^n*B24^(j+1):=Nat.mul_le_mul_right _ (Nat.le_of_lt hV)
  _=B24^(n+(j+1)):=(Nat.pow_add ..).symm
  _≤B24^k:=Nat.pow_le_pow_right (by decide) (by omega)
theorem zcg {g v1 v2 u2 t : Nat} (hg : g < 16777216) (h1 : v1 < 16777216) (h2 : v2 < 16777216) (h3 : u2 < 16777216) (hm : g * v1 ≤ t) (hr : t - g * v1 < 33554432) :
    i64.wrap ((g:Int)*(v2:Int))=((g*v2:Nat):Int)∧i64.wrap ((t:Int)-i64.wrap ((g:Int)*(v1:Int)))=((t-g*v1:Nat):Int)∧
    i64.wrap (i64.wrap (((t-g*v1:Nat):Int)*16777216)+(u2:Int))=(((t-g*v1)*16777216+u2:Nat):Int):=by
 have k1:g*v1≤16777215*16777215:=Nat.mul_le_mul (by omega) (by omega)
 have k2:g*v2≤16777215*16777215:=Nat.mul_le_mul (by omega) (by omega)
 have e1:(g:Int)*(v2:Int)=((g*v2:Nat):Int):=by push_cast;rfl
 have e2:(g:Int)*(v1:Int)=((g*v1:Nat):Int):=by push_cast;rfl
 rw[e1,e2]
 generalize g*v1=p1 at*
 generalize g*v2=p2 at*
 obtain⟨r,rfl⟩: ∃r,t=p1+r:=⟨t-p1,by omega⟩
 rw[show p1+r-p1=r by omega]at*
 rw[w64 (n:=(p2:Int)) (by omega),w64 (n:=(p1:Int)) (by omega),w64 (n:=((p1+r:Nat):Int)-(p1:Int)) (by omega),w64 (n:=(r:Int)*16777216) (by omega),w64 (n:=(r:Int)*16777216+u2) (by omega)]
 refine⟨rfl,by omega,by omega⟩
theorem zbT{t v1:Nat}(h0:8388608≤v1)(h1:v1<16777216)(ht:t≤v1*16777216+16777215):t-min (t/v1) 16777215*v1<33554432:=by
 have hd:=Nat.div_add_mod t v1
 have hm:=Nat.mod_lt t (show 0<v1 by omega)
 rw[Nat.mul_comm]at hd
 rcases Nat.lt_or_ge (t/v1) 16777216 with h|h
 · rw[Nat.min_eq_left (by omega)];omega
 · rw[Nat.min_eq_right (by omega)];omega
theorem zgN{t v1:Nat}(_h0:8388608≤v1)(ht:t<281474993487872):(if(16777215:Int)<i64.wrap ((t:Int).tdiv (v1:Int))then(16777215:Int)else i64.wrap ((t:Int).tdiv (v1:Int)))=((min (t/v1) 16777215:Nat):Int):=by
 have h1:(t:Int).tdiv (v1:Int)=((t/v1:Nat):Int):=rfl
 have h2:=Nat.div_le_self t v1
 rw[h1]
 generalize t/v1=q at*
 rw[w64 (n:=(q:Int)) (by omega)]
 split<;>omega
end Go.Fw
