/- A part of the proof that the law returns true for every input: an executor for the model's code, and what functions of the program compute. -/
import Derived.Test.YtcafjpldfnegiaaGreatDoorB03
import Derived.Test.YtcafjpldfnegiaaGreatDoorB11
import Derived.Test.YtcafjpldfnegiaaGreatDoorB15
import Derived.Laws.Strings
import Derived.KernelRfl
open Go IntKind
set_option maxRecDepth 10000
namespace Go.Fw
theorem X7(n:Nat):0<B32^n:=Nat.pow_pos (by decide)
theorem zdx{b:Nat}(hb:0<b)(m n j x:Nat)(hj:j<m)(hx:x<b):(Z1 b m n).set j x=Z1 b m (n-n/b^j%b*b^j+x*b^j):=by
 have hp:0<b^j:=Nat.pow_pos hb
 have hle:n/b^j%b*b^j≤n:=Nat.le_trans (Nat.mul_le_mul_right _ (Nat.mod_le _ _)) (Nat.div_mul_le_self _ _)
 have key:(Z1 b m n)=(Z1 b m (n-n/b^j%b*b^j)).set j (n/b^j%b):=by
  have h0:(n-n/b^j%b*b^j)/b^j%b=0:=by
   have e:n-n/b^j%b*b^j=n%b^j+b*(n/b^j/b)*b^j:=by
    have h1:=Nat.mod_add_div n (b^j)
    have h2:=Nat.mod_add_div (n/b^j) b
    have h3:b^j*(n/b^j)=(n/b^j%b)*b^j+b*(n/b^j/b)*b^j:=by rw[←Nat.add_mul,h2,Nat.mul_comm]
    omega
   rw[e,Nat.add_mul_div_right _ _ hp,Nat.div_eq_of_lt (Nat.mod_lt _ hp),Nat.zero_add,Nat.mul_mod_right]
  have:=z1c hb m (n-n/b^j%b*b^j) j (n/b^j%b) hj (by rw[h0,Nat.zero_add];exact Nat.mod_lt _ hb)
  rw[h0,Nat.zero_add]at this
  rw[this]
  congr 1;omega
 have h0:(n-n/b^j%b*b^j)/b^j%b=0:=by
  have e:n-n/b^j%b*b^j=n%b^j+b*(n/b^j/b)*b^j:=by
   have h1:=Nat.mod_add_div n (b^j)
   have h2:=Nat.mod_add_div (n/b^j) b
   have h3:b^j*(n/b^j)=(n/b^j%b)*b^j+b*(n/b^j/b)*b^j:=by rw[←Nat.add_mul,h2,Nat.mul_comm]
   omega
  rw[e,Nat.add_mul_div_right _ _ hp,Nat.div_eq_of_lt (Nat.mod_lt _ hp),Nat.zero_add,Nat.mul_mod_right]
 have hs:=z1c hb m (n-n/b^j%b*b^j) j x hj (by rw[h0,Nat.zero_add];exact hx)
 rw[h0,Nat.zero_add]at hs
 rw[key,List.set_set,hs]
structure Guess(U V v1 v2 top u2 p:Nat):Prop where
 hp:0<p
 hU: ∃ul,ul<p∧U=(top*B32+u2)*p+ul
 hV: ∃vl,vl<p∧V=(v1*B32+v2)*p+vl
 hv1:2147483648≤v1
 hv1':v1<B32
 hv2:v2<B32
 hu2:u2<B32
 hlt:U<V*B32
namespace Guess
variable{U V v1 v2 top u2 p:Nat}(g:Guess U V v1 v2 top u2 p)
include g
theorem vpos:0<V:=by
 obtain⟨vl,_,e⟩:=g.hV
 have h1:=g.hv1
 have hp:=g.hp
 have:0<(v1*B32+v2)*p:=Nat.mul_pos (by simp only[B32];omega) hp
 omega
theorem top_le:top≤v1*B32+(B32-1):=by
 obtain⟨ul,hul,eU⟩:=g.hU
 obtain⟨vl,hvl,eV⟩:=g.hV
 have hlt:=g.hlt
 have hp:=g.hp
 have hv2:=g.hv2
 have h1:top*B32*p≤U:=by rw[eU,Nat.add_mul];omega
 have h2:V<(v1+1)*B32*p:=by
  rw[eV]
  calc (v1*B32+v2)*p+vl<(v1*B32+v2)*p+p:=by omega
   _=(v1*B32+v2+1)*p:=by rw[Nat.add_mul _ 1,Nat.one_mul]
   _≤(v1+1)*B32*p:=Nat.mul_le_mul_right _ (by rw[Nat.add_mul];omega)
 have h3:top*(B32*p)<(v1+1)*B32*(B32*p):=by
  calc top*(B32*p)=top*B32*p:=(Nat.mul_assoc _ _ _).symm
   _≤U:=h1
   _<V*B32:=hlt
   _≤(v1+1)*B32*p*B32:=Nat.mul_le_mul_right _ (by omega)
   _=(v1+1)*B32*(B32*p):=by rw[Nat.mul_assoc ((v1+1)*B32),Nat.mul_comm p]
 have h4:=Nat.lt_of_mul_lt_mul_right h3
 rw[Nat.add_mul]at h4
 simp only[B32]at*;omega
theorem quot_lt:U/V<B32:=by rw[Nat.div_lt_iff_lt_mul g.vpos,Nat.mul_comm];exact g.hlt
theorem quot_le:U/V*(v1*B32+v2)≤top*B32+u2:=by
 obtain⟨ul,hul,eU⟩:=g.hU
 obtain⟨vl,hvl,eV⟩:=g.hV
 have h1:U/V*V≤U:=Nat.div_mul_le_self _ _
 have h2:U/V*(v1*B32+v2)*p<(top*B32+u2+1)*p:=by
  calc U/V*(v1*B32+v2)*p=U/V*((v1*B32+v2)*p):=Nat.mul_assoc _ _ _
   _≤U/V*V:=Nat.mul_le_mul_left _ (by omega)
   _≤U:=h1
   _<(top*B32+u2)*p+p:=by omega
   _=(top*B32+u2+1)*p:=by rw[Nat.add_mul _ 1,Nat.one_mul]
 have:=Nat.lt_of_mul_lt_mul_right h2
 exact Nat.lt_succ_iff.1 this
theorem le_succ{q:Nat}(hq:q<B32)(h:q*(v1*B32+v2)≤top*B32+u2):q≤U/V+1:=by
 obtain⟨ul,hul,eU⟩:=g.hU
 obtain⟨vl,hvl,eV⟩:=g.hV
 have hv1:=g.hv1
 have hqp:q*p≤V:=by
  calc q*p≤(v1*B32+v2)*p:=Nat.mul_le_mul_right _ (by simp only[B32]at*;omega)
   _≤V:=by omega
 have h1:q*V≤U+V:=by
  calc q*V≤q*((v1*B32+v2)*p+p):=Nat.mul_le_mul_left _ (by omega)
   _=q*(v1*B32+v2)*p+q*p:=by rw[Nat.mul_add,Nat.mul_assoc]
   _≤(top*B32+u2)*p+V:=Nat.add_le_add (Nat.mul_le_mul_right _ h) hqp
   _≤U+V:=by omega
 cases q with
 |zero=>exact Nat.zero_le _
 |succ q=>
  have h2:q*V≤U:=by rw[Nat.succ_mul]at h1;omega
  exact Nat.succ_le_succ ((Nat.le_div_iff_mul_le g.vpos).2 h2)
end Guess
structure Corr(U V v1 v2 top u2 q r:Nat):Prop where
 eq:q*v1+r=top
 le:U/V≤q
 up:q≤B32+1
 rest:r<B32
namespace Corr
variable{U V v1 v2 top u2 p q r:Nat}
theorem start(g:Guess U V v1 v2 top u2 p):Corr U V v1 v2 top u2 (top/v1) (top%v1):=by
 have h1:=g.hv1
 have ht:=g.top_le
 have hle:U/V≤top/v1:=by
  rw[Nat.le_div_iff_mul_le (by omega)]
  have:=g.quot_le
  have h2:U/V*v1*B32<(top+1)*B32:=by
   calc U/V*v1*B32=U/V*(v1*B32):=Nat.mul_assoc _ _ _
    _≤U/V*(v1*B32+v2):=Nat.mul_le_mul_left _ (by omega)
    _≤top*B32+u2:=this
    _<(top+1)*B32:=by rw[Nat.add_mul];have:=g.hu2;omega
  have:=Nat.lt_of_mul_lt_mul_right h2
  exact Nat.lt_succ_iff.1 this
 refine⟨?_,hle,?_,?_⟩
 · rw[Nat.mul_comm];exact Nat.div_add_mod _ _
 · rw[←Nat.lt_succ_iff,Nat.div_lt_iff_lt_mul (by omega)]
   simp only[B32]at*;omega
 · have:=Nat.mod_lt top (by omega:0<v1)
   have:=g.hv1'
   omega
theorem done(g:Guess U V v1 v2 top u2 p)(c:Corr U V v1 v2 top u2 q r)(h1:q<B32)(h2:q*v2≤r*B32+u2):q=U/V∨q=U/V+1:=by
 have h3:q*(v1*B32+v2)≤top*B32+u2:=by
  have e1:top*B32=q*v1*B32+r*B32:=by rw[←c.eq,Nat.add_mul]
  rw[e1,Nat.mul_add,←Nat.mul_assoc];omega
 have k1:=g.le_succ h1 h3
 have k2:=c.le
 generalize U/V=Q at*
 omega
theorem pred_le(g:Guess U V v1 v2 top u2 p)(c:Corr U V v1 v2 top u2 q r)(h:B32≤q∨r*B32+u2<q*v2):U/V<q:=by
 rcases h with h|h
 · exact Nat.lt_of_lt_of_le g.quot_lt h
 · have hq:=g.quot_le
   have h3:top*B32+u2<q*(v1*B32+v2):=by
    have e1:top*B32=q*v1*B32+r*B32:=by rw[←c.eq,Nat.add_mul]
    rw[e1,Nat.mul_add,←Nat.mul_assoc]
    rw[Nat.add_assoc]
    exact Nat.add_lt_add_left h _
   have h4: ∀k:Nat,U/V*k≤top*B32+u2→top*B32+u2<q*k→U/V<q:=fun k a b=>Nat.lt_of_mul_lt_mul_right (Nat.lt_of_le_of_lt a b)
   exact h4 _ hq h3
theorem step(g:Guess U V v1 v2 top u2 p)(c:Corr U V v1 v2 top u2 q r)(h:B32≤q∨r*B32+u2<q*v2)(hr:r+v1<B32):Corr U V v1 v2 top u2 (q-1) (r+v1):=by
 have hq:=c.pred_le g h
 have e:=c.eq
 have up:=c.up
 refine⟨?_,Nat.le_sub_one_of_lt hq,by omega,hr⟩
 have hq1:1≤q:=Nat.lt_of_le_of_lt (Nat.zero_le _) hq
 obtain⟨q',rfl⟩: ∃q',q=q'+1:=⟨q-1,by omega⟩
 rw[Nat.add_mul,Nat.one_mul]at e
 simp only[Nat.add_sub_cancel]
 omega
theorem last(g:Guess U V v1 v2 top u2 p)(c:Corr U V v1 v2 top u2 q r)(h:B32≤q∨r*B32+u2<q*v2)(hr:B32≤r+v1):q-1<B32∧(q-1=U/V∨q-1=U/V+1):=by
 have hq:=c.pred_le g h
 have e:=c.eq
 have ht:=g.top_le
 have hu:=c.up
 have hv2:=g.hv2
 have hlt:q≤B32:=by
  rcases Nat.lt_or_ge q (B32+1)with h|h
  · omega
  · have:q=B32+1:=by omega
    subst this
    rw[Nat.add_mul,Nat.one_mul,Nat.mul_comm B32]at e
    omega
 have hls: ∀q,q<B32→q*(v1*B32+v2)≤top*B32+u2→q≤U/V+1:=fun q a b=>g.le_succ a b
 clear g c
 generalize U/V=Q at*
 obtain⟨q',rfl⟩: ∃q',q=q'+1:=⟨q-1,by omega⟩
 refine⟨by omega,?_⟩
 simp only[Nat.add_sub_cancel]
 have hq':q'<B32:=by omega
 have h2:q'*v2≤(r+v1)*B32+u2:=by
  calc q'*v2≤B32*B32:=Nat.mul_le_mul (by omega) (by omega)
   _≤(r+v1)*B32:=Nat.mul_le_mul_right _ hr
   _≤_:=Nat.le_add_right _ _
 have h3:q'*(v1*B32+v2)≤top*B32+u2:=by
  rw[Nat.add_mul,Nat.one_mul]at e
  rw[←e,Nat.mul_add,←Nat.mul_assoc]
  have:(q'*v1+v1+r)*B32=q'*v1*B32+(r+v1)*B32:=by
   rw[←Nat.add_mul];congr 1;omega
  omega
 have:=hls q' hq' h3
 omega
end Corr
theorem z97 (W Wi q vi x P Pj c b d s c2 b2 new : Nat) (hinv : Wi + q * vi * Pj = W + (c + b) * P)
    (hP: ∃Pi,P=Pj*Pi) (hs:c+q*x=s+B32*c2) (hn:new+s+b=d+b2*B32) (hd:d*P≤Wi) (Pi:Nat) (hPi:P=Pj*Pi):
    (Wi-d*P+new*P)+q*(vi+Pi*x)*Pj=W+(c2+b2)*(P*B32):=by
 have e1:q*(vi+Pi*x)*Pj=q*vi*Pj+q*x*P:=by
  rw[Nat.mul_add,Nat.add_mul,hPi]
  congr 1
  rw[←Nat.mul_assoc q,Nat.mul_assoc _ _ Pj,Nat.mul_assoc q Pi,Nat.mul_comm Pi (x*Pj),Nat.mul_assoc x,←Nat.mul_assoc q]
 have e2:(c2+b2)*(P*B32)=B32*c2*P+b2*B32*P:=by
  rw[Nat.add_mul];congr 1<;>(rw[Nat.mul_comm P,←Nat.mul_assoc];try rw[Nat.mul_comm c2])
 have e3:(c+q*x)*P=(s+B32*c2)*P:=by rw[hs]
 have e4:(new+s+b)*P=(d+b2*B32)*P:=by rw[hn]
 rw[e1,e2]
 simp only[Nat.add_mul]at*
 omega
end Go.Fw
set_option maxRecDepth 10000
open Go.Fw
namespace Go.Fw.R24
structure Guess(U V v1 v2 top u2 p:Nat):Prop where
 hp:0<p
 hU: ∃ul,ul<p∧U=(top*B24+u2)*p+ul
 hV: ∃vl,vl<p∧V=(v1*B24+v2)*p+vl
 hv1:8388608≤v1
 hv1':v1<B24
 hv2:v2<B24
 hu2:u2<B24
 hlt:U<V*B24
namespace Guess
variable{U V v1 v2 top u2 p:Nat}(g:Guess U V v1 v2 top u2 p)
include g
theorem vpos:0<V:=by
 obtain⟨vl,_,e⟩:=g.hV
 have h1:=g.hv1
 have hp:=g.hp
 have:0<(v1*B24+v2)*p:=Nat.mul_pos (by simp only[B24];omega) hp
 omega
theorem top_le:top≤v1*B24+(B24-1):=by
 obtain⟨ul,hul,eU⟩:=g.hU
 obtain⟨vl,hvl,eV⟩:=g.hV
 have hlt:=g.hlt
 have hp:=g.hp
 have hv2:=g.hv2
 have h1:top*B24*p≤U:=by rw[eU,Nat.add_mul];omega
 have h2:V<(v1+1)*B24*p:=by
  rw[eV]
  calc (v1*B24+v2)*p+vl<(v1*B24+v2)*p+p:=by omega
   _=(v1*B24+v2+1)*p:=by rw[Nat.add_mul _ 1,Nat.one_mul]
   _≤(v1+1)*B24*p:=Nat.mul_le_mul_right _ (by rw[Nat.add_mul];omega)
 have h3:top*(B24*p)<(v1+1)*B24*(B24*p):=by
  calc top*(B24*p)=top*B24*p:=(Nat.mul_assoc _ _ _).symm
   _≤U:=h1
   _<V*B24:=hlt
   _≤(v1+1)*B24*p*B24:=Nat.mul_le_mul_right _ (by omega)
   _=(v1+1)*B24*(B24*p):=by rw[Nat.mul_assoc ((v1+1)*B24),Nat.mul_comm p]
 have h4:=Nat.lt_of_mul_lt_mul_right h3
 rw[Nat.add_mul]at h4
 simp only[B24]at*;omega
theorem quot_lt:U/V<B24:=by rw[Nat.div_lt_iff_lt_mul g.vpos,Nat.mul_comm];exact g.hlt
theorem quot_le:U/V*(v1*B24+v2)≤top*B24+u2:=by
 obtain⟨ul,hul,eU⟩:=g.hU
 obtain⟨vl,hvl,eV⟩:=g.hV
 have h1:U/V*V≤U:=Nat.div_mul_le_self _ _
 have h2:U/V*(v1*B24+v2)*p<(top*B24+u2+1)*p:=by
  calc U/V*(v1*B24+v2)*p=U/V*((v1*B24+v2)*p):=Nat.mul_assoc _ _ _
   _≤U/V*V:=Nat.mul_le_mul_left _ (by omega)
   _≤U:=h1
   _<(top*B24+u2)*p+p:=by omega
   _=(top*B24+u2+1)*p:=by rw[Nat.add_mul _ 1,Nat.one_mul]
 have:=Nat.lt_of_mul_lt_mul_right h2
 exact Nat.lt_succ_iff.1 this
theorem le_succ{q:Nat}(hq:q<B24)(h:q*(v1*B24+v2)≤top*B24+u2):q≤U/V+1:=by
 obtain⟨ul,hul,eU⟩:=g.hU
 obtain⟨vl,hvl,eV⟩:=g.hV
 have hv1:=g.hv1
 have hqp:q*p≤V:=by
  calc q*p≤(v1*B24+v2)*p:=Nat.mul_le_mul_right _ (by simp only[B24]at*;omega)
   _≤V:=by omega
 have h1:q*V≤U+V:=by
  calc q*V≤q*((v1*B24+v2)*p+p):=Nat.mul_le_mul_left _ (by omega)
   _=q*(v1*B24+v2)*p+q*p:=by rw[Nat.mul_add,Nat.mul_assoc]
   _≤(top*B24+u2)*p+V:=Nat.add_le_add (Nat.mul_le_mul_right _ h) hqp
   _≤U+V:=by omega
 cases q with
 |zero=>exact Nat.zero_le _
 |succ q=>
  have h2:q*V≤U:=by rw[Nat.succ_mul]at h1;omega
  exact Nat.succ_le_succ ((Nat.le_div_iff_mul_le g.vpos).2 h2)
end Guess
structure Corr(U V v1 v2 top u2 q:Nat):Prop where
 mul:q*v1≤top
 le:U/V≤q
 lt:q<B24
namespace Corr
variable{U V v1 v2 top u2 p q:Nat}
theorem zec(g:Guess U V v1 v2 top u2 p):U/V*v1≤top:=by
 have:=g.quot_le
 have h2:U/V*v1*B24<(top+1)*B24:=by
  calc U/V*v1*B24=U/V*(v1*B24):=Nat.mul_assoc _ _ _
   _≤U/V*(v1*B24+v2):=Nat.mul_le_mul_left _ (by omega)
   _≤top*B24+u2:=this
   _<(top+1)*B24:=by rw[Nat.add_mul];have:=g.hu2;omega
 have:=Nat.lt_of_mul_lt_mul_right h2
 exact Nat.lt_succ_iff.1 this
theorem start(g:Guess U V v1 v2 top u2 p):Corr U V v1 v2 top u2 (min (top/v1) (B24-1)):=by
 have h1:=g.hv1
 have h2:=g.quot_lt
 refine⟨?_,?_,?_⟩
 · exact Nat.le_trans (Nat.mul_le_mul_right _ (Nat.min_le_left ..)) (Nat.div_mul_le_self ..)
 · refine Nat.le_min.2 ⟨?_,?_⟩
   · rw[Nat.le_div_iff_mul_le (by omega)];exact zec g
   · exact Nat.le_sub_one_of_lt h2
 · exact Nat.lt_of_le_of_lt (Nat.min_le_right ..) (by decide)
theorem zoh{i b e a d:Nat}(h:i+b=e+a)(k:b+d<a):e+d<i:=by omega
theorem zoe{i b e a d:Nat}(h:i+b=e+a)(k:a≤b+d):i≤e+d:=by omega
theorem zlw(b q v1 v2 top:Nat)(h:q*v1≤top):q*(v1*b+v2)+(top-q*v1)*b=top*b+q*v2:=by
 obtain⟨r,rfl⟩: ∃r,top=q*v1+r:=⟨top-q*v1,by omega⟩
 rw[Nat.add_sub_cancel_left,Nat.mul_add,←Nat.mul_assoc,Nat.add_mul (q*v1)]
 omega
theorem split(c:Corr U V v1 v2 top u2 q):q*(v1*B24+v2)+(top-q*v1)*B24=top*B24+q*v2:=zlw B24 q v1 v2 top c.mul
theorem done(g:Guess U V v1 v2 top u2 p)(c:Corr U V v1 v2 top u2 q)(h:q*v2≤(top-q*v1)*B24+u2∨B24≤top-q*v1):q=U/V∨q=U/V+1:=by
 have h2:q*v2≤(top-q*v1)*B24+u2:=by
  rcases h with h|h
  · exact h
  · calc q * v2 ≤ B24 * B24 := Nat.mul_le_mul (Nat.le_of_lt c.lt) (Nat.le_of_lt g.hv2)
      _≤(top-q*v1)*B24:=Nat.mul_le_mul_right _ h
      _≤_:=Nat.le_add_right ..
 have h3:q*(v1*B24+v2)≤top*B24+u2:=by
  exact zoe c.split h2
 have k1:=g.le_succ c.lt h3
 have k2:=c.le
 generalize U/V=Q at*
 omega
theorem step(g:Guess U V v1 v2 top u2 p)(c:Corr U V v1 v2 top u2 q)(h:(top-q*v1)*B24+u2<q*v2):0<q∧Corr U V v1 v2 top u2 (q-1):=by
 have hq:=g.quot_le
 have h3:top*B24+u2<q*(v1*B24+v2):=zoh c.split h
 have h4:U/V<q:=Nat.lt_of_mul_lt_mul_right (Nat.lt_of_le_of_lt hq h3)
 have lt:=c.lt
 exact⟨Nat.lt_of_le_of_lt (Nat.zero_le _) h4,Nat.le_trans (Nat.mul_le_mul_right _ (Nat.sub_le ..)) c.mul,Nat.le_sub_one_of_lt h4,Nat.lt_of_le_of_lt (Nat.sub_le ..) lt⟩
end Corr
end Go.Fw.R24
namespace Go.Fw
set_option maxRecDepth 10000
def zdr(b:Int):List Int→Int
 | []=>0
 |x::xs=>x+b*zdr b xs
def zof(xs:List Nat):List Int:=xs.map fun n:Nat=>(n:Int)
theorem z61(xs:List Nat):(zof xs).length=xs.length:=by simp[zof]
theorem zaP(xs:List Nat)(k:Nat):(zof xs).getD k 0=((xs.getD k 0:Nat):Int):=by
 simp only[zof,List.getD_eq_getElem?_getD,List.getElem?_map]
 cases xs[k]?<;>rfl
theorem z2Y(b:Nat): ∀xs,zdr b (zof xs)=(val b xs:Int)
 | []=>rfl
 |x::xs=>by
  have ih:=z2Y b xs
  simp only[zof]at ih
  simp only[zof,List.map_cons,zdr,val,ih]
  push_cast
  rfl
theorem z6s(b:Int): ∀(xs:List Int) (k:Nat) (d:Int),k<xs.length→zdr b (xs.set k d)=zdr b xs+(d-xs.getD k 0)*b^k
 | [],k,d,h=>by simp at h
 |x::xs,0,d,_=>by simp only[List.set_cons_zero,zdr,List.getD_cons_zero,Int.pow_zero,Int.mul_one];omega
 |x::xs,k+1,d,h=>by
  have ih:=z6s b xs k d (by simpa using h)
  simp only[List.set_cons_succ,zdr,List.getD_cons_succ,ih,Int.pow_succ]
  rw[Int.mul_add,Int.add_assoc,Int.mul_left_comm,Int.mul_comm b (b^k)]
theorem zft(xs:List Int)(k i:Nat)(d:Int)(h:k<xs.length):(xs.set k d).getD i 0=if i=k then d else xs.getD i 0:=by
 simp only[List.getD_eq_getElem?_getD,List.getElem?_set,h,if_true]
 by_cases hi:k=i
 · rw[if_pos hi,if_pos hi.symm];rfl
 · rw[if_neg hi,if_neg (fun e=>hi e.symm)]
theorem zaB (b : Int) (xs : List Int) (k : Nat) (hk : k < xs.length) (c s : Int) :
    zdr b (xs.set k ((c+xs.getD k 0+s)%b))+(c+xs.getD k 0+s)/b*b^(k+1)=zdr b xs+c*b^k+s*b^k:=by
 rw[z6s _ _ _ _ hk]
 have h:=Int.emod_add_mul_ediv (c+xs.getD k 0+s) b
 generalize (c+xs.getD k 0+s)%b=m at*
 generalize (c+xs.getD k 0+s)/b=q at*
 rw[Int.pow_succ]
 have e:q*(b^k*b)=b*q*b^k:=by rw[Int.mul_comm (b^k),←Int.mul_assoc,Int.mul_comm q]
 rw[e]
 have e2:m+b*q=c+xs.getD k 0+s:=h
 have e3:(m-xs.getD k 0)*b^k+b*q*b^k=c*b^k+s*b^k:=by
  rw[←Int.add_mul,←Int.add_mul]
  congr 1
  omega
 omega
theorem zbU(zs:List Nat)(k d:Nat):zof (zs.set k d)=(zof zs).set k (d:Int):=by simp[zof,List.map_set]
theorem z8L (b : Nat) (zs : List Nat) (k : Nat) (hk : k < zs.length) (c s : Nat) :
    val b (zs.set k ((c+zs.getD k 0+s)%b))+(c+zs.getD k 0+s)/b*b^(k+1)=val b zs+c*b^k+s*b^k:=by
 have h:=zaB (b:Int) (zof zs) k (by rw[z61];exact hk) (c:Int) (s:Int)
 rw[zaP]at h
 have e1:((c:Int)+((zs.getD k 0:Nat):Int)+(s:Int))%(b:Int)=(((c+zs.getD k 0+s)%b:Nat):Int):=by push_cast;rfl
 have e2:((c:Int)+((zs.getD k 0:Nat):Int)+(s:Int))/(b:Int)=(((c+zs.getD k 0+s)/b:Nat):Int):=by push_cast;rfl
 rw[e1,e2,←zbU,z2Y,z2Y]at h
 exact_mod_cast h
theorem zhM(b:Nat)(zs:List Nat)(k d:Nat)(hk:k<zs.length)(h0:zs.getD k 0=0):val b (zs.set k d)=val b zs+d*b^k:=by
 have h:=z6s (b:Int) (zof zs) k (d:Int) (by rw[z61];exact hk)
 rw[zaP,h0,←zbU,z2Y,z2Y]at h
 have e:((d:Int)-((0:Nat):Int))=d:=by omega
 rw[e]at h
 exact_mod_cast h
theorem z7A(xs:List Nat)(k i d:Nat)(h:k<xs.length):(xs.set k d).getD i 0=if i=k then d else xs.getD i 0:=by
 simp only[List.getD_eq_getElem?_getD,List.getElem?_set,h,if_true]
 by_cases hi:k=i
 · rw[if_pos hi,if_pos hi.symm];rfl
 · rw[if_neg hi,if_neg (fun e=>hi e.symm)]
def Low(p:Nat)(zs:List Int):Prop:= ∀k,k<p→0≤zs.getD k 0∧zs.getD k 0<16777216
theorem Low.set{p:Nat}{zs:List Int}(h:Low p zs){k:Nat}{d:Int}(hk:k<zs.length)(hd:0≤d∧d<16777216):Low p (zs.set k d):=by
 intro i hi
 rw[zft _ _ _ _ hk]
 split
 · exact hd
 · exact h i hi
theorem z9Z {B : Nat} {zs vs : List Nat} {i k c x A : Nat} (hk : i + k < zs.length) (hinv : val B zs + c * B ^ (i + k) = A + x * val B (vs.take k) * B ^ i) :
    val B (zs.set (i+k) ((c+zs.getD (i+k) 0+x*vs.getD k 0)%B))+(c+zs.getD (i+k) 0+x*vs.getD k 0)/B*B^(i+(k+1))=A+x*val B (vs.take (k+1))*B^i:=by
 have h:=z8L B zs (i+k) hk c (x*vs.getD k 0)
 rw[Z8,←Nat.add_assoc,h,hinv]
 have e:x*(val B (vs.take k)+B^k*vs.getD k 0)*B^i=x*val B (vs.take k)*B^i+x*vs.getD k 0*B^(i+k):=by
  rw[Nat.mul_add,Nat.add_mul,Nat.pow_add,Nat.mul_comm (B^k) (vs.getD k 0),←Nat.mul_assoc x,Nat.mul_assoc (x*vs.getD k 0),Nat.mul_comm (B^k)]
 rw[e];omega
theorem zdQ{B c z x v:Nat}(hc:c<B)(hz:z<B)(hx:x<B)(hv:v<B):(c+z+x*v)/B<B:=by
 rw[Nat.div_lt_iff_lt_mul (by omega)]
 obtain⟨b,rfl⟩: ∃b,B=b+1:=⟨B-1,by omega⟩
 have h1:x*v≤b*b:=Nat.mul_le_mul (by omega) (by omega)
 have h2:(b+1)*(b+1)=b*b+b+b+1:=by rw[Nat.add_mul,Nat.mul_add,Nat.one_mul,Nat.mul_one];omega
 omega
theorem zcP {B : Nat} {zs us : List Nat} {i m c V : Nat} (hk : i + m < zs.length) (h0 : zs.getD (i + m) 0 = 0) (hinv : val B zs + c * B ^ (i + m) = val B (us.take i) * V + us.getD i 0 * V * B ^ i) :
    val B (zs.set (i+m) c)=val B (us.take (i+1))*V:=by
 rw[zhM _ _ _ _ hk h0,hinv,Z8,Nat.add_mul]
 congr 1
 rw[Nat.mul_comm (B^i),Nat.mul_assoc,Nat.mul_assoc,Nat.mul_comm V]
def z1g(ls:List Nat):ByteArray:=⟨(ls.reverse.map UInt8.ofNat).toArray⟩
def z21(s:ByteArray):List Nat:=(s.data.toList.map UInt8.toNat).reverse
def bytesOf(n:Nat):ByteArray:=z1g (dig 256 n)
def J5(s:ByteArray):Nat:=val 256 (z21 s)
theorem z1d(s:ByteArray):Dig 256 (z21 s):=by
 intro x hx
 simp only[z21,List.mem_reverse,List.mem_map]at hx
 obtain⟨y,_,rfl⟩:=hx
 exact y.toNat_lt
theorem X6(s:ByteArray):(z21 s).length=s.size:=by simp[z21]
theorem z3N(s:ByteArray):z1g (z21 s)=s:=by
 cases s with
 |mk d=>
  simp only[z1g,z21,List.reverse_reverse,List.map_map]
  congr
  have:(UInt8.ofNat∘UInt8.toNat)=id:=by funext x;simp
  rw[this,List.map_id]
theorem za7{ls:List Nat}(h:Dig 256 ls):z21 (z1g ls)=ls:=by
 simp only[z21,z1g]
 rw[List.map_map,←List.map_reverse,List.reverse_reverse]
 conv=>rhs;rw[←List.map_id ls]
 refine List.map_congr_left fun x hx=>?_
 have:=h x hx
 simp only[Function.comp_apply,id,UInt8.toNat_ofNat']
 omega
theorem z5M(ls:List Nat):(z1g ls).size=ls.length:=by simp[z1g,ByteArray.size]
theorem zen{a b:ByteArray}(h:a.data.toList=b.data.toList):a=b:=by
 cases a;cases b;congr;exact Array.ext' h
theorem z6z(ls:List Nat)(x:Nat):(z1g (ls++[x])).extract 1 (ls.length+1)=z1g ls:=by
 apply zen
 simp only[z1g,ByteArray.data_extract,Array.toList_extract,List.reverse_append,List.reverse_cons,List.reverse_nil,List.nil_append,List.singleton_append,List.map_cons,List.extract_eq_take_drop,List.drop_succ_cons,List.drop_zero,Nat.add_sub_cancel]
 rw[List.take_of_length_le (by simp)]
theorem z2I(ls:List Nat)(x:Nat):(z1g (ls++[x])).data.getD 0 0=UInt8.ofNat x:=by simp[z1g]
theorem X3(s:ByteArray):(s.toList==[])=decide (s.size=0):=by
 rw[ByteArray.toList_eq]
 have:s.size=s.data.toList.length:=by simp
 rw[this]
 cases s.data.toList<;>simp
theorem z44{ls:List Nat}(h:Dig 256 ls):J5 (z1g ls)=val 256 ls:=by rw[J5,za7 h]
theorem U6(n:Nat):J5 (bytesOf n)=n:=by rw[bytesOf,z44 (W1 (by decide) n),Q5 (by decide)]
theorem z1a(n:Nat):(bytesOf n).size=(dig 256 n).length:=z5M _
theorem z5c{m n:Nat}(h:bytesOf m=bytesOf n):m=n:=by rw[←U6 m,h,U6]
theorem V5{n:Nat}:(bytesOf n).size=0↔n=0:=by rw[z1a];exact W6 (by decide)
theorem z0o(s:ByteArray):J5 s<256^s.size:=by rw[J5,←X6];exact z0s (by decide) _ (z1d s)
theorem zc9(s:ByteArray):z1g (tz (z21 s))=bytesOf (J5 s):=by rw[z0W (by decide) _ (z1d s)];rfl
theorem z6N(s:ByteArray){i:Nat}(h:i<s.size):(z21 s).getD i 0=(s.data.getD (s.size-1-i) 0).toNat:=by
 have hs:s.size=s.data.size:=rfl
 simp only[z21,List.getD_eq_getElem?_getD]
 rw[List.getElem?_reverse (by simp;omega)]
 simp only[List.length_map,Array.length_toList,List.getElem?_map,Array.getElem?_toList]
 rw[Array.getElem?_eq_getElem (by omega)]
 simp[Array.getD,show s.size-1-i<s.size by omega]
set_option maxRecDepth 100000
theorem zeQ(x y z:Int):PCall P 255 [.lit (.int .u32 x),.lit (.int .u32 y),.lit (.int .u32 z)] (.tup [.lit (.int .u32 (u32.wrap (u64.wrap (u64.wrap (u64.wrap x+u64.wrap y)+u64.wrap z)))),.lit (.int .u32 (u32.wrap ((u64.wrap (u64.wrap (u64.wrap x+u64.wrap y)+u64.wrap z)).fdiv 4294967296)))]):=
 j5 (.c (nn 32) .nil) (by kernel_rfl)
theorem zfB(x y z:Int):PCall P 257 [.lit (.int .u32 x),.lit (.int .u32 y),.lit (.int .u32 z)] (.tup [.lit (.int .u32 (u32.wrap (u32.wrap (x-y)-z))),.lit (.int .u32 ((X5 BinOp.or u32 (X5 BinOp.and u32 (X5 BinOp.xor u32 (4294967295:Int) x) y) (X5 BinOp.and u32 (X5 BinOp.xor u32 (4294967295:Int) (X5 BinOp.xor u32 x y)) (u32.wrap (u32.wrap (x-y)-z)))).fdiv 2147483648))]):=
 j5 (.c (nn 31) .nil) (by kernel_rfl)
theorem zez(x y z:Int)(hz:(z != 0)=true)(hx:decide (z≤x)=false)(o3 o4:u64.wrap z≠0):PCall P 269 [.lit (.int .u32 x),.lit (.int .u32 y),.lit (.int .u32 z)] (.tup [.lit (.int .u32 (u32.wrap (u64.wrap ((X5 BinOp.or u64 (u64.wrap (u64.wrap x*4294967296)) (u64.wrap y)).tdiv (u64.wrap z))))),.lit (.int .u32 (u32.wrap ((X5 BinOp.or u64 (u64.wrap (u64.wrap x*4294967296)) (u64.wrap y)).tmod (u64.wrap z))))]):=
 j5 (.b 4 hz (.b 9 hx (.c (nn 32) (.c o3 (.c o4 .nil))))) (by kernel_rfl)
theorem ze1(x y:Int):PCall P 267 [.lit (.int .u32 x),.lit (.int .u32 y)] (.tup [.lit (.int .u32 (u32.wrap ((u64.wrap (u64.wrap x*u64.wrap y)).fdiv 4294967296))),.lit (.int .u32 (u32.wrap (u64.wrap (u64.wrap x*u64.wrap y))))]):=
 j5 (.c (nn 32) .nil) (by kernel_rfl)
abbrev z3u(n:Nat):CV:= .lit (.int .u32 (n:Int))
abbrev j7(n:Int):CV:= .lit (.int .i64 n)
theorem z4P{k k':IntKind}{a a' b b':Int}(h:a=a')(h':b=b'):CV.tup [.lit (.int k a),.lit (.int k' b)]= .tup [.lit (.int k a'),.lit (.int k' b')]:=by rw[h,h']
theorem z59{k:IntKind}{a a':Int}(h:a=a'):CV.lit (.int k a)= .lit (.int k a'):=by rw[h]
theorem z6V(n:Int):u32.wrap n=n%4294967296:=IntKind.wrap_u32 n
theorem z1o(n:Int):u64.wrap n=n%18446744073709551616:=IntKind.wrap_u64 n
theorem wr8(n:Int):u8.wrap n=n%256:=IntKind.wrap_u8 n
theorem fdp(n:Int){d:Int}(h:0≤d):n.fdiv d=n/d:=Int.fdiv_eq_ediv_of_nonneg n h
theorem zcu(k:Nat)(a:Nat):BitVec.ofInt k (a:Int)=BitVec.ofNat k a:=by
 apply BitVec.eq_of_toNat_eq
 simp
theorem z3b (op : BinOp) (k : IntKind) (hk : k.signed = false) (a b : Nat) (ha : a < 2 ^ k.bits) (hb : b < 2 ^ k.bits) (hop : op = .and ∨ op = .or ∨ op = .xor) :
    X5 op k a b=((match op with| .and=>a&&&b| .or=>a|||b|_=>a^^^b:Nat):Int):=by
 have hw: ∀n:Nat,n<2^k.bits→k.wrap (n:Int)=n:=by
  intro n hn
  unfold IntKind.wrap
  simp only[hk,Bool.false_and,Bool.false_eq_true,if_false]
  norm_cast
  rw[Nat.mod_eq_of_lt hn]
 unfold X5
 simp only[zcu]
 rcases hop with rfl|rfl|rfl
 · dsimp only
   rw[BitVec.toNat_and,BitVec.toNat_ofNat,BitVec.toNat_ofNat,Nat.mod_eq_of_lt ha,Nat.mod_eq_of_lt hb]
   exact hw _ (Nat.and_lt_two_pow _ hb)
 · dsimp only
   rw[BitVec.toNat_or,BitVec.toNat_ofNat,BitVec.toNat_ofNat,Nat.mod_eq_of_lt ha,Nat.mod_eq_of_lt hb]
   exact hw _ (Nat.or_lt_two_pow ha hb)
 · dsimp only
   rw[BitVec.toNat_xor,BitVec.toNat_ofNat,BitVec.toNat_ofNat,Nat.mod_eq_of_lt ha,Nat.mod_eq_of_lt hb]
   exact hw _ (Nat.xor_lt_two_pow ha hb)
theorem zcZ{a b:Nat}(ha:a<4294967296)(hb:b<4294967296):X5 .or .u32 (a:Int) (b:Int)=((a|||b:Nat):Int):=z3b .or .u32 rfl a b ha hb (by simp)
theorem zbQ{a b:Nat}(ha:a<4294967296)(hb:b<4294967296):X5 .and .u32 (a:Int) (b:Int)=((a&&&b:Nat):Int):=z3b .and .u32 rfl a b ha hb (by simp)
theorem z8o{a b:Nat}(ha:a<4294967296)(hb:b<4294967296):X5 .xor .u32 (a:Int) (b:Int)=((a^^^b:Nat):Int):=z3b .xor .u32 rfl a b ha hb (by simp)
theorem z7y{a b:Nat}(ha:a<18446744073709551616)(hb:b<18446744073709551616):X5 .or .u64 (a:Int) (b:Int)=((a|||b:Nat):Int):=z3b .or .u64 rfl a b ha hb (by simp)
theorem z1V{a b:Nat}(i:Nat)(hb:b<2^i):a*2^i|||b=a*2^i+b:=by
 rw[←Nat.shiftLeft_eq,Nat.shiftLeft_add_eq_or_of_lt hb]
theorem z0P(x y c:Nat)(hx:x<B32)(hy:y<B32)(hc:c≤1):PCall P 255 [z3u x,z3u y,z3u c] (.tup [z3u ((x+y+c)%B32),z3u ((x+y+c)/B32)]):=by
 refine(zeQ x y c).eq ?_
 simp only[z6V,z1o,fdp _ (by decide:(0:Int)≤4294967296),B32]at*
 exact z4P (by omega) (by omega)
theorem zad(x y:Nat)(hx:x<B32)(hy:y<B32):PCall P 267 [z3u x,z3u y] (.tup [z3u (x*y/B32),z3u (x*y%B32)]):=by
 refine(ze1 x y).eq ?_
 have h:x*y≤4294967295*4294967295:=Nat.mul_le_mul (by simp only[B32]at hx;omega) (by simp only[B32]at hy;omega)
 simp only[z6V,z1o,fdp _ (by decide:(0:Int)≤4294967296),B32]at*
 have h1:(x:Int)%18446744073709551616*((y:Int)%18446744073709551616)=((x*y:Nat):Int):=by
  rw[Int.emod_eq_of_lt (by omega) (by omega),Int.emod_eq_of_lt (by omega) (by omega)];simp
 rw[h1]
 exact z4P (by omega) (by omega)
theorem zaa(x y z:Nat)(hx:x<z)(hy:y<B32)(hz:z<B32):PCall P 269 [z3u x,z3u y,z3u z] (.tup [z3u ((x*B32+y)/z),z3u ((x*B32+y)%z)]):=by
 have h0:0<z:=by omega
 have hzw:u64.wrap (z:Int)=z:=by rw[z1o];simp only[B32]at hz;omega
 have hne:(z:Int)≠0:=by omega
 refine(zez x y z (by simpa using hne) (by simp;omega) (by rw[hzw];exact hne) (by rw[hzw];exact hne)).eq ?_
 rw[hzw]
 simp only[B32]at*
 have h1:u64.wrap (u64.wrap (x:Int)*4294967296)=((x*2^32:Nat):Int):=by rw[z1o,z1o];omega
 have h2:u64.wrap (y:Int)=(y:Nat):=by rw[z1o];omega
 rw[h1,h2,z7y (by omega) (by omega),z1V 32 (by omega),show(2:Nat)^32=4294967296 by decide,z6V,z1o,z6V,Int.tdiv_eq_ediv_of_nonneg (by omega),Int.tmod_eq_emod_of_nonneg (by omega)]
 have h3:(x*4294967296+y)/z<4294967296:=by
  rw[Nat.div_lt_iff_lt_mul h0]
  have:(x+1)*4294967296≤z*4294967296:=Nat.mul_le_mul_right _ hx
  rw[Nat.mul_comm 4294967296 z];omega
 have h4:(x*4294967296+y)%z<4294967296:=by have:=Nat.mod_lt (x*4294967296+y) h0;omega
 rw[show((x*4294967296+y:Nat):Int)/(z:Int)=(((x*4294967296+y)/z:Nat):Int)from(Int.natCast_ediv _ _).symm,
  show((x*4294967296+y:Nat):Int)%(z:Int)=(((x*4294967296+y)%z:Nat):Int)from(Int.natCast_emod _ _).symm]
 generalize (x*4294967296+y)/z=q at*
 generalize (x*4294967296+y)%z=r at*
 exact z4P (by omega) (by omega)
theorem z3z(x y c:Nat)(hx:x<B32)(hy:y<B32)(hc:c≤1):PCall P 257 [z3u x,z3u y,z3u c] (.tup [z3u ((x+2*B32-y-c)%B32),z3u (if x<y+c then 1 else 0)]):=by
 refine(zfB x y c).eq ?_
 simp only[B32]at*
 have hd:u32.wrap (u32.wrap ((x:Int)-y)-c)=((x+2*4294967296-y-c)%4294967296:Nat):=by rw[z6V,z6V];omega
 rw[hd]
 have hd':(x+2*4294967296-y-c)%4294967296<4294967296:=Nat.mod_lt _ (by decide)
 generalize hdd:(x+2*4294967296-y-c)%4294967296=d at*
 have hm:(4294967295:Int)=((4294967295:Nat):Int):=rfl
 have hxy:x^^^y<4294967296:=Nat.xor_lt_two_pow (n:=32) hx hy
 have hnx:4294967295^^^x<4294967296:=Nat.xor_lt_two_pow (n:=32) (by decide) hx
 have hnxy:4294967295^^^(x^^^y)<4294967296:=Nat.xor_lt_two_pow (n:=32) (by decide) hxy
 have ha1:(4294967295^^^x)&&&y<4294967296:=Nat.and_lt_two_pow (n:=32) _ hy
 have ha2:(4294967295^^^(x^^^y))&&&d<4294967296:=Nat.and_lt_two_pow (n:=32) _ hd'
 rw[hm,z8o (by decide) hx,zbQ hnx hy,z8o hx hy,z8o (by decide) hxy,zbQ hnxy hd',zcZ ha1 ha2,fdp _ (by decide),show(2147483648:Int)=((2147483648:Nat):Int)from rfl,←Int.natCast_ediv]
 have key:((4294967295^^^x)&&&y|||(4294967295^^^(x^^^y))&&&d)/2147483648=if x<y+c then 1 else 0:=by
  rw[show(2147483648:Nat)=2^31 from rfl,←Nat.shiftRight_eq_div_pow]
  simp only[Nat.shiftRight_or_distrib,Nat.shiftRight_and_distrib,Nat.shiftRight_xor_distrib]
  rw[show(4294967295:Nat)>>>31=1 from rfl]
  simp only[Nat.shiftRight_eq_div_pow]
  rw[show(2:Nat)^31=2147483648 from rfl]
  have e1:x/2147483648=0∨x/2147483648=1:=by omega
  have e2:y/2147483648=0∨y/2147483648=1:=by omega
  have e3:d/2147483648=0∨d/2147483648=1:=by omega
  rcases e1 with e1|e1<;>rcases e2 with e2|e2<;>rcases e3 with e3|e3<;>rw[e1,e2,e3]
  all_goals first
   |(rw[if_pos (by omega)];rfl)
   |(rw[if_neg (by omega)];rfl)
 rw[key]
theorem zff(n:Nat)(xs:List Nat){R:CV→Prop}(hR:Ok P 254 (loopHead P 254 0) ⟨J3 21 [(0,.cv (.lst n (j6 xs)))],[]⟩ (.of R)):W5 P 254 [.lst n (j6 xs)] R:=
 Y2 (keep:=[0]) (σ:=[]) (.o 1 .stop .nil) (by kernel_rfl) rfl hR .nil
theorem zeh(n:Nat)(xs:List Nat)(h1:decide ((n:Int)>0)=true)(h2:((↑(xs.getD ((i64.wrap ((n:Int)-1)).toNat*1) 0):Int)==0)=true)(o1:(0:Int)≤i64.wrap ((n:Int)-1)∧i64.wrap ((n:Int)-1)<(n:Int))(o2:(j6 xs)[(i64.wrap ((n:Int)-1)).toNat*1]?=some (.lit (.int .u32 (↑(xs.getD ((i64.wrap ((n:Int)-1)).toNat*1) 0):Int))))(o5:(0:Int)≤0∧(0:Int)≤i64.wrap ((n:Int)-1)∧i64.wrap ((n:Int)-1)≤(n:Int))(o6:(j6 xs).length=n*1){R:Goal}(hn:j9 R.n []=true)(hR:Ok P 254 (loopHead P 254 0) ⟨J3 21 [(0,.cv (.lst (i64.wrap ((n:Int)-1)-0).toNat (List.take ((i64.wrap ((n:Int)-1)-0).toNat*1) (List.drop 0 (j6 xs)))))],[]⟩ R):Ok P 254 (loopHead P 254 0) ⟨.cv (.lst n (j6 xs))::z94 20,[]⟩ R:=
 z16 (keep:=[0]) (σ:=[]) (.b 4 h1 (.c o1 (.l 10 o2 (.c (eqn 1) (.b 13 h2 (.c o5 (.c o6 (.o 20 .stop .nil)))))))) (by kernel_rfl) rfl hn hR .nil
theorem zeN(n:Nat)(xs:List Nat)(h1:decide ((n:Int)>0)=true)(h2:((↑(xs.getD ((i64.wrap ((n:Int)-1)).toNat*1) 0):Int)==0)=false)(o1:(0:Int)≤i64.wrap ((n:Int)-1)∧i64.wrap ((n:Int)-1)<(n:Int))(o2:(j6 xs)[(i64.wrap ((n:Int)-1)).toNat*1]?=some (.lit (.int .u32 (↑(xs.getD ((i64.wrap ((n:Int)-1)).toNat*1) 0):Int)))){R:Goal}(hR:R.c (.lst n (j6 xs))):Ok P 254 (loopHead P 254 0) ⟨.cv (.lst n (j6 xs))::z94 20,[]⟩ R:=
 okT (.b 4 h1 (.c o1 (.l 10 o2 (.c (eqn 1) (.b 13 h2 .nil))))) (by kernel_rfl) hR
theorem zfv(n:Nat)(xs:List Nat)(h1:decide ((n:Int)>0)=false){R:Goal}(hR:R.c (.lst n (j6 xs))):Ok P 254 (loopHead P 254 0) ⟨.cv (.lst n (j6 xs))::z94 20,[]⟩ R:=
 okT (.b 4 h1 .nil) (by kernel_rfl) hR
theorem zcq(xs:List Nat)(k:Nat):(j6 xs).take k=j6 (xs.take k):=by simp[j6]
theorem zbG {R : Goal} (hn : j9 R.n [] = true) : ∀ (k : Nat) (xs : List Nat), xs.length = k → k < 2 ^ 62 → R.c (.lst (tz xs).length (j6 (tz xs))) →
    Ok P 254 (loopHead P 254 0) ⟨.cv (.lst xs.length (j6 xs))::z94 20,[]⟩ R:=by
 intro k
 induction k with
 |zero=>
  intro xs hl _ hR
  have:xs=[]:=List.length_eq_zero_iff.1 hl
  subst this
  exact zfv 0 [] (by decide) hR
 |succ k ih=>
  intro xs hl hk hR
  have hw:i64.wrap ((xs.length:Int)-1)=(k:Int):=by rw[hl,w64 (by omega)];omega
  have hne:xs≠[]:=by intro e;subst e;simp at hl
  have hcon:=X9 hne
  rw[hl,Nat.add_sub_cancel]at hcon
  have hget:(j6 xs)[k]?=some (z5y xs k):=z6o (by omega)
  by_cases hx:xs.getD k 0=0
  · refine zeh xs.length xs (by simp;omega) (by rw[hw];simpa using hx) (by rw[hw];omega) (by rw[hw];simpa[z5y]using hget) (by rw[hw];omega) (by simp[j6]) hn ?_
    rw[hw]
    have h1:((k:Int)-0).toNat=k:=by omega
    rw[h1,Nat.mul_one,List.drop_zero,zcq]
    have h2:(xs.take k).length=k:=by simp;omega
    have:=ih (xs.take k) h2 (by omega) (by rw[hcon,hx,Y1]at hR;exact hR)
    rw[h2]at this
    exact this
  · refine zeN xs.length xs (by simp;omega) (by rw[hw];simpa using hx) (by rw[hw];omega) (by rw[hw];simpa[z5y]using hget) ?_
    rw[hcon,z0F hx,←hcon]at hR
    exact hR
theorem z0a(n:Nat)(xs:List Nat)(hn:n=xs.length)(hd:Dig B32 xs)(hl:xs.length<2^62):PCall P 254 [.lst n (j6 xs)] (z07 (val B32 xs)):=by
 subst hn
 refine zff xs.length xs (zbG rfl _ xs rfl hl ?_)
 exact zhs hd
theorem zas(a:Int)(h0:0≤a)(h1:a<4294967296):PCall P 254 [.lst 1 [.lit (.int .u32 a)]] (z07 a.toNat):=by
 have:=z0a 1 [a.toNat] rfl (by intro x hx;simp only[List.mem_singleton]at hx;simp only[B32];omega) (by simp)
 rw[show j6 [a.toNat]=[.lit (.int .u32 a)] by simp[j6];omega,show val B32 [a.toNat]=a.toNat by simp[val]]at this
 exact this
theorem za9(a b:Int)(h0:0≤a)(h1:a<4294967296)(g0:0≤b)(g1:b<4294967296):PCall P 254 [.lst 2 [.lit (.int .u32 a),.lit (.int .u32 b)]] (z07 (a+4294967296*b).toNat):=by
 have:=z0a 2 [a.toNat,b.toNat] rfl (by intro x hx;simp only[List.mem_cons,List.not_mem_nil,or_false]at hx;simp only[B32];omega) (by simp)
 rw[show j6 [a.toNat,b.toNat]=[.lit (.int .u32 a),.lit (.int .u32 b)] by simp[j6];omega,show val B32 [a.toNat,b.toNat]=(a+4294967296*b).toNat by simp only[val,B32];omega]at this
 exact this
end Go.Fw
