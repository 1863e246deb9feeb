/- A part of the proof that the law returns true for every input: an executor for the model's code, and what functions of the program compute. -/
import Derived.Test.YtcafjpldfnegiaaDoorB05
open Go IntKind
namespace Go.Fw
section
variable{P:Program}{w0:Start}{w:World}{hp:List Blk}{I:Imm}{p:Pl}{slot:Nat}
inductive OptRep(I:Imm)(p:Pl):Option MV→Option Value→Prop where
 |none:OptRep I p .none .none
 |some {m:MV} {v:Value} (h:m.rep I p v):OptRep I p (.some m) (.some v)
theorem z1O{m:MV}{d:Nat}{n:Int}(h:z0k (some m) d=some n): ∃k,m= .cv (.lit (.int k n)):=by
 unfold z0k at h
 split at h
 · rename_i heq;cases heq
 · rename_i k n' heq
   cases heq;cases h;exact⟨k,rfl⟩
 · cases h
theorem z1p {lo hi : Option MV} {rlo rhi : Option Value} {l h : Int} {len cap d : Nat} (hl : z0k lo 0 = some l) (hh : z0k hi d = some h) (rl : OptRep I p lo rlo) (rh : OptRep I p hi rhi)
    (hd:d=len) (h1:0≤l) (h2:l≤h) (h3:h≤cap) (b:Bool) (w:World):(Instr.sliceBounds b len cap rlo rhi none).run P w= .ok (l.toNat,h.toNat,cap) w:=by
 subst hd
 have h0:0≤h:=by omega
 have e:(h.toNat:Int)=h:=Int.toNat_of_nonneg h0
 cases rl with
 |none=>
  simp[z0k]at hl;subst hl
  cases rh with
  |none=>simp[z0k]at hh;subst hh;simp[Instr.sliceBounds]
  |some hm=>
   obtain⟨k,rfl⟩:=z1O hh
   have:=J2 hm;subst this
   simp[Instr.sliceBounds,Instr.sliceBound,asIntOf,h2,h3]
 |some hm=>
  obtain⟨k,rfl⟩:=z1O hl
  have:=J2 hm;subst this
  cases rh with
  |none=>
   simp[z0k]at hh;subst hh
   simp[Instr.sliceBounds,Instr.sliceBound,asIntOf,h1,h2]
  |some hm'=>
   obtain⟨k,rfl⟩:=z1O hh
   have:=J2 hm';subst this
   simp[Instr.sliceBounds,Instr.sliceBound,asIntOf,h0,h3,h1,e,h2]
theorem z5K {t : TypeId} {x : MV} {lo hi mx : Option MV} {v : MV} {ob : List Prop} {y : Value} {rlo rhi rmx : Option Value} (h : z9n P t x lo hi mx = some (v, ob))
    (hob: ∀q∈ob,q) (hx:x.rep I p y) (hl:OptRep I p lo rlo) (hh:OptRep I p hi rhi) (hm:OptRep I p mx rmx) (w:World):
    ∃z,(Instr.sliceAt t y rlo rhi rmx).run P w= .ok z w∧v.rep I p z:=by
 unfold z9n at h
 split at h
 · cases h
 · cases hm
   split at h
   · rename_i elem hu
     split at h
     · rename_i hty
       obtain⟨ei,hei⟩:=W6 hty
       split at h
       · rename_i b off len sz
         split at h
         · rename_i l hh' hbl hbh
           cases h
           simp only[List.mem_cons,List.not_mem_nil,or_false,forall_eq]at hob
           obtain⟨o1,o2,o3⟩:=hob
           simp only[MV.rep]at hx
           obtain⟨b',κ,cap,h1,rfl,h2,h3⟩:=hx
           have hr:=z1p (P:=P) (len:=len) (cap:=cap) hbl hbh hl hh rfl o1 (by omega) (by omega) true w
           refine⟨.slice (if cap=l.toNat then(some ⟨b',off,none⟩)else(some (Addr.add ⟨b',off,none⟩ (l.toNat*P.cellsOf elem)))) 0 (cap-l.toNat),?_,?_⟩
           · have e1:hh'.toNat-l.toNat=0:=by omega
             simp[Instr.sliceAt,Instr.slice,run_underlying hu,hr,Z4 hei,e1]
           · simp only[MV.rep,CV.rep]
             exact⟨_,_,rfl,Nat.zero_le _,.inl ⟨by trivial,by trivial⟩⟩
         · cases h
       · cases h
     · cases h
   · cases h
theorem z65 {t : TypeId} {x : MV} {lo hi mx : Option MV} {v : MV} {ob : List Prop} {y : Value} {rlo rhi rmx : Option Value} (h : z95 P t x lo hi mx = some (v, ob))
    (hob: ∀q∈ob,q) (hx:x.rep I p y) (hl:OptRep I p lo rlo) (hh:OptRep I p hi rhi) (hm:OptRep I p mx rmx) (w:World):
    ∃z,(Instr.sliceAt t y rlo rhi rmx).run P w= .ok z w∧v.rep I p z:=by
 unfold z95 at h
 split at h
 · cases h
 · cases hm
   split at h
   · rename_i hu
     split at h
     · rename_i s
       split at h
       · rename_i l hh' hbl hbh
         cases h
         simp only[List.mem_cons,List.not_mem_nil,or_false,forall_eq]at hob
         obtain⟨o1,o2,o3⟩:=hob
         have:=J2 hx;subst this
         have hr:=z1p (P:=P) (len:=s.size) (cap:=s.size) hbl hbh hl hh rfl o1 o2 o3 false w
         refine⟨_,?_,z1a _⟩
         simp[Instr.sliceAt,Instr.slice,run_underlying hu,hr]
       · cases h
     · cases h
   · rename_i elem hu
     split at h
     · rename_i hty
       obtain⟨ei,hei⟩:=W6 hty
       split at h
       · rename_i b off len sz
         split at h
         · rename_i hsz
           split at h
           · rename_i l hh' hbl hbh
             cases h
             simp only[List.mem_cons,List.not_mem_nil,or_false,forall_eq]at hob
             obtain⟨o1,o2,o3,o4⟩:=hob
             simp only[MV.rep]at hx
             obtain⟨b',κ,cap,h1,rfl,h2,h3⟩:=hx
             have hr:=z1p (P:=P) (len:=len) (cap:=cap) hbl hbh hl hh rfl o1 o2 (by omega) true w
             refine⟨.slice (some ⟨b',off+l.toNat*P.cellsOf elem,none⟩) (hh'-l).toNat (cap-l.toNat),?_,?_⟩
             · have e1:(hh'-l).toNat=hh'.toNat-l.toNat:=by omega
               rw[e1]
               by_cases hc:cap=l.toNat
               · have hl0:l=0:=by omega
                 subst hl0
                 simp at hc
                 subst hc
                 simp[Instr.sliceAt,Instr.slice,run_underlying hu,hr,Z4 hei]
               · have hadd : (⟨b', off, none⟩ : Addr).add (l.toNat * P.cellsOf elem) = ⟨b', off + l.toNat * P.cellsOf elem, none⟩ := by
                   unfold Addr.add;split<;>simp_all
                 simp[Instr.sliceAt,Instr.slice,run_underlying hu,hr,Z4 hei,hc,hadd]
             · simp only[MV.rep]
               refine⟨b',κ,_,h1,rfl,by omega,?_⟩
               have e2:l.toNat*P.cellsOf elem+(cap-l.toNat)*P.cellsOf elem=cap*P.cellsOf elem:=by rw[←Nat.add_mul];congr 1;omega
               subst hsz
               omega
           · cases h
         · cases h
       · rename_i len es
         split at h
         · rename_i l hh' hbl hbh
           cases h
           simp only[List.mem_cons,List.not_mem_nil,or_false,forall_eq_or_imp,forall_eq]at hob
           obtain⟨⟨o1,o2,o3⟩,o4⟩:=hob
           simp only[MV.rep,CV.rep]at hx
           obtain⟨a,cap,rfl,h2,h3⟩:=hx
           have hr:=z1p (P:=P) (len:=len) (cap:=cap) hbl hbh hl hh rfl o1 o2 (by omega) true w
           have e1:(hh'-l).toNat=hh'.toNat-l.toNat:=by omega
           refine⟨.slice (if cap=l.toNat then a else a.map fun x=>x.add (l.toNat*P.cellsOf elem)) (hh'-l).toNat (cap-l.toNat),?_,?_⟩
           · rw[e1]
             simp[Instr.sliceAt,Instr.slice,run_underlying hu,hr,Z4 hei]
           · simp only[MV.rep,CV.rep]
             refine⟨_,_,rfl,by omega,?_⟩
             by_cases hz:(hh'-l).toNat=0
             · exact .inl ⟨by rw[hz];simp,hz⟩
             · rcases h3 with⟨_,h0⟩|⟨b,off,cs,rfl,hb,hrep⟩
               · omega
               · refine .inr ⟨b,off+l.toNat*P.cellsOf elem,cs,?_,hb,?_⟩
                 · rw[if_neg (by omega)]
                   simp only[Option.map_some,Option.some.injEq]
                   unfold Addr.add;split<;>simp_all
                 · have hlen : ((es.drop (l.toNat * P.cellsOf elem)).take ((hh' - l).toNat * P.cellsOf elem)).length = (hh' - l).toNat * P.cellsOf elem := by
                     have e2:l.toNat*P.cellsOf elem+(hh'-l).toNat*P.cellsOf elem≤len*P.cellsOf elem:=by
                      rw[←Nat.add_mul];exact Nat.mul_le_mul_right _ (by omega)
                     rw[List.length_take,List.length_drop,o4];omega
                   rw[hlen]
                   have hh1:=CV.repL_take ((hh'-l).toNat*P.cellsOf elem) (CV.repL_drop (l.toNat*P.cellsOf elem) hrep)
                   rw[List.drop_take,List.take_take,List.drop_drop]at hh1
                   have e3:min ((hh'-l).toNat*P.cellsOf elem) (es.length-l.toNat*P.cellsOf elem)=(hh'-l).toNat*P.cellsOf elem:=by
                    have e2:l.toNat*P.cellsOf elem+(hh'-l).toNat*P.cellsOf elem≤len*P.cellsOf elem:=by
                     rw[←Nat.add_mul];exact Nat.mul_le_mul_right _ (by omega)
                    omega
                   rw[e3]at hh1
                   exact hh1
         · cases h
       · cases h
     · cases h
   · cases h
theorem z5W {t elem : TypeId} {n : Nat} {x : MV} {lo hi mx : Option MV} {e : Eff} {y : Value} {rlo rhi rmx : Option Value} (hu : P.underlying t = some (.array n elem)) (h : z61 P hp n elem x lo hi mx = some e)
    (hob: ∀q∈e.ob,q) (H:HRel w0 hp I p w) (hx:x.rep I p y) (hl:OptRep I p lo rlo) (hh:OptRep I p hi rhi) (hm:OptRep I p mx rmx):
    ∃z,(Instr.sliceAt t y rlo rhi rmx).run P w= .ok z w∧e.v.rep I p z∧e.wr=[]∧e.al=none:=by
 unfold z61 at h
 split at h
 · cases hl
   cases hh
   cases hm
   split at h
   · rename_i hty
     obtain⟨ei,hei⟩:=W6 hty
     split at h
     · rename_i b off
       split at h
       · rename_i cells hc
         cases h
         simp only[List.mem_cons,List.not_mem_nil,or_false,forall_eq]at hob
         obtain⟨b',κ,c,T,h1,h2,h3,h4,_,_⟩:=H.live b cells hc
         simp only[MV.rep]at hx
         obtain⟨b1,κ1,e1,rfl⟩:=hx
         rw[h1]at e1
         simp only[Option.some.injEq,Prod.mk.injEq]at e1
         obtain⟨rfl,rfl⟩:=e1
         have hlen:=MV.repL_length h4
         have hlen2:cells.length≤c.size:=by
          rw[hlen,List.length_take,Array.length_toList];exact Nat.min_le_right _ _
         refine⟨.slice (some ⟨b',off,none⟩) n n,?_,?_,rfl,rfl⟩
         · have hadd:(⟨b',off,none⟩:Addr).add 0=⟨b',off,none⟩:=rfl
           simp[Instr.sliceAt,Instr.sureAddr,run_underlying hu,Instr.sliceBounds,Z4 hei,hadd]
         · simp only[MV.rep]
           exact⟨b',κ,n,h1,rfl,Nat.le_refl _,Nat.le_trans hob (by rw[←h3];exact hlen2)⟩
       · cases h
     · cases h
   · cases h
 · cases h
theorem z40 {or : Option Or} {x : MV} {e : Eff} (h : z1o hp or x = some e) (hob : ∀ q ∈ e.ob, q) (H : HRel w0 hp I p w) {y : Value} (hx : x.rep I p y) {s d el : TypeId}
    (hs:P.underlying s=some (.slice el)) (he:P.underlying el=some (.int .u8)) (hd:P.underlying d=some .string):
    ∃z,(convert s d y).run P w= .ok z w∧e.v.rep I p z∧e.wr=[]∧e.al=none:=by
 have key : ∀ (b off len cap : Nat) (c : Array Value) (T : TypeId) (fz : Nat × Nat) (str : ByteArray), w.heap[b]? = some (.cells c T fz) → str.size = len →
     MV.repL I p (str.data.toList.map fun b=>z14 .u8 (b.toNat:Nat)) ((c.toList.drop off).take len)→
     (convert s d (.slice (some ⟨b,off,none⟩) len cap)).run P w= .ok (.string str) w:=by
  intro b off len cap c T fz str hb hlen hl
  have:=run_convert_bytes_back (P:=P) w s d el ⟨b,off,none⟩ cap str.data.toList hs he hd (fun j hj=>by
   have hadd:(⟨b,off,none⟩:Addr).add j=⟨b,off+j,none⟩:=by unfold Addr.add;split<;>simp_all
   rw[hadd,cell_of_row w b (off+j) c T fz hb]
   obtain⟨y,hy,hr⟩:=MV.repL_get hl (i:=j) (c:=z14 .u8 (str.data.toList[j].toNat:Nat)) (by simp[List.getElem?_eq_getElem hj])
   have:=J2 hr
   subst this
   rw[List.getElem?_take]at hy
   split at hy
   · rw[List.getElem?_drop,Array.getElem?_toList]at hy;exact hy
   · cases hy)
  have hl2:str.data.toList.length=len:=hlen
  rw[hl2]at this
  simpa using this
 unfold z1o at h
 split at h
 · rename_i i off len sz str es
   split at h
   · rename_i cells hi
     cases h
     simp only[List.mem_cons,List.not_mem_nil,or_false,forall_eq_or_imp,forall_eq]at hob
     obtain⟨o1,o2⟩:=hob
     simp only[MV.rep]at hx
     obtain⟨b,κ,cap,h1,rfl,h2,h3⟩:=hx
     obtain⟨b1,κ1,c,T1,g1,g2,g3,g4,g5,g6⟩:=H.live i cells hi
     rw[h1]at g1;cases g1
     refine⟨_,key b off len cap c T1 _ str g2 o2 ?_,z1a _,rfl,rfl⟩
     rw[←o1]
     have hh:=MV.repL_take len (MV.repL_drop off g4)
     have hlen:((cells.drop off).take len).length=len:=by rw[o1,List.length_map,Array.length_toList];exact o2
     rw[List.drop_take,List.take_take]at hh
     have:min len (cells.length-off)=len:=by simp at hlen;omega
     rw[this]at hh;exact hh
   · cases h
 · rename_i n es str es'
   cases h
   simp only[List.mem_cons,List.not_mem_nil,or_false,forall_eq_or_imp,forall_eq]at hob
   obtain⟨o1,o2⟩:=hob
   simp only[MV.rep,CV.rep]at hx
   obtain⟨a,cap,rfl,h2,h3⟩:=hx
   rcases h3 with⟨h4,h5⟩|⟨b,off,cs,rfl,hb,hl⟩
   · subst h5
     have hs0:str= .empty:=by
      have h6:str.data.size=0:=o2
      have h7:str.data= #[]:=Array.eq_empty_of_size_eq_zero h6
      cases str;simp at h7;subst h7;rfl
     subst hs0
     cases a with
     |none=>exact⟨_,by rw[run_convert_bytes_string w s d el _ _ _ hs he hd];simp[Conv.bytesToString],z1a _,rfl,rfl⟩
     |some a=>
      refine⟨_,?_,z1a _,rfl,rfl⟩
      exact run_convert_bytes_back (P:=P) w s d el a cap [] hs he hd (fun j hj=>by simp at hj)
   · obtain⟨c,T1,fz,g1,g2⟩:=H.im b cs hb
     refine⟨_,key b off n cap c T1 _ str g1 o2 ?_,z1a _,rfl,rfl⟩
     have e1:(str.data.toList.map fun b=>z14 .u8 (b.toNat:Nat))=es.map .cv:=by rw[o1,List.map_map];rfl
     rw[e1,MV.repL_map_cv,g2]
     have:es.length=n:=by rw[o1,List.length_map,Array.length_toList];exact o2
     rw[this]at hl;exact hl
 · cases h
theorem z35 {T : TypeId} {l c : MV} {e : Eff} {lv cv : Value} (h : z0L P slot T l c = some e) (hob : ∀ q ∈ e.ob, q) (H : HRel w0 hp I p w) (hl : l.rep I p lv) (hc : c.rep I p cv)
    (hs:hp[slot]?=some none) (hp0:p slot=none):
    ∃z w',(Instr.makeSlice T lv cv).run P w= .ok z w'∧Post w0 (Z5 hp slot e) I p slot e.al.isSome e.v z w':=by
 unfold z0L at h
 split at h
 · rename_i elem k1 a k2 b hu
   split at h
   · rename_i zero hz
     cases h
     simp only[List.mem_cons,List.not_mem_nil,or_false,forall_eq]at hob
     obtain⟨o1,o2,o3,o4,o5⟩:=hob
     have:=J2 hl;subst this
     have:=J2 hc;subst this
     obtain⟨it,zv,h1,h2,rfl⟩:=Z8 hz
     have hr:=run_make (P:=P) w T elem it zv hu h1 h2 k1 k2 a b o1 o2 (by rw[←z1c h1];omega) (by omega)
     rw[←Q6 h1]at hr
     refine⟨_,_,hr,?_⟩
     have hrep:=z2q (I:=I) (p:=p) (z:=zv) (b.toNat*P.cellsOf elem) (by
      by_cases hz0:P.cellsOf elem=0
      · exact .inl (by rw[hz0];simp)
      · right
        simp at o5
        omega)
     refine Post.alloc H hs hp0 (by exact z1Z hrep) elem (v:= .sl slot 0 a.toNat (P.cellsOf elem)) (fun q hq hqs=>?_)
     simp only[MV.rep]
     refine⟨_,_,b.toNat,hqs,rfl,by omega,?_⟩
     rw[size_madeCells];simp
   · cases h
 · cases h
end
section
variable{P:Program}{w0:Start}{w:World}{hp:List Blk}{I:Imm}{p:Pl}{slot:Nat}
theorem zaK(b o k:Nat):(⟨b,o,none⟩:Addr).add k=⟨b,o+k,none⟩:=by unfold Addr.add;split<;>simp_all
theorem HRel.rename (h : HRel w0 hp I p w) {i : Nat} {cs : List MV} (hi : hp[i]? = some (some cs)) {b κ : Nat} (hb : p i = some (b, κ)) (hs : hp[slot]? = some none) (hp0 : p slot = none) :
    HRel w0 ((hp.set i none).set slot (some cs)) I (p.upd slot (b,κ)) w:=by
 have hle:p.le (p.upd slot (b,κ)):=Pl.le_upd hp0 _
 have hne:i≠slot:=by intro e;subst e;rw[hi]at hs;cases hs
 have hlt:slot<hp.length:=(List.getElem?_eq_some_iff.1 hs).1
 have key: ∀(k:Nat) (ck:List MV),((hp.set i none).set slot (some cs))[k]?=some (some ck)→(k=slot∧ck=cs)∨(k≠slot∧k≠i∧hp[k]?=some (some ck)):=by
  intro k ck hk
  rw[List.getElem?_set]at hk
  by_cases e:slot=k
  · subst e
    simp only[if_true]at hk
    split at hk
    · cases hk;exact .inl ⟨rfl,rfl⟩
    · cases hk
  · simp only[e,if_false]at hk
    rw[List.getElem?_set]at hk
    by_cases e2:i=k
    · subst e2
      simp only[if_true]at hk
      split at hk<;>cases hk
    · simp only[e2,if_false]at hk
      exact .inr ⟨fun e=> ‹¬slot=k› e.symm,fun e=>e2 e.symm,hk⟩
 refine⟨h.below,h.im,h.imf,fun k ck hk=>?_,fun k j ck cj x κ1 x' κ2 hk hj hne2 hx hx'=>?_⟩
 · rcases key k ck hk with⟨rfl,rfl⟩|⟨h1,h2,h3⟩
   · obtain⟨b1,κ1,c,T,g1,g2,g3,g4,g5,g6⟩:=h.live i ck hi
     rw[hb]at g1;cases g1
     exact⟨b,κ,c,T,by simp[Pl.upd],g2,g3,MV.repL_mono I.le_refl hle _ _ g4,g5,g6⟩
   · obtain⟨b1,κ1,c,T,g1,g2,g3,g4,g5,g6⟩:=h.live k ck h3
     exact⟨b1,κ1,c,T,hle _ _ g1,g2,g3,MV.repL_mono I.le_refl hle _ _ g4,g5,g6⟩
 · have back : ∀ (k : Nat) (ck : List MV) (x κ1 : Nat), ((hp.set i none).set slot (some cs))[k]? = some (some ck) → p.upd slot (b, κ) k = some (x, κ1) →
       ∃k',(k'=if k=slot then i else k)∧hp[k']?=some (some ck)∧p k'=some (x,κ1):=by
     intro k ck x κ1 hk hx
     rcases key k ck hk with⟨rfl,rfl⟩|⟨h1,h2,h3⟩
     · unfold Pl.upd at hx;rw[if_pos rfl]at hx;cases hx
       exact⟨i,by simp,hi,hb⟩
     · unfold Pl.upd at hx;rw[if_neg h1]at hx
       exact⟨k,by simp[h1],h3,hx⟩
   obtain⟨k',ek,hk',hxk⟩:=back k ck x κ1 hk hx
   obtain⟨j',ej,hj',hxj⟩:=back j cj x' κ2 hj hx'
   refine h.inj k' j' ck cj x κ1 x' κ2 hk' hj' ?_ hxk hxj
   intro e
   rcases key k ck hk with⟨h1,_⟩|⟨h1,h2,_⟩<;>rcases key j cj hj with⟨h3,_⟩|⟨h3,h4,_⟩<;>simp_all
theorem z6A{i:Nat}(hs:hp[slot]?=some none)(_hne:i≠slot):(hp.set i none)[slot]?=some none:=by
 rw[List.getElem?_set]
 split
 · split
   · rfl
   · rename_i h1 h2;exact absurd (by rw[h1];exact(List.getElem?_eq_some_iff.1 hs).1) h2
 · exact hs
theorem z1R{t:TypeId}{s x:MV}{e:Eff}(h:z17 P hp slot t s x=some e): ∃elem i off len sz cells,P.underlying t=some (.slice elem)∧(Z6 P elem).isSome=true∧x= .cv (.lit (.slice none 0 0))∧s= .sl i off len sz∧hp[i]?=some (some cells)∧e=⟨.sl slot off len sz,[],[(i,none)],some cells,[]⟩:=by
 unfold z17 at h
 split at h
 · rename_i elem i off len sz hu
   split at h
   · rename_i cells hi
     split at h
     · rename_i hz
       cases h
       exact⟨elem,i,off,len,sz,cells,hu,hz,rfl,rfl,hi,rfl⟩
     · cases h
   · cases h
 · cases h
theorem z5R {t : TypeId} {s x : MV} {e : Eff} {sv xv : Value} (h : z17 P hp slot t s x = some e) (H : HRel w0 hp I p w) (hs : s.rep I p sv) (hx : x.rep I p xv) (hsl : hp[slot]? = some none) (hp0 : p slot = none) (ty : TypeId) :
    (Builtin.append_ #[t,t] ty #[sv,xv]).run P w= .ok sv w∧Post w0 (Z5 hp slot e) I p slot e.al.isSome e.v sv w:=by
 obtain⟨elem,i,off,len,sz,cells,hu,hz,rfl,rfl,hi,rfl⟩:=z1R h
 obtain⟨zc,hzc⟩:=Option.isSome_iff_exists.1 hz
 obtain⟨ie,zv,hie,hzv,rfl⟩:=Z8 hzc
 have:=J2 hx;subst this
 simp only[MV.rep]at hs
 obtain⟨b,κ,cap,h1,rfl,h2,h3⟩:=hs
 refine⟨?_,I,p.upd slot (b,κ),I.le_refl,Pl.le_upd hp0 _,fun j hj=>by simp[Pl.upd,hj],(fun hh=>by cases hh),H.rename (i:=i) (slot:=slot) hi h1 hsl hp0,?_⟩
 · simp[Builtin.append_,run_underlying hu,sizeOf,typeInfo,hie,Builtin.lenOf,h2,Builtin.firstCells,storeCells]
 · simp only[MV.rep]
   exact⟨b,κ,cap,by simp[Pl.upd],rfl,h2,h3⟩
theorem z5b {t : TypeId} {s x : MV} {e : Eff} {sv xv : Value} (h : z1g P hp slot t s x = some e) (hob : ∀ q ∈ e.ob, q) (H : HRel w0 hp I p w) (hs : s.rep I p sv) (hx : x.rep I p xv)
    (hsl:hp[slot]?=some none) (hp0:p slot=none) (ty:TypeId):
    ∃z w',(Builtin.append_ #[t,t] ty #[sv,xv]).run P w= .ok z w'∧Post w0 (Z5 hp slot e) I p slot e.al.isSome e.v z w':=by
 unfold z1g at h
 split at h
 rotate_left 1
 · cases h
 rename_i elem hu
 dsimp only at h
 split at h
 · cases h
 rename_i hcond
 simp only[Bool.not_eq_true']at hcond
 have hcond':z13 P elem=true∧(Z6 P elem).isSome=true∧((Z6 P elem).getD []).length=P.cellsOf elem∧0<P.cellsOf elem:=by
  clear h
  revert hcond
  cases z13 P elem<;>cases(Z6 P elem).isSome<;>simp
  intro h1 h2
  exact⟨h1,by omega⟩
 obtain⟨_,hz1,hz2,hpos⟩:=hcond'
 obtain⟨zc,hzc⟩:=Option.isSome_iff_exists.1 hz1
 rw[hzc]at hz2
 obtain⟨ie,zv,hie,hzv,rfl⟩:=Z8 hzc
 have hzs:zv.cells.size=P.cellsOf elem:=by simpa using hz2
 split at h
 · cases h
 rename_i new n js ob hsrc
 have src:(∀q∈ob,q)→ ∃a c news,xv= .slice (some a) n c∧news.length=n*P.cellsOf elem∧MV.repL I p new news∧(∀j u,news[j]?=some u→w.cell? (a.add j)=some u):=by
  intro hob'
  unfold zen at hsrc
  split at hsrc
  · rename_i j o n' sz'
    split at hsrc
    · rename_i cells hj
      split at hsrc
      · cases hsrc
        simp only[List.mem_cons,List.not_mem_nil,or_false,forall_eq]at hob'
        simp only[MV.rep]at hx
        obtain⟨b,κ,cap,h1,rfl,h2,h3⟩:=hx
        obtain⟨b1,κ1,c,T1,g1,g2,g3,g4,g5,g6⟩:=H.live j cells hj
        rw[h1]at g1;cases g1
        have hh:=MV.repL_take (n*P.cellsOf elem) (MV.repL_drop o g4)
        rw[List.drop_take,List.take_take]at hh
        have e1:min (n*P.cellsOf elem) (cells.length-o)=n*P.cellsOf elem:=by simp at hob';omega
        rw[e1]at hh
        refine⟨⟨b,o,none⟩,cap,_,rfl,by rw[←MV.repL_length hh];exact hob',hh,fun k u hk=>?_⟩
        have hadd:(⟨b,o,none⟩:Addr).add k=⟨b,o+k,none⟩:=by unfold Addr.add;split<;>simp_all
        rw[hadd,cell_of_row w b (o+k) c T1 _ g2]
        rw[List.getElem?_take]at hk
        split at hk
        · rw[List.getElem?_drop,Array.getElem?_toList]at hk;exact hk
        · cases hk
      · cases hsrc
    · cases hsrc
  · rename_i n' es
    cases hsrc
    simp only[List.mem_cons,List.not_mem_nil,or_false,forall_eq_or_imp,forall_eq]at hob'
    obtain⟨o1,o2⟩:=hob'
    simp only[MV.rep,CV.rep]at hx
    obtain⟨a,cap,rfl,h2,h3⟩:=hx
    rcases h3 with⟨_,h0⟩|⟨b,off,cs,rfl,hb,hl⟩
    · omega
    · obtain⟨c,T1,fz,g1,g2⟩:=H.im b cs hb
      refine⟨_,cap,_,rfl,by rw[←CV.repL_length hl];exact o1,(MV.repL_map_cv _ _).2 hl,fun k u hk=>?_⟩
      have hadd:(⟨b,off,none⟩:Addr).add k=⟨b,off+k,none⟩:=by unfold Addr.add;split<;>simp_all
      rw[hadd,cell_of_row w b (off+k) c T1 _ g1]
      rw[List.getElem?_take]at hk
      split at hk
      · rw[List.getElem?_drop,←g2,Array.getElem?_toList]at hk;exact hk
      · cases hk
  · cases hsrc
 clear hsrc
 have grownCap_ge': ∀(need old:Nat),need≤grownCap w need old elem:=fun need old=>grownCap_ge w need old elem
 split at h
 · -- nil
   cases h
   have hob2:n*P.bytesOf elem≤1099511627776∧n≤1099511627776∧0<n∧(∀q∈ob,q):=by
    refine⟨hob _ (by simp),hob _ (by simp),hob _ (by simp),fun q hq=>hob q (by simp[hq])⟩
   obtain⟨o1,o2,o3,o4⟩:=hob2
   obtain⟨a,c,news,rfl,hlen,hrep,hcell⟩:=src o4
   have:=J2 hs;subst this
   have hr:=run_append_nil (P:=P) w t ty elem ie zv hu hie hzv a n c news (by rw[hlen,Q6 hie]) hcell o3 (by omega) (by rw[←z1c hie];omega)
   refine⟨_,_,hr,?_⟩
   refine Post.alloc (w:=w.drew) H.drew hsl hp0 (cells:=new) ?_ elem (fun q hq hqs=>?_)
   · have : (news.toArray ++ Builtin.zeroCells zv.cells (grownCap w n 0 elem - n)).toList.take new.length = news := by
       rw[MV.repL_length hrep];simp
     rw[this];exact hrep
   · simp only[MV.rep]
     refine⟨_,_,grownCap w n 0 elem,hqs,rfl,grownCap_ge' _ _,?_⟩
     have:=grownCap_ge' n 0
     simp only[Array.size_append,List.size_toArray,size_zeroCells,hzs,hlen,←Nat.add_mul]
     exact Nat.le_of_eq (by rw[Nat.zero_add];congr 1;omega)
 · -- a slice of the function's own
   rename_i i len sz'
   split at h
   rotate_left 1
   · cases h
   rename_i cells hi
   split at h
   rotate_left 1
   · cases h
   rename_i hc2
   simp only[Bool.and_eq_true,decide_eq_true_eq]at hc2
   obtain⟨hsz,hjs⟩:=hc2
   subst hsz
   cases h
   have hob2:(len+n)*P.bytesOf elem≤1099511627776∧len+n≤1099511627776∧cells.length=len*P.cellsOf elem∧zdi new∧(∀q∈ob,q):=
    ⟨hob _ (by simp),hob _ (by simp),hob _ (by simp),hob _ (by simp),fun q hq=>hob q (by simp[hq])⟩
   obtain⟨o1,o2,o3,o4,o5⟩:=hob2
   obtain⟨a,c',news,rfl,hlen,hrep,hcell⟩:=src o5
   simp only[MV.rep]at hs
   obtain⟨b,κ,cap,h1,rfl,h2,h3⟩:=hs
   obtain⟨b1,κ1,c,T1,g1,g2,g3,g4,g5,g6⟩:=H.live i cells hi
   rw[h1]at g1;cases g1
   have hne:i≠slot:=by intro e;subst e;rw[hi]at hsl;cases hsl
   have hcl:=MV.repL_length g4
   have hnl:=MV.repL_length hrep
   have hcc:cells.length≤c.size:=by simp at hcl;omega
   by_cases hroom:len+n≤cap
   · -- there is room
     have hfit:len*P.cellsOf elem+news.length≤c.size:=by
      rw[hlen,←Nat.add_mul,g3]
      exact Nat.le_trans (Nat.mul_le_mul_right _ hroom) (by omega)
     have hf:=run_firstCells_some (P:=P) w ie.size n a n c' news (by rw[hlen,Q6 hie]) hcell
     have hst:=run_storeCells_at P b (len*ie.size) T1 news 0 c w g2 (by rw[←Q6 hie];simpa using hfit) (z3O hrep o4)
     simp only[Nat.add_zero]at hst
     refine⟨_,_,by simp[Builtin.append_,run_underlying hu,sizeOf,typeInfo,hie,Builtin.lenOf,hroom,hf,Addr.add_lit,hst];exact⟨rfl,rfl⟩,?_⟩
     rw[←Q6 hie]
     have H1:=H.write (w':=w.setRow b (c.toList.take (len*P.cellsOf elem)++(news++c.toList.drop (len*P.cellsOf elem+news.length))).toArray) (new:=cells++new) hi h1 (setRow_heap w b c _ T1 _ g2)
      (by simp;omega) (by
       have:(c.toList.take (len*P.cellsOf elem)++(news++c.toList.drop (len*P.cellsOf elem+news.length))).toArray.toList.take (cells++new).length=c.toList.take cells.length++news:=by
        simp only[List.length_append]
        rw[o3,hnl,←List.append_assoc]
        exact List.take_left' (by simp;omega)
       rw[this];exact MV.repL_append g4 hrep) (by simp) (fun k hk=>setRow_other w b k _ hk) rfl rfl rfl
     have hset:(hp.set i (some (cells++new)))[slot]?=some none:=by rw[List.getElem?_set,if_neg hne];exact hsl
     have H2:=H1.rename (i:=i) (slot:=slot) (by rw[List.getElem?_set,if_pos rfl,if_pos (List.getElem?_eq_some_iff.1 hi).1]) h1 hset hp0
     rw[List.set_set]at H2
     refine⟨I,p.upd slot (b,κ),I.le_refl,Pl.le_upd hp0 _,fun j hj=>by simp[Pl.upd,hj],(fun hh=>by cases hh),H2,?_⟩
     simp only[MV.rep]
     exact⟨b,κ,cap,by simp[Pl.upd],rfl,hroom,h3⟩
   · -- it grows
     have holds: ∀j u,(c.toList.take cells.length)[j]?=some u→w.cell? ((⟨b,0,none⟩:Addr).add j)=some u:=by
      intro j u hj
      have hadd:(⟨b,0,none⟩:Addr).add j=⟨b,j,none⟩:=by rw[zaK,Nat.zero_add]
      rw[hadd,cell_of_row w b j c T1 _ g2]
      rw[List.getElem?_take]at hj
      split at hj
      · rw[Array.getElem?_toList]at hj;exact hj
      · cases hj
     have hr:=run_append_grow (P:=P) w t ty elem ie zv hu hie hzv ⟨b,0,none⟩ len cap (c.toList.take cells.length) (by rw[←hcl,o3,Q6 hie]) holds a n c' news (by rw[hlen,Q6 hie]) hcell
      (by omega) (by omega) (growslice_fits (by omega) (by rw[←z1c hie];omega))
     refine⟨_,_,hr,?_⟩
     refine Post.alloc (w:=w.drew) (H.drew.kill i) (z6A hsl hne) hp0 (cells:=cells++new) ?_ elem (fun q hq hqs=>?_)
     · have : ((c.toList.take cells.length).toArray ++ news.toArray ++ Builtin.zeroCells zv.cells (grownCap w (len + n) cap elem - (len + n))).toList.take (cells ++ new).length = c.toList.take cells.length ++ news := by
         simp only[Array.toList_append,List.length_append]
         exact List.take_left' (by simp;omega)
       rw[this];exact MV.repL_append g4 hrep
     · simp only[MV.rep]
       refine⟨_,_,grownCap w (len+n) cap elem,hqs,rfl,grownCap_ge' _ _,?_⟩
       have:=grownCap_ge' (len+n) cap
       have e2:(c.toList.take cells.length).length=len*P.cellsOf elem:=by rw[←hcl,o3]
       simp only[Array.size_append,List.size_toArray,size_zeroCells,hzs,hlen,e2,←Nat.add_mul]
       exact Nat.le_of_eq (by rw[Nat.zero_add];congr 1;omega)
 · cases h
end
end Go.Fw
