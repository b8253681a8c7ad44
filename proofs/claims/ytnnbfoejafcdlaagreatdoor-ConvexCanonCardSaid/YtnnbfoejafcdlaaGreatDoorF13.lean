import Derived.Test.YtnnbfoejafcdlaaGreatDoorF9
import Derived.Test.YtnnbfoejafcdlaaGreatDoorF12
import Derived.Test.YtnnbfoejafcdlaaGreatDoorF7
set_option linter.unusedVariables false
open Go.IntKind (i64 u64 u32)
namespace Go.bJ
theorem uc (a:Addr)(m n:Nat):(a.add m).add n=a.add (m+n):=by
 unfold Addr.add
 by_cases h1:m=0
 ·subst h1;simp
 ·by_cases h2:n=0
  ·subst h2;simp [h1]
  ·rw [if_neg h1,if_neg h2,if_neg (by omega)]
   simp only [Nat.add_assoc]
variable {α:Type} {sz:Nat} {R:View->Value->α->Prop} {V V':View}
structure Row (sz:Nat) (R:View->Value->α->Prop) (V:View) (vs:List Value) (al:List α):Prop where
 at_:∀(i:Nat)(h:i<al.length),∃xs:List Value,xs.length=sz/\R V (.agg xs.toArray) al[i]/\∀j x,xs[j]?=some x->vs[i*sz+j]?=some x
structure cG (sz:Nat) (R:View->Value->α->Prop) (V:View) (p:OA) (n:Nat) (al:List α):Prop where
 len:n=al.length
 at_:∀(i:Nat)(h:i<al.length),∃ad,ah p (i*sz)=some ad/\∃xs:List Value,xs.length=sz/\R V (.agg xs.toArray) al[i]/\∀j x,xs[j]?=some x->V.at (ad.add j) x
theorem Row.nil {vs:List Value}:Row sz R V vs []:=⟨fun i h=>absurd h (Nat.not_lt_zero i)⟩
theorem cG.nil {p:OA}:cG sz R V p 0 []:=⟨rfl,fun i h=>absurd h (Nat.not_lt_zero i)⟩
theorem Row.le {vs:List Value}{al:List α}(h:Row sz R V vs al)(m:∀v a,R V v a->R V' v a):Row sz R V' vs al:=
 ⟨fun i hi=>by obtain ⟨xs,h1,h2,h3⟩:=h.at_ i hi;exact ⟨xs,h1,m _ _ h2,h3⟩⟩
theorem cG.le {p:OA}{n:Nat}{al:List α}(h:cG sz R V p n al)(l:V.Le V')(m:∀v a,R V v a->R V' v a):cG sz R V' p n al:=
 ⟨h.len,fun i hi=>by obtain ⟨ad,h0,xs,h1,h2,h3⟩:=h.at_ i hi;exact ⟨ad,h0,xs,h1,m _ _ h2,fun j x hx=>l.at (h3 j x hx)⟩⟩
theorem Row.iL {vs:List Value}{al:List α}(h:Row sz R V vs al)(hs:0<sz):al.length*sz<=vs.length:=by
 by_cases h0:al.length=0
 ·rw [h0];omega
 ·obtain ⟨xs,h1,-,h3⟩:=h.at_ (al.length-1) (by omega)
  have hx:sz-1<xs.length:=by omega
  have:=(List.getElem?_eq_some_iff.1 (h3 (sz-1) _ (List.getElem?_eq_getElem hx))).1
  have e:al.length*sz=(al.length-1)*sz+sz:=by
   obtain ⟨m,hm⟩:∃m,al.length=m+1:=⟨al.length-1,by omega⟩
   rw [hm,Nat.add_sub_cancel,Nat.succ_mul]
  omega
theorem Row.snoc {vs:List Value}{al:List α}(h:Row sz R V vs al){xs sp:List Value}{a:α}(hx:xs.length=sz)(ha:R V (.agg xs.toArray) a)(hs:0<sz) :
  Row sz R V (vs.take (al.length*sz)++xs++sp) (al++[a]):=by
 have hl:=h.iL hs
 have ht:(vs.take (al.length*sz)).length=al.length*sz:=by rw [List.length_take];omega
 refine ⟨fun i hi=>?_⟩
 rw [List.length_append,List.length_singleton] at hi
 by_cases e:i=al.length
 ·subst e
  refine ⟨xs,hx,by rw [List.getElem_append_right (Nat.le_refl _)];simpa using ha,fun j x hj=>?_⟩
  have hj':=(List.getElem?_eq_some_iff.1 hj).1
  rw [List.append_assoc,List.getElem?_append_right (by rw [ht];omega),ht,Nat.add_sub_cancel_left,List.getElem?_append_left hj']
  exact hj
 ·have hi':i<al.length:=by omega
  obtain ⟨ys,y1,y2,y3⟩:=h.at_ i hi'
  refine ⟨ys,y1,by rw [List.getElem_append_left hi'];exact y2,fun j x hj=>?_⟩
  have hj':=(List.getElem?_eq_some_iff.1 hj).1
  have hlt:i*sz+j<al.length*sz:=by
   have:(i+1)*sz<=al.length*sz:=Nat.mul_le_mul_right _ hi'
   rw [Nat.succ_mul] at this
   omega
  rw [List.append_assoc,List.getElem?_append_left (by rw [ht];exact hlt),List.getElem?_take,if_pos hlt]
  exact y3 j x hj
theorem cG.Jt {bk:Nat}{ty:TypeId}{m:Nat×Nat}{vs:List Value}{al:List α}(hb:V.bD bk (.cells vs.toArray ty m))(h:Row sz R V vs al):cG sz R V (some ⟨bk,0,none⟩) al.length al:=by
 refine ⟨rfl,fun i hi=>?_⟩
 obtain ⟨xs,h1,h2,h3⟩:=h.at_ i hi
 refine ⟨⟨bk,i*sz,none⟩,by simp [ah,add_zero'],xs,h1,h2,fun j x hj=>?_⟩
 have e:(⟨bk,i*sz,none⟩:Addr).add j=⟨bk,i*sz+j,none⟩:=by rw [←add_zero',uc,add_zero']
 rw [e]
 exact fH hb (h3 j x hj)
theorem cG.eH {bk c:Nat}{ty:TypeId}{m:Nat×Nat}{vs:List Value}{al:List α}(hb:vs≠[]->V.bD bk (.cells vs.toArray ty m))(h:Row sz R V vs al)(hs:0<sz)(hc:al.length<=c):cG sz R V (mA bk c) al.length al:=by
 cases al with
 | nil=>exact cG.nil
 | cons a r=>
  have hne:vs≠[]:=fun e=>by
   have:=h.iL hs
   rw [e,List.length_cons,Nat.succ_mul] at this
   simp at this;omega
  have:mA bk c=some ⟨bk,0,none⟩:=by unfold mA;rw [if_neg];rw [List.length_cons] at hc;omega
  rw [this]
  exact cG.Jt (hb hne) h
end Go.bJ
namespace Go.bJ
open Go.Proofs.Tryz
variable {α:Type} {sz:Nat} {R:View->Value->α->Prop} {V V':View} {d:α}
theorem Row.get {vs:List Value}{al:List α}(h:Row sz R V vs al){i:Nat}(hi:i<al.length)(hs:0<sz) :
  ∃xs:List Value,xs.length=sz/\R V (.agg xs.toArray) (al.getD i d)/\i*sz+sz<=vs.length/\(vs.drop (i*sz)).take sz=xs:=by
 obtain ⟨xs,h1,h2,h3⟩:=h.at_ i hi
 have hl:=h.iL hs
 have:(i+1)*sz<=al.length*sz:=Nat.mul_le_mul_right _ hi
 rw [Nat.succ_mul] at this
 refine ⟨xs,h1,by simpa [List.getD_eq_getElem?_getD,hi] using h2,by omega,?_⟩
 apply List.ext_getElem?
 intro j
 rw [List.getElem?_take]
 split
 ·rename_i hj
  rw [List.getElem?_drop]
  have hx:j<xs.length:=by omega
  rw [h3 j _ (List.getElem?_eq_getElem hx),List.getElem?_eq_getElem hx]
 ·rename_i hj
  rw [List.getElem?_eq_none (by omega)]
theorem Row.put {vs:List Value}{al:List α}(h:Row sz R V vs al){i:Nat}(hi:i<al.length)(hs:0<sz){xs:List Value}{a:α}(hx:xs.length=sz)(ha:R V (.agg xs.toArray) a) :
  Row sz R V (cF vs (i*sz) xs) (al.set i a):=by
 have hl:=h.iL hs
 have h9:∀k,k<al.length->k*sz+sz<=vs.length:=fun k hk=>by
  have:(k+1)*sz<=al.length*sz:=Nat.mul_le_mul_right _ hk
  rw [Nat.succ_mul] at this
  omega
 have hi9:=h9 i hi
 rw [lB (by omega)]
 have ht:(vs.take (i*sz)).length=i*sz:=by rw [List.length_take];omega
 refine ⟨fun k hk=>?_⟩
 rw [List.length_set] at hk
 by_cases e:k=i
 ·subst e
  refine ⟨xs,hx,by simpa using ha,fun j x hj=>?_⟩
  have hj':=(List.getElem?_eq_some_iff.1 hj).1
  rw [List.append_assoc,List.getElem?_append_right (by omega),ht,Nat.add_sub_cancel_left,List.getElem?_append_left hj']
  exact hj
 ·obtain ⟨ys,y1,y2,y3⟩:=h.at_ k hk
  refine ⟨ys,y1,by rw [List.getElem_set_ne (fun e'=>e e'.symm)];exact y2,fun j x hj=>?_⟩
  have hj':=(List.getElem?_eq_some_iff.1 hj).1
  by_cases lt:k<i
  ·have:(k+1)*sz<=i*sz:=Nat.mul_le_mul_right _ lt
   rw [Nat.succ_mul] at this
   rw [List.append_assoc,List.getElem?_append_left (by omega),List.getElem?_take,if_pos (by omega)]
   exact y3 j x hj
  ·have:(i+1)*sz<=k*sz:=Nat.mul_le_mul_right _ (by omega)
   rw [Nat.succ_mul] at this
   rw [List.getElem?_append_right (by rw [List.length_append];omega),List.length_append,ht,hx,List.getElem?_drop]
   rw [show i*sz+sz+(k*sz+j-(i*sz+sz))=k*sz+j by omega]
   exact y3 j x hj
theorem mB {vs xs:List Value}{o:Nat}(h:o+xs.length<=vs.length):(cF vs o xs).length=vs.length:=by
 rw [lB h];simp only [List.length_append,List.length_take,List.length_drop];omega
theorem Row.swap {vs:List Value}{al:List α}(h:Row sz R V vs al){i j:Nat}(hi:i<al.length)(hj:j<al.length)(hs:0<sz){xs ys:List Value}(hx:xs.length=sz)(hy:ys.length=sz)(h1:R V (.agg xs.toArray) (al.getD i d))(h2:R V (.agg ys.toArray) (al.getD j d)) :
  Row sz R V (cF (cF vs (i*sz) ys) (j*sz) xs) (sC d al i j):=by
 have:=h.put hi hs hy h2
 exact this.put (by simpa using hj) hs hx h1
end Go.bJ
namespace Go.Proofs.Tryz
open Go.bJ Go.fo
section
variable {α:Type} (e:α->α->Bool)
def Au:α->List α->List α
 | _,[]=>[]
 | p,a::r=>if e a p then Au a r else a::Au a r
def xC:List α->List α
 | []=>[]
 | a::r=>a::Au e a r
variable {e}
theorem uJ:∀{r:List α} {p:α},∀x∈Au e p r,x∈r
 | [],p,x,h=>h
 | b::r,p,x,h=>by
  unfold Au at h
  split at h
  ·exact List.mem_cons_of_mem _ (uJ x h)
  ·rcases List.mem_cons.1 h with rfl|h
   ·exact List.mem_cons_self ..
   ·exact List.mem_cons_of_mem _ (uJ x h)
theorem Ip {l:List α}:∀x∈xC e l,x∈l:=by
 cases l with
 | nil=>exact fun x h=>h
 | cons a r=>
  intro x h
  rcases List.mem_cons.1 h with rfl|h
  ·exact List.mem_cons_self ..
  ·exact List.mem_cons_of_mem _ (uJ x h)
end
end Go.Proofs.Tryz
namespace Go.bJ
open Go.Proofs.Tryz
section
variable {α:Type} {sz:Nat} {R:View->Value->α->Prop} {V:View} {d:α}
end
end Go.bJ
namespace Go.Proofs.Tryz
open Go.bJ Go.fo
def RA (V:View)(v:Value)(q:Rat):Prop:=∃p n c p' n' c',v=.agg #[.bool (decide (q.num<0)),.slice p n c,.slice p' n' c']/\RD V p n c (ag q.num.natAbs)/\RD V p' n' c' (ag q.den)
theorem RA.le {V V':View}{v:Value}{q:Rat}(h:RA V v q)(l:V.Le V'):RA V' v q:=by
 obtain ⟨p,n,c,p',n',c',e,h1,h2⟩:=h
 exact ⟨p,n,c,p',n',c',e,h1.le l,h2.le l⟩
theorem oh {V:View}(b:Bool){p q:OA}{n c m e:Nat}{xs ys:List Nat}(hx:RD V p n c xs)(hy:RD V q m e ys)(hm:xs.length<=1099511627776)(hn:ys.length<=1099511627776) :
  ab prog 170 #[.agg #[.bool b,.slice p n c,.slice q m e]] V fun r V'=>RR V' r (mkRat (aX b xs) (val ys)):=by
 refine Fe b p n c q m e V _ fun V1 l1=>(cq b (hx.le l1) (hy.le l1) hm hn).mono ?_
 rintro r V2 l2 h
 obtain ⟨u,v,w,rfl⟩:=h.shape
 exact ⟨_,_,_,rfl,fun V3 l3=>h.le l3⟩
theorem yY {V:View}{v:Value}{q:Rat}(h:RA V v q){k:Nat}(hs:Sz k q)(hk:k<=1099511627776):ab prog 170 #[v] V fun r V'=>RR V' r q:=by
 obtain ⟨p,n,c,p',n',c',rfl,h1,h2⟩:=h
 have q1:=af hs.1
 have q2:=af hs.2
 refine (oh _ h1 h2 (by omega) (by omega)).mono ?_
 rintro r V' _ h
 rw [aF,ae,Rat.mkRat_self] at h
 exact h
theorem Ah {V:View}{v:Value}{q:Rat}(h:RR V v q){k:Nat}(hs:Sz k q)(hk:k<=1099511627776):ab prog 83 #[v] V fun r V'=>RA V' r q:=by
 have h0:=h
 obtain ⟨r0,r1,r2,rfl⟩:=h.shape
 refine xO r0 r1 r2 V _ fun V1 l1=>(fg (h0.le l1) hs hk).mono ?_
 rintro r V2 l2 ⟨p1,n1,c1,rfl,g1⟩
 refine ⟨_,_,_,_,rfl,fun V3 l3=>(eC (h0.le (l1.trans (l2.trans l3))) hs hk).mono ?_⟩
 rintro r V4 l4 ⟨p2,n2,c2,rfl,g2⟩
 exact ⟨_,_,_,rfl,fun V5 l5=>⟨_,_,_,_,_,_,rfl,g1.le (l3.trans (l4.trans l5)),g2.le l5⟩⟩
theorem fa {V:View}{v w:Value}{x y:Rat}(hx:RR V v x)(hy:RR V w y){k m:Nat}(hk:Sz k x)(hm:Sz m y)(hkm:k+m<1099511627776) :
  ab prog 184 #[v,w] V fun r V'=>RR V' r (x*y):=by
 obtain ⟨r0,r1,r2,rfl⟩:=hx.shape
 obtain ⟨s0,s1,s2,rfl⟩:=hy.shape
 have hxy:x*y=mkRat (x.num*y.num) (x.den*y.den):=Rat.mul_def' x y
 have b1:(x.num*y.num).natAbs<2^(k+m):=by rw [Int.natAbs_mul,Nat.pow_add];exact Nat.mul_lt_mul'' hk.1 hm.1
 have b2:x.den*y.den<2^(k+m):=by rw [Nat.pow_add];exact Nat.mul_lt_mul'' hk.2 hm.2
 have q1:=af hk.1
 have q2:=af hk.2
 have q3:=af hm.1
 have q4:=af hm.2
 have q5:=af b1
 have q6:=af b2
 refine xP r0 r1 r2 s0 s1 s2 V _ ⟨fun hr=>⟨fun _ _=>True,⟨fun hs=>?_,fun _=>⟨(),by (try dsimp only);and_intros<;>trivial,trivial⟩⟩,fun _ V8 l8 _=>⟨rfl,fun V9 ZS=>?_⟩⟩,fun _ V9 l9=>?_⟩
 ·rcases hx with ⟨ex,wx⟩|⟨a,b,p,n,c,p',n',c',ex,-,-,-,-,-,wx⟩
  ·rcases hy with ⟨ey,wy⟩|⟨a,b,p,n,c,p',n',c',ey,-,-,-,-,-,wy⟩
   ·simp only [Value.agg.injEq,Array.mk.injEq,List.cons.injEq,Value.int.injEq,Value.pointer.injEq,true_and,and_true] at ex ey
    obtain ⟨rfl,rfl,rfl⟩:=ex
    obtain ⟨rfl,rfl,rfl⟩:=ey
    obtain ⟨Rr,XX⟩:=wx
    obtain ⟨Rs,XY⟩:=wy
    have dx:=x.den_nz
    have dy:=y.den_nz
    have e1:i64.wrap ((x.den:Int)-1+1)=x.den:=by rw [ay (by omega)];omega
    have e2:i64.wrap ((y.den:Int)-1+1)=y.den:=by rw [ay (by omega)];omega
    rw [e1,e2]
    intro V1 l1
    refine (fI _ _ Rr Rs).mono ?_
    rintro r V2 l2 ⟨z1,rfl,hz1⟩
    refine ⟨_,_,rfl,fun V3 l3=>(fI _ _ (by omega) (by omega)).mono ?_⟩
    rintro r V4 l4 ⟨z2,rfl,hz2⟩
    refine ⟨_,_,rfl,fun t1=>⟨fun t2 V5 l5=>?_,fun _=>⟨(),by (try dsimp only);and_intros<;>trivial,trivial⟩⟩,fun _=>⟨(),by (try dsimp only);and_intros<;>trivial,trivial⟩⟩
    have t1:=of_decide_eq_true t1
    have t2:=of_decide_eq_true t2
    rw [hz1 t1,hz2 t2]
    have hd:((x.den:Int)*(y.den:Int))=((x.den*y.den:Nat):Int):=(Int.natCast_mul ..).symm
    rw [hd] at t2 ⊢
    refine (nI _ _ t1 (by rwa [Int.natAbs_natCast] at t2) (Nat.mul_ne_zero dx dy)).mono ?_
    rintro r V6 l6 h6
    rw [←hxy] at h6
    obtain ⟨n,d,p,rfl⟩:=h6.shape
    exact ⟨_,_,_,rfl,fun V7 l7=>h6.le l7⟩
   ·simp only [Value.agg.injEq,Array.mk.injEq,List.cons.injEq,Value.int.injEq,Value.pointer.injEq,true_and,and_true] at ey
    obtain ⟨rfl,rfl,rfl⟩:=ey
    cases hs
  ·simp only [Value.agg.injEq,Array.mk.injEq,List.cons.injEq,Value.int.injEq,Value.pointer.injEq,true_and,and_true] at ex
   obtain ⟨rfl,rfl,rfl⟩:=ex
   cases hr
 ·have l9:=l8.trans ZS
  refine (fg (hx.le l9) hk (by omega)).mono ?_
  rintro r jh l10 ⟨p1,n1,c1,rfl,g1⟩
  refine ⟨_,_,_,_,rfl,fun jd bG=>(fg (hy.le (l9.trans (l10.trans bG))) hm (by omega)).mono ?_⟩
  rintro r nF cN ⟨p2,n2,c2,rfl,g2⟩
  refine ⟨_,_,_,_,rfl,fun rH dg=>(gy _ _ (g1.le (bG.trans (cN.trans dg))) (g2.le dg) (by omega)).mono ?_⟩
  rintro r nG dE HV
  rw [aF,aF] at HV
  obtain ⟨p3,n3,c3,rfl,g3⟩:=HV
  have H0:=l9.trans (l10.trans (bG.trans (cN.trans (dg.trans dE))))
  refine ⟨_,_,_,_,rfl,fun lU dO=>(eC (hx.le (H0.trans dO)) hk (by omega)).mono ?_⟩
  rintro r lR dv ⟨p4,n4,c4,rfl,g4⟩
  refine ⟨_,_,_,rfl,fun nH c_=>(eC (hy.le (H0.trans (dO.trans (dv.trans c_)))) hm (by omega)).mono ?_⟩
  rintro r qm dM ⟨p5,n5,c5,rfl,g5⟩
  refine ⟨_,_,_,rfl,fun rI dF=>(f_ (g4.le (c_.trans (dM.trans dF))) (g5.le dF) (by omega)).mono ?_⟩
  rintro r zW gI ⟨p6,n6,c6,rfl,g6⟩
  rw [ae,ae] at g6
  refine ⟨_,_,_,rfl,fun w_ fS=>(cq _ (g3.le (dO.trans (dv.trans (c_.trans (dM.trans (dF.trans (gI.trans fS))))))) (g6.le fS) (by omega) (by omega)).mono ?_⟩
  rintro r t_ jc h22
  rw [aF,ae,←hxy] at h22
  obtain ⟨n,d,p,rfl⟩:=h22.shape
  exact ⟨_,_,_,rfl,fun zY gU=>h22.le gU⟩
 ·skip
  refine (fg (hx.le l9) hk (by omega)).mono ?_
  rintro r jh l10 ⟨p1,n1,c1,rfl,g1⟩
  refine ⟨_,_,_,_,rfl,fun jd bG=>(fg (hy.le (l9.trans (l10.trans bG))) hm (by omega)).mono ?_⟩
  rintro r nF cN ⟨p2,n2,c2,rfl,g2⟩
  refine ⟨_,_,_,_,rfl,fun rH dg=>(gy _ _ (g1.le (bG.trans (cN.trans dg))) (g2.le dg) (by omega)).mono ?_⟩
  rintro r nG dE HV
  rw [aF,aF] at HV
  obtain ⟨p3,n3,c3,rfl,g3⟩:=HV
  have H0:=l9.trans (l10.trans (bG.trans (cN.trans (dg.trans dE))))
  refine ⟨_,_,_,_,rfl,fun lU dO=>(eC (hx.le (H0.trans dO)) hk (by omega)).mono ?_⟩
  rintro r lR dv ⟨p4,n4,c4,rfl,g4⟩
  refine ⟨_,_,_,rfl,fun nH c_=>(eC (hy.le (H0.trans (dO.trans (dv.trans c_)))) hm (by omega)).mono ?_⟩
  rintro r qm dM ⟨p5,n5,c5,rfl,g5⟩
  refine ⟨_,_,_,rfl,fun rI dF=>(f_ (g4.le (c_.trans (dM.trans dF))) (g5.le dF) (by omega)).mono ?_⟩
  rintro r zW gI ⟨p6,n6,c6,rfl,g6⟩
  rw [ae,ae] at g6
  refine ⟨_,_,_,rfl,fun w_ fS=>(cq _ (g3.le (dO.trans (dv.trans (c_.trans (dM.trans (dF.trans (gI.trans fS))))))) (g6.le fS) (by omega) (by omega)).mono ?_⟩
  rintro r t_ jc h22
  rw [aF,ae,←hxy] at h22
  obtain ⟨n,d,p,rfl⟩:=h22.shape
  exact ⟨_,_,_,rfl,fun zY gU=>h22.le gU⟩
theorem inv_neg {q:Rat}(h:q.num<0):(q⁻¹).num=-(q.den:Int)/\(q⁻¹).den=q.num.natAbs:=by
 show (Rat.inv q).num=_/\(Rat.inv q).den=_
 unfold Rat.inv
 rw [dif_pos h]
 exact ⟨rfl,rfl⟩
theorem inv_pos {q:Rat}(h:0<q.num):(q⁻¹).num=(q.den:Int)/\(q⁻¹).den=q.num.natAbs:=by
 show (Rat.inv q).num=_/\(Rat.inv q).den=_
 unfold Rat.inv
 rw [dif_neg (by omega),dif_pos h]
 exact ⟨rfl,rfl⟩
theorem inv_zero {q:Rat}(h:q.num=0):q⁻¹=0:=by
 have:q=0:=Rat.num_eq_zero.1 h
 subst this
 exact Rat.inv_zero
theorem eu {k:Nat}{q:Rat}(h:Sz k q):Sz k q⁻¹:=by
 rcases Int.lt_trichotomy q.num 0 with h0|h0|h0
 ·obtain ⟨e1,e2⟩:=inv_neg h0
  refine ⟨?_,?_⟩
  ·rw [e1,Int.natAbs_neg];exact h.2
  ·rw [e2];exact h.1
 ·rw [inv_zero h0]
  exact ⟨Nat.two_pow_pos _,Nat.lt_of_le_of_lt (Nat.pos_of_ne_zero q.den_nz) h.2⟩
 ·obtain ⟨e1,e2⟩:=inv_pos h0
  exact ⟨by rw [e1];exact h.2,by rw [e2];exact h.1⟩
theorem KO {V:View}{v:Value}{q:Rat}(h:RR V v q){k:Nat}(hs:Sz k q)(hk:k<=1099511627776):ab prog 192 #[v] V fun r V'=>RR V' r q⁻¹:=by
 rcases h with ⟨rfl,hw⟩|⟨a,b,p,n,c,p',n',c',rfl,h1,h2,h3,h4,h5,hw⟩
 ·obtain ⟨w1,w2⟩:=hw
  have hd:=q.den_nz
  refine nV _ _ _ V _ ⟨(fun h0=>nomatch h0),fun _=>⟨fun g V4 l4=>?_,fun g=>⟨fun g2 V5 l5=>?_,fun g2 V6 l6=>?_⟩⟩⟩
  ·have g:=of_decide_eq_true g
   obtain ⟨e1,e2⟩:=inv_neg g
   refine .inl ⟨?_,?_⟩
   ·rw [e1,e2,ay (x:=(q.den:Int)-1+1) (by omega),ay (x:=0-q.num) (by omega),ay (x:=0-((q.den:Int)-1+1)) (by omega),ay (by omega)]
    congr 4
    ·omega
    ·congr 1;omega
   ·unfold Wd;rw [e1,e2,Int.natAbs_neg];exact ⟨w2,w1⟩
  ·have g2:q.num=0:=by simpa using g2
   rw [inv_zero g2]
   exact .inl ⟨rfl,by decide,by decide⟩
  ·have g:¬q.num<0:=of_decide_eq_false g
   have g2:q.num≠0:=by simpa using g2
   obtain ⟨e1,e2⟩:=inv_pos (q:=q) (by omega)
   refine .inl ⟨?_,?_⟩
   ·rw [e1,e2,ay (x:=(q.den:Int)-1+1) (by omega),ay (by omega)]
    congr 4
    ·omega
    ·congr 1;omega
   ·unfold Wd;rw [e1,e2];exact ⟨w2,w1⟩
 ·obtain ⟨rfl,hn⟩:=h4.inv
  have q1:=af hs.1
  have q2:=af hs.2
  refine nV _ _ _ V _ ⟨fun _=>⟨rfl,rfl,rfl,decide (q.num<0),⟨a.add 0,by simp [ah,Addr.add],h1⟩,rfl,rfl,p',n',c',⟨a.add 2,rfl,h3⟩,rfl,rfl,rfl,p,n,c,⟨a.add 1,by simp [ah,Addr.add],h2⟩,fun V1 l1=>(cq _ (h5.le l1) (hn.le l1) (by omega) (by omega)).mono ?_⟩,fun h0=>nomatch h0⟩
  rintro r V2 l2 h
  have e:mkRat (aX (decide (q.num<0)) (ag q.den)) (val (ag q.num.natAbs))=q⁻¹:=by
   rw [ae]
   have hv:aX (decide (q.num<0)) (ag q.den)=if q.num<0 then -(q.den:Int) else (q.den:Int):=by
    unfold aX
    rw [ae]
    by_cases g:q.num<0<;>simp [g]
   rw [hv]
   rcases Int.lt_trichotomy q.num 0 with h0|h0|h0
   ·obtain ⟨e1,e2⟩:=inv_neg h0
    rw [if_pos h0,←e1,←e2,Rat.mkRat_self]
   ·rw [inv_zero h0,h0];simp
   ·obtain ⟨e1,e2⟩:=inv_pos h0
    rw [if_neg (by omega),←e1,←e2,Rat.mkRat_self]
  rw [e] at h
  obtain ⟨u,v,w,rfl⟩:=h.shape
  exact ⟨_,_,_,rfl,fun V3 l3=>h.le l3⟩
theorem pj {V:View}{v w:Value}{x y:Rat}(hx:RR V v x)(hy:RR V w y){k m:Nat}(hk:Sz k x)(hm:Sz m y)(hkm:k+m<1099511627776) :
  ab prog 147 #[v,w] V fun r V'=>RR V' r (x*y⁻¹):=by
 have hx0:=hx
 have hy0:=hy
 obtain ⟨r0,r1,r2,rfl⟩:=hx.shape
 obtain ⟨s0,s1,s2,rfl⟩:=hy.shape
 refine xQ r0 r1 r2 s0 s1 s2 V _ fun V1 l1=>(KO (hy0.le l1) hm (by omega)).mono ?_
 rintro r V2 l2 h2
 have h20:=h2
 obtain ⟨u,v,w,rfl⟩:=h2.shape
 refine ⟨_,_,_,rfl,fun V3 l3=>(fa (hx0.le (l1.trans (l2.trans l3))) (h20.le l3) hk (eu hm) hkm).mono ?_⟩
 rintro r V4 l4 h4
 have R5:=h4
 obtain ⟨u,v,w,rfl⟩:=h4.shape
 exact ⟨_,_,_,rfl,fun V5 l5=>R5.le l5⟩
def oX (V:View)(v:Value)(x y:Rat):Prop:=∃(x1 x2:Int)(p:OA)(y1 y2:Int)(q:OA),v=.agg #[.int .i64 x1,.int .i64 x2,.pointer p,.int .i64 y1,.int .i64 y2,.pointer q] /\
 RR V (.agg #[.int .i64 x1,.int .i64 x2,.pointer p]) x/\RR V (.agg #[.int .i64 y1,.int .i64 y2,.pointer q]) y
theorem oX.le {V V':View}{v:Value}{x y:Rat}(h:oX V v x y)(l:V.Le V'):oX V' v x y:=by
 obtain ⟨x1,x2,p,y1,y2,q,e,h1,h2⟩:=h
 exact ⟨x1,x2,p,y1,y2,q,e,h1.le l,h2.le l⟩
theorem Ak {V:View}{p:Value}{cW cX:Rat}{q:Value}{jA jB:Rat}(hp:oX V p cW cX)(hq:oX V q jA jB){k:Nat}(dB:Sz k cW)(dC:Sz k cX)(jO:Sz k jA)(jP:Sz k jB)(hk:2*k+1<274877906944) :
  ab prog 149 #[p,q] V fun r V'=>oX V' r ((cW)+(jA)) ((cX)+(jB)):=by
 have hp0:=hp
 obtain ⟨p0,p1,p2,p3,p4,p5,rfl,qU,qV⟩:=hp
 have hq0:=hq
 obtain ⟨q0,q1,q2,q3,q4,q5,rfl,EF,EG⟩:=hq
 refine xZ p0 p1 p2 p3 p4 p5 q0 q1 q2 q3 q4 q5 V _ fun V1 l1=>(jm (qU.le (l1)) (EF.le (l1)) dB jO (by omega)).mono ?_
 rintro r V2 l2 g1
 have g10:=g1
 obtain ⟨OO,OP,OQ,rfl⟩:=g1.shape
 have bh:Sz (2*k+1) ((cW)+(jA)):=Sz.mono (Sz.add dB jO) (by omega)
 refine ⟨_,_,_,rfl,fun V3 l3=>(jm (qV.le (l1.trans (l2.trans (l3)))) (EG.le (l1.trans (l2.trans (l3)))) dC jP (by omega)).mono ?_⟩
 rintro r V4 l4 g2
 have g20:=g2
 obtain ⟨KB,KC,KD,rfl⟩:=g2.shape
 have bL:Sz (2*k+1) ((cX)+(jB)):=Sz.mono (Sz.add dC jP) (by omega)
 exact ⟨_,_,_,rfl,fun V5 l5=>⟨_,_,_,_,_,_,rfl,(g10.le (l3.trans (l4.trans (l5)))),(g20.le (l5))⟩⟩
theorem iY {cW cX jA jB:Rat}{k:Nat}(dB:Sz k cW)(dC:Sz k cX)(jO:Sz k jA)(jP:Sz k jB):Sz (2*k+1) ((cW)+(jA)):=by
 have bh:Sz (2*k+1) ((cW)+(jA)):=Sz.mono (Sz.add dB jO) (by omega)
 have bL:Sz (2*k+1) ((cX)+(jB)):=Sz.mono (Sz.add dC jP) (by omega)
 exact Sz.mono bh (by omega)
theorem iZ {cW cX jA jB:Rat}{k:Nat}(dB:Sz k cW)(dC:Sz k cX)(jO:Sz k jA)(jP:Sz k jB):Sz (2*k+1) ((cX)+(jB)):=by
 have bh:Sz (2*k+1) ((cW)+(jA)):=Sz.mono (Sz.add dB jO) (by omega)
 have bL:Sz (2*k+1) ((cX)+(jB)):=Sz.mono (Sz.add dC jP) (by omega)
 exact Sz.mono bL (by omega)
theorem l_ {V:View}{p:Value}{cW cX:Rat}{c:Value}{DZ:Rat}(hp:oX V p cW cX)(hc:RR V c DZ){k:Nat}(dB:Sz k cW)(dC:Sz k cX)(xL:Sz k DZ)(hk:2*k+1<274877906944) :
  ab prog 150 #[p,c] V fun r V'=>oX V' r ((cW)*(DZ)) ((cX)*(DZ)):=by
 have hp0:=hp
 obtain ⟨p0,p1,p2,p3,p4,p5,rfl,qU,qV⟩:=hp
 have hc0:=hc
 obtain ⟨c0,c1,c2,rfl⟩:=hc.shape
 refine tq p0 p1 p2 p3 p4 p5 c0 c1 c2 V _ fun V1 l1=>(fa (qU.le (l1)) (hc0.le (l1)) dB xL (by omega)).mono ?_
 rintro r V2 l2 g1
 have g10:=g1
 obtain ⟨OO,OP,OQ,rfl⟩:=g1.shape
 have bh:Sz (2*k+1) ((cW)*(DZ)):=Sz.mono (Sz.mul dB xL) (by omega)
 refine ⟨_,_,_,rfl,fun V3 l3=>(fa (qV.le (l1.trans (l2.trans (l3)))) (hc0.le (l1.trans (l2.trans (l3)))) dC xL (by omega)).mono ?_⟩
 rintro r V4 l4 g2
 have g20:=g2
 obtain ⟨KB,KC,KD,rfl⟩:=g2.shape
 have bL:Sz (2*k+1) ((cX)*(DZ)):=Sz.mono (Sz.mul dC xL) (by omega)
 exact ⟨_,_,_,rfl,fun V5 l5=>⟨_,_,_,_,_,_,rfl,(g10.le (l3.trans (l4.trans (l5)))),(g20.le (l5))⟩⟩
theorem cz {cW cX DZ:Rat}{k:Nat}(dB:Sz k cW)(dC:Sz k cX)(xL:Sz k DZ):Sz (2*k+1) ((cW)*(DZ)):=by
 have bh:Sz (2*k+1) ((cW)*(DZ)):=Sz.mono (Sz.mul dB xL) (by omega)
 have bL:Sz (2*k+1) ((cX)*(DZ)):=Sz.mono (Sz.mul dC xL) (by omega)
 exact Sz.mono bh (by omega)
theorem cA {cW cX DZ:Rat}{k:Nat}(dB:Sz k cW)(dC:Sz k cX)(xL:Sz k DZ):Sz (2*k+1) ((cX)*(DZ)):=by
 have bh:Sz (2*k+1) ((cW)*(DZ)):=Sz.mono (Sz.mul dB xL) (by omega)
 have bL:Sz (2*k+1) ((cX)*(DZ)):=Sz.mono (Sz.mul dC xL) (by omega)
 exact Sz.mono bL (by omega)
theorem kH {V:View}{p:Value}{cW cX:Rat}{q:Value}{jA jB:Rat}(hp:oX V p cW cX)(hq:oX V q jA jB){k:Nat}(dB:Sz k cW)(dC:Sz k cX)(jO:Sz k jA)(jP:Sz k jB)(hk:4*k+3<274877906944) :
  ab prog 144 #[p,q] V fun r V'=>RR V' r (((cW)*(jA))+((cX)*(jB))):=by
 have hp0:=hp
 obtain ⟨p0,p1,p2,p3,p4,p5,rfl,qU,qV⟩:=hp
 have hq0:=hq
 obtain ⟨q0,q1,q2,q3,q4,q5,rfl,EF,EG⟩:=hq
 refine x_ p0 p1 p2 p3 p4 p5 q0 q1 q2 q3 q4 q5 V _ fun V1 l1=>(fa (qU.le (l1)) (EF.le (l1)) dB jO (by omega)).mono ?_
 rintro r V2 l2 g1
 have g10:=g1
 obtain ⟨OO,OP,OQ,rfl⟩:=g1.shape
 have bh:Sz (2*k+1) ((cW)*(jA)):=Sz.mono (Sz.mul dB jO) (by omega)
 refine ⟨_,_,_,rfl,fun V3 l3=>(fa (qV.le (l1.trans (l2.trans (l3)))) (EG.le (l1.trans (l2.trans (l3)))) dC jP (by omega)).mono ?_⟩
 rintro r V4 l4 g2
 have g20:=g2
 obtain ⟨KB,KC,KD,rfl⟩:=g2.shape
 have bL:Sz (2*k+1) ((cX)*(jB)):=Sz.mono (Sz.mul dC jP) (by omega)
 refine ⟨_,_,_,rfl,fun V5 l5=>(jm (g10.le (l3.trans (l4.trans (l5)))) (g20.le (l5)) bh bL (by omega)).mono ?_⟩
 rintro r V6 l6 g3
 have kW:=g3
 obtain ⟨M4,M5,M6,rfl⟩:=g3.shape
 have dp:Sz (4*k+3) (((cW)*(jA))+((cX)*(jB))):=Sz.mono (Sz.add bh bL) (by omega)
 exact ⟨_,_,_,rfl,fun V7 l7=>(kW.le (l7))⟩
theorem dq {cW cX jA jB:Rat}{k:Nat}(dB:Sz k cW)(dC:Sz k cX)(jO:Sz k jA)(jP:Sz k jB):Sz (4*k+3) (((cW)*(jA))+((cX)*(jB))):=by
 have bh:Sz (2*k+1) ((cW)*(jA)):=Sz.mono (Sz.mul dB jO) (by omega)
 have bL:Sz (2*k+1) ((cX)*(jB)):=Sz.mono (Sz.mul dC jP) (by omega)
 have dp:Sz (4*k+3) (((cW)*(jA))+((cX)*(jB))):=Sz.mono (Sz.add bh bL) (by omega)
 exact Sz.mono dp (by omega)
theorem fJ {V:View}{p:Value}{cW cX:Rat}{q:Value}{jA jB:Rat}(hp:oX V p cW cX)(hq:oX V q jA jB){k:Nat}(dB:Sz k cW)(dC:Sz k cX)(jO:Sz k jA)(jP:Sz k jB)(hk:4*k+3<274877906944) :
  ab prog 136 #[p,q] V fun r V'=>RR V' r (((cW)*(jB))-((cX)*(jA))):=by
 have hp0:=hp
 obtain ⟨p0,p1,p2,p3,p4,p5,rfl,qU,qV⟩:=hp
 have hq0:=hq
 obtain ⟨q0,q1,q2,q3,q4,q5,rfl,EF,EG⟩:=hq
 refine tm p0 p1 p2 p3 p4 p5 q0 q1 q2 q3 q4 q5 V _ fun V1 l1=>(fa (qU.le (l1)) (EG.le (l1)) dB jP (by omega)).mono ?_
 rintro r V2 l2 g1
 have g10:=g1
 obtain ⟨OO,OP,OQ,rfl⟩:=g1.shape
 have bh:Sz (2*k+1) ((cW)*(jB)):=Sz.mono (Sz.mul dB jP) (by omega)
 refine ⟨_,_,_,rfl,fun V3 l3=>(fa (qV.le (l1.trans (l2.trans (l3)))) (EF.le (l1.trans (l2.trans (l3)))) dC jO (by omega)).mono ?_⟩
 rintro r V4 l4 g2
 have g20:=g2
 obtain ⟨KB,KC,KD,rfl⟩:=g2.shape
 have bL:Sz (2*k+1) ((cX)*(jA)):=Sz.mono (Sz.mul dC jO) (by omega)
 refine ⟨_,_,_,rfl,fun V5 l5=>(pk (g10.le (l3.trans (l4.trans (l5)))) (g20.le (l5)) bh bL (by omega)).mono ?_⟩
 rintro r V6 l6 g3
 have kW:=g3
 obtain ⟨M4,M5,M6,rfl⟩:=g3.shape
 have dp:Sz (4*k+3) (((cW)*(jB))-((cX)*(jA))):=Sz.mono (Sz.sub bh bL) (by omega)
 exact ⟨_,_,_,rfl,fun V7 l7=>(kW.le (l7))⟩
theorem kB {cW cX jA jB:Rat}{k:Nat}(dB:Sz k cW)(dC:Sz k cX)(jO:Sz k jA)(jP:Sz k jB):Sz (4*k+3) (((cW)*(jB))-((cX)*(jA))):=by
 have bh:Sz (2*k+1) ((cW)*(jB)):=Sz.mono (Sz.mul dB jP) (by omega)
 have bL:Sz (2*k+1) ((cX)*(jA)):=Sz.mono (Sz.mul dC jO) (by omega)
 have dp:Sz (4*k+3) (((cW)*(jB))-((cX)*(jA))):=Sz.mono (Sz.sub bh bL) (by omega)
 exact Sz.mono dp (by omega)
theorem kG {V:View}{l:Value}{aK l_1 cf:Rat}(hl:tI V l aK l_1 cf){k:Nat}(bE:Sz k aK)(bK:Sz k l_1)(bI:Sz k cf)(hk:1*k+1<274877906944) :
  ab prog 135 #[l] V fun r V'=>oX V' r (l_1) (-(aK)):=by
 have hl0:=hl
 obtain ⟨l0,l1,l2,l3,l4,l5,l6,l7,l8,rfl,qS,qT,sQ⟩:=hl
 refine xX l0 l1 l2 l3 l4 l5 l6 l7 l8 V _ fun V1 l1=>(ph (qS.le (l1)) bE (by omega)).mono ?_
 rintro r V2 l2 g1
 have g10:=g1
 obtain ⟨OO,OP,OQ,rfl⟩:=g1.shape
 have bh:Sz (1*k+0) (-(aK)):=Sz.mono (Sz.neg bE) (by omega)
 exact ⟨_,_,_,rfl,fun V3 l3=>⟨_,_,_,_,_,_,rfl,(qT.le (l1.trans (l2.trans (l3)))),(g10.le (l3))⟩⟩
theorem iW {aK l_1 cf:Rat}{k:Nat}(bE:Sz k aK)(bK:Sz k l_1)(bI:Sz k cf):Sz (1*k+0) (l_1):=by
 have bh:Sz (1*k+0) (-(aK)):=Sz.mono (Sz.neg bE) (by omega)
 exact Sz.mono bK (by omega)
theorem iX {aK l_1 cf:Rat}{k:Nat}(bE:Sz k aK)(bK:Sz k l_1)(bI:Sz k cf):Sz (1*k+0) (-(aK)):=by
 have bh:Sz (1*k+0) (-(aK)):=Sz.mono (Sz.neg bE) (by omega)
 exact Sz.mono bh (by omega)
theorem dH {V:View}{l:Value}{aK l_1 cf:Rat}(hl:tI V l aK l_1 cf){k:Nat}(bE:Sz k aK)(bK:Sz k l_1)(bI:Sz k cf)(hk:1*k+1<274877906944) :
  ab prog 142 #[l] V fun r V'=>oX V' r (aK) (l_1):=by
 have hl0:=hl
 obtain ⟨l0,l1,l2,l3,l4,l5,l6,l7,l8,rfl,qS,qT,sQ⟩:=hl
 exact rC l0 l1 l2 l3 l4 l5 l6 l7 l8 V _ fun V1 l1=>⟨_,_,_,_,_,_,rfl,(qS.le (l1)),(qT.le (l1))⟩
theorem cU {aK l_1 cf:Rat}{k:Nat}(bE:Sz k aK)(bK:Sz k l_1)(bI:Sz k cf):Sz (1*k+0) (aK):=by
 exact Sz.mono bE (by omega)
theorem cV {aK l_1 cf:Rat}{k:Nat}(bE:Sz k aK)(bK:Sz k l_1)(bI:Sz k cf):Sz (1*k+0) (l_1):=by
 exact Sz.mono bK (by omega)
theorem lZ {V:View}{l:Value}{aK l_1 cf:Rat}{p:Value}{cW cX:Rat}(hl:tI V l aK l_1 cf)(hp:oX V p cW cX){k:Nat}(bE:Sz k aK)(bK:Sz k l_1)(bI:Sz k cf)(dB:Sz k cW)(dC:Sz k cX)(hk:5*k+4<274877906944) :
  ab prog 146 #[l,p] V fun r V'=>RR V' r ((((aK)*(cW))+((l_1)*(cX)))+(cf)):=by
 have hl0:=hl
 obtain ⟨l0,l1,l2,l3,l4,l5,l6,l7,l8,rfl,qS,qT,sQ⟩:=hl
 have hp0:=hp
 obtain ⟨p0,p1,p2,p3,p4,p5,rfl,qU,qV⟩:=hp
 refine tj l0 l1 l2 l3 l4 l5 l6 l7 l8 p0 p1 p2 p3 p4 p5 V _ fun V1 l1=>(dH (hl0.le (l1)) (Sz.mono bE (by omega):Sz (1*k+0) _) (Sz.mono bK (by omega):Sz (1*k+0) _) (Sz.mono bI (by omega):Sz (1*k+0) _) (by omega)).mono ?_
 rintro r V2 l2 g1
 have g10:=g1
 obtain ⟨Mc,Md,Me,Mf,Mg,Mh,rfl,K0,K1⟩:=g1
 have bh:Sz (1*k+0) (aK):=Sz.mono ((cU (Sz.mono bE (by omega):Sz (1*k+0) _) (Sz.mono bK (by omega):Sz (1*k+0) _) (Sz.mono bI (by omega):Sz (1*k+0) _))) (by omega)
 have cS:Sz (1*k+0) (l_1):=Sz.mono ((cV (Sz.mono bE (by omega):Sz (1*k+0) _) (Sz.mono bK (by omega):Sz (1*k+0) _) (Sz.mono bI (by omega):Sz (1*k+0) _))) (by omega)
 refine ⟨_,_,_,_,_,_,rfl,fun V3 l3=>(kH (g10.le (l3)) (hp0.le (l1.trans (l2.trans (l3)))) (Sz.mono bh (by omega):Sz (1*k+0) _) (Sz.mono cS (by omega):Sz (1*k+0) _) (Sz.mono dB (by omega):Sz (1*k+0) _) (Sz.mono dC (by omega):Sz (1*k+0) _) (by omega)).mono ?_⟩
 rintro r V4 l4 g2
 have g20:=g2
 obtain ⟨KB,KC,KD,rfl⟩:=g2.shape
 have bL:Sz (4*k+3) (((aK)*(cW))+((l_1)*(cX))):=Sz.mono ((dq (Sz.mono bh (by omega):Sz (1*k+0) _) (Sz.mono cS (by omega):Sz (1*k+0) _) (Sz.mono dB (by omega):Sz (1*k+0) _) (Sz.mono dC (by omega):Sz (1*k+0) _))) (by omega)
 refine ⟨_,_,_,rfl,fun V5 l5=>(jm (g20.le (l5)) (sQ.le (l1.trans (l2.trans (l3.trans (l4.trans (l5)))))) bL bI (by omega)).mono ?_⟩
 rintro r V6 l6 g3
 have kW:=g3
 obtain ⟨M4,M5,M6,rfl⟩:=g3.shape
 have dp:Sz (5*k+4) ((((aK)*(cW))+((l_1)*(cX)))+(cf)):=Sz.mono (Sz.add bL bI) (by omega)
 exact ⟨_,_,_,rfl,fun V7 l7=>(kW.le (l7))⟩
theorem kz {aK l_1 cf cW cX:Rat}{k:Nat}(bE:Sz k aK)(bK:Sz k l_1)(bI:Sz k cf)(dB:Sz k cW)(dC:Sz k cX):Sz (5*k+4) ((((aK)*(cW))+((l_1)*(cX)))+(cf)):=by
 have bh:Sz (1*k+0) (aK):=Sz.mono ((cU (Sz.mono bE (by omega):Sz (1*k+0) _) (Sz.mono bK (by omega):Sz (1*k+0) _) (Sz.mono bI (by omega):Sz (1*k+0) _))) (by omega)
 have cS:Sz (1*k+0) (l_1):=Sz.mono ((cV (Sz.mono bE (by omega):Sz (1*k+0) _) (Sz.mono bK (by omega):Sz (1*k+0) _) (Sz.mono bI (by omega):Sz (1*k+0) _))) (by omega)
 have bL:Sz (4*k+3) (((aK)*(cW))+((l_1)*(cX))):=Sz.mono ((dq (Sz.mono bh (by omega):Sz (1*k+0) _) (Sz.mono cS (by omega):Sz (1*k+0) _) (Sz.mono dB (by omega):Sz (1*k+0) _) (Sz.mono dC (by omega):Sz (1*k+0) _))) (by omega)
 have dp:Sz (5*k+4) ((((aK)*(cW))+((l_1)*(cX)))+(cf)):=Sz.mono (Sz.add bL bI) (by omega)
 exact Sz.mono dp (by omega)
theorem nJ {V:View}{l:Value}{aK l_1 cf:Rat}(hl:tI V l aK l_1 cf){k:Nat}(bE:Sz k aK)(bK:Sz k l_1)(bI:Sz k cf)(hk:10*k+9<274877906944) :
  ab prog 180 #[l] V fun r V'=>oX V' r ((aK)*(((-(cf))*(((aK)*(aK))+((l_1)*(l_1)))⁻¹))) ((l_1)*(((-(cf))*(((aK)*(aK))+((l_1)*(l_1)))⁻¹))):=by
 have hl0:=hl
 obtain ⟨l0,l1,l2,l3,l4,l5,l6,l7,l8,rfl,qS,qT,sQ⟩:=hl
 refine wu l0 l1 l2 l3 l4 l5 l6 l7 l8 V _ fun V1 l1=>(dH (hl0.le (l1)) (Sz.mono bE (by omega):Sz (1*k+0) _) (Sz.mono bK (by omega):Sz (1*k+0) _) (Sz.mono bI (by omega):Sz (1*k+0) _) (by omega)).mono ?_
 rintro r V2 l2 g1
 have g10:=g1
 obtain ⟨Mc,Md,Me,Mf,Mg,Mh,rfl,K0,K1⟩:=g1
 have bh:Sz (1*k+0) (aK):=Sz.mono ((cU (Sz.mono bE (by omega):Sz (1*k+0) _) (Sz.mono bK (by omega):Sz (1*k+0) _) (Sz.mono bI (by omega):Sz (1*k+0) _))) (by omega)
 have cS:Sz (1*k+0) (l_1):=Sz.mono ((cV (Sz.mono bE (by omega):Sz (1*k+0) _) (Sz.mono bK (by omega):Sz (1*k+0) _) (Sz.mono bI (by omega):Sz (1*k+0) _))) (by omega)
 refine ⟨_,_,_,_,_,_,rfl,fun V3 l3=>(ph (sQ.le (l1.trans (l2.trans (l3)))) bI (by omega)).mono ?_⟩
 rintro r V4 l4 g2
 have g20:=g2
 obtain ⟨KB,KC,KD,rfl⟩:=g2.shape
 have bL:Sz (1*k+0) (-(cf)):=Sz.mono (Sz.neg bI) (by omega)
 refine ⟨_,_,_,rfl,fun V5 l5=>(kH (g10.le (l3.trans (l4.trans (l5)))) (g10.le (l3.trans (l4.trans (l5)))) (Sz.mono bh (by omega):Sz (1*k+0) _) (Sz.mono cS (by omega):Sz (1*k+0) _) (Sz.mono bh (by omega):Sz (1*k+0) _) (Sz.mono cS (by omega):Sz (1*k+0) _) (by omega)).mono ?_⟩
 rintro r V6 l6 g3
 have kW:=g3
 obtain ⟨M4,M5,M6,rfl⟩:=g3.shape
 have dp:Sz (4*k+3) (((aK)*(aK))+((l_1)*(l_1))):=Sz.mono ((dq (Sz.mono bh (by omega):Sz (1*k+0) _) (Sz.mono cS (by omega):Sz (1*k+0) _) (Sz.mono bh (by omega):Sz (1*k+0) _) (Sz.mono cS (by omega):Sz (1*k+0) _))) (by omega)
 refine ⟨_,_,_,rfl,fun V7 l7=>(pj (g20.le (l5.trans (l6.trans (l7)))) (kW.le (l7)) bL dp (by omega)).mono ?_⟩
 rintro r V8 l8 g4
 have Ex:=g4
 obtain ⟨VA,VB,VC,rfl⟩:=g4.shape
 have ky:Sz (5*k+4) ((-(cf))*(((aK)*(aK))+((l_1)*(l_1)))⁻¹):=Sz.mono (Sz.mul bL (eu dp)) (by omega)
 refine ⟨_,_,_,rfl,fun V9 l9=>(l_ (g10.le (l3.trans (l4.trans (l5.trans (l6.trans (l7.trans (l8.trans (l9)))))))) (Ex.le (l9)) (Sz.mono bh (by omega):Sz (5*k+4) _) (Sz.mono cS (by omega):Sz (5*k+4) _) (Sz.mono ky (by omega):Sz (5*k+4) _) (by omega)).mono ?_⟩
 rintro r jh l10 g5
 have IC:=g5
 obtain ⟨w4_0,w4_1,w4_2,w4_3,w4_4,w4_5,rfl,Ti,Tj⟩:=g5
 have wV:Sz (10*k+9) ((aK)*(((-(cf))*(((aK)*(aK))+((l_1)*(l_1)))⁻¹))):=Sz.mono ((cz (Sz.mono bh (by omega):Sz (5*k+4) _) (Sz.mono cS (by omega):Sz (5*k+4) _) (Sz.mono ky (by omega):Sz (5*k+4) _))) (by omega)
 have OV:Sz (10*k+9) ((l_1)*(((-(cf))*(((aK)*(aK))+((l_1)*(l_1)))⁻¹))):=Sz.mono ((cA (Sz.mono bh (by omega):Sz (5*k+4) _) (Sz.mono cS (by omega):Sz (5*k+4) _) (Sz.mono ky (by omega):Sz (5*k+4) _))) (by omega)
 exact ⟨_,_,_,_,_,_,rfl,fun jd bG=>⟨_,_,_,_,_,_,rfl,(Ti.le (bG)),(Tj.le (bG))⟩⟩
theorem dK {aK l_1 cf:Rat}{k:Nat}(bE:Sz k aK)(bK:Sz k l_1)(bI:Sz k cf):Sz (10*k+9) ((aK)*(((-(cf))*(((aK)*(aK))+((l_1)*(l_1)))⁻¹))):=by
 have bh:Sz (1*k+0) (aK):=Sz.mono ((cU (Sz.mono bE (by omega):Sz (1*k+0) _) (Sz.mono bK (by omega):Sz (1*k+0) _) (Sz.mono bI (by omega):Sz (1*k+0) _))) (by omega)
 have cS:Sz (1*k+0) (l_1):=Sz.mono ((cV (Sz.mono bE (by omega):Sz (1*k+0) _) (Sz.mono bK (by omega):Sz (1*k+0) _) (Sz.mono bI (by omega):Sz (1*k+0) _))) (by omega)
 have bL:Sz (1*k+0) (-(cf)):=Sz.mono (Sz.neg bI) (by omega)
 have dp:Sz (4*k+3) (((aK)*(aK))+((l_1)*(l_1))):=Sz.mono ((dq (Sz.mono bh (by omega):Sz (1*k+0) _) (Sz.mono cS (by omega):Sz (1*k+0) _) (Sz.mono bh (by omega):Sz (1*k+0) _) (Sz.mono cS (by omega):Sz (1*k+0) _))) (by omega)
 have ky:Sz (5*k+4) ((-(cf))*(((aK)*(aK))+((l_1)*(l_1)))⁻¹):=Sz.mono (Sz.mul bL (eu dp)) (by omega)
 have wV:Sz (10*k+9) ((aK)*(((-(cf))*(((aK)*(aK))+((l_1)*(l_1)))⁻¹))):=Sz.mono ((cz (Sz.mono bh (by omega):Sz (5*k+4) _) (Sz.mono cS (by omega):Sz (5*k+4) _) (Sz.mono ky (by omega):Sz (5*k+4) _))) (by omega)
 have OV:Sz (10*k+9) ((l_1)*(((-(cf))*(((aK)*(aK))+((l_1)*(l_1)))⁻¹))):=Sz.mono ((cA (Sz.mono bh (by omega):Sz (5*k+4) _) (Sz.mono cS (by omega):Sz (5*k+4) _) (Sz.mono ky (by omega):Sz (5*k+4) _))) (by omega)
 exact Sz.mono wV (by omega)
theorem dL {aK l_1 cf:Rat}{k:Nat}(bE:Sz k aK)(bK:Sz k l_1)(bI:Sz k cf):Sz (10*k+9) ((l_1)*(((-(cf))*(((aK)*(aK))+((l_1)*(l_1)))⁻¹))):=by
 have bh:Sz (1*k+0) (aK):=Sz.mono ((cU (Sz.mono bE (by omega):Sz (1*k+0) _) (Sz.mono bK (by omega):Sz (1*k+0) _) (Sz.mono bI (by omega):Sz (1*k+0) _))) (by omega)
 have cS:Sz (1*k+0) (l_1):=Sz.mono ((cV (Sz.mono bE (by omega):Sz (1*k+0) _) (Sz.mono bK (by omega):Sz (1*k+0) _) (Sz.mono bI (by omega):Sz (1*k+0) _))) (by omega)
 have bL:Sz (1*k+0) (-(cf)):=Sz.mono (Sz.neg bI) (by omega)
 have dp:Sz (4*k+3) (((aK)*(aK))+((l_1)*(l_1))):=Sz.mono ((dq (Sz.mono bh (by omega):Sz (1*k+0) _) (Sz.mono cS (by omega):Sz (1*k+0) _) (Sz.mono bh (by omega):Sz (1*k+0) _) (Sz.mono cS (by omega):Sz (1*k+0) _))) (by omega)
 have ky:Sz (5*k+4) ((-(cf))*(((aK)*(aK))+((l_1)*(l_1)))⁻¹):=Sz.mono (Sz.mul bL (eu dp)) (by omega)
 have wV:Sz (10*k+9) ((aK)*(((-(cf))*(((aK)*(aK))+((l_1)*(l_1)))⁻¹))):=Sz.mono ((cz (Sz.mono bh (by omega):Sz (5*k+4) _) (Sz.mono cS (by omega):Sz (5*k+4) _) (Sz.mono ky (by omega):Sz (5*k+4) _))) (by omega)
 have OV:Sz (10*k+9) ((l_1)*(((-(cf))*(((aK)*(aK))+((l_1)*(l_1)))⁻¹))):=Sz.mono ((cA (Sz.mono bh (by omega):Sz (5*k+4) _) (Sz.mono cS (by omega):Sz (5*k+4) _) (Sz.mono ky (by omega):Sz (5*k+4) _))) (by omega)
 exact Sz.mono OV (by omega)
theorem B6 {V:View}{l:Value}{aK l_1 cf:Rat}{t:Value}{wX:Rat}(hl:tI V l aK l_1 cf)(ht:RR V t wX){k:Nat}(bE:Sz k aK)(bK:Sz k l_1)(bI:Sz k cf)(A9:Sz k wX)(hk:20*k+19<274877906944) :
  ab prog 132 #[l,t] V fun r V'=>oX V' r ((((aK)*(((-(cf))*(((aK)*(aK))+((l_1)*(l_1)))⁻¹))))+(((l_1)*(wX)))) ((((l_1)*(((-(cf))*(((aK)*(aK))+((l_1)*(l_1)))⁻¹))))+((((-(aK)))*(wX)))):=by
 have hl0:=hl
 obtain ⟨l0,l1,l2,l3,l4,l5,l6,l7,l8,rfl,qS,qT,sQ⟩:=hl
 have ht0:=ht
 obtain ⟨t0,t1,t2,rfl⟩:=ht.shape
 refine Bk l0 l1 l2 l3 l4 l5 l6 l7 l8 t0 t1 t2 V _ fun V1 l1=>(nJ (hl0.le (l1)) (Sz.mono bE (by omega):Sz (1*k+0) _) (Sz.mono bK (by omega):Sz (1*k+0) _) (Sz.mono bI (by omega):Sz (1*k+0) _) (by omega)).mono ?_
 rintro r V2 l2 g1
 have g10:=g1
 obtain ⟨Mc,Md,Me,Mf,Mg,Mh,rfl,K0,K1⟩:=g1
 have bh:Sz (10*k+9) ((aK)*(((-(cf))*(((aK)*(aK))+((l_1)*(l_1)))⁻¹))):=Sz.mono ((dK (Sz.mono bE (by omega):Sz (1*k+0) _) (Sz.mono bK (by omega):Sz (1*k+0) _) (Sz.mono bI (by omega):Sz (1*k+0) _))) (by omega)
 have cS:Sz (10*k+9) ((l_1)*(((-(cf))*(((aK)*(aK))+((l_1)*(l_1)))⁻¹))):=Sz.mono ((dL (Sz.mono bE (by omega):Sz (1*k+0) _) (Sz.mono bK (by omega):Sz (1*k+0) _) (Sz.mono bI (by omega):Sz (1*k+0) _))) (by omega)
 refine ⟨_,_,_,_,_,_,rfl,fun V3 l3=>(kG (hl0.le (l1.trans (l2.trans (l3)))) (Sz.mono bE (by omega):Sz (1*k+0) _) (Sz.mono bK (by omega):Sz (1*k+0) _) (Sz.mono bI (by omega):Sz (1*k+0) _) (by omega)).mono ?_⟩
 rintro r V4 l4 g2
 have g20:=g2
 obtain ⟨w1_0,w1_1,w1_2,w1_3,w1_4,w1_5,rfl,YR,YS⟩:=g2
 have bL:Sz (1*k+0) (l_1):=Sz.mono ((iW (Sz.mono bE (by omega):Sz (1*k+0) _) (Sz.mono bK (by omega):Sz (1*k+0) _) (Sz.mono bI (by omega):Sz (1*k+0) _))) (by omega)
 have BE:Sz (1*k+0) (-(aK)):=Sz.mono ((iX (Sz.mono bE (by omega):Sz (1*k+0) _) (Sz.mono bK (by omega):Sz (1*k+0) _) (Sz.mono bI (by omega):Sz (1*k+0) _))) (by omega)
 refine ⟨_,_,_,_,_,_,rfl,fun V5 l5=>(l_ (g20.le (l5)) (ht0.le (l1.trans (l2.trans (l3.trans (l4.trans (l5)))))) (Sz.mono bL (by omega):Sz (1*k+0) _) (Sz.mono BE (by omega):Sz (1*k+0) _) (Sz.mono A9 (by omega):Sz (1*k+0) _) (by omega)).mono ?_⟩
 rintro r V6 l6 g3
 have kW:=g3
 obtain ⟨w2_0,w2_1,w2_2,w2_3,w2_4,w2_5,rfl,YT,YU⟩:=g3
 have dp:Sz (2*k+1) ((l_1)*(wX)):=Sz.mono ((cz (Sz.mono bL (by omega):Sz (1*k+0) _) (Sz.mono BE (by omega):Sz (1*k+0) _) (Sz.mono A9 (by omega):Sz (1*k+0) _))) (by omega)
 have BF:Sz (2*k+1) (((-(aK)))*(wX)):=Sz.mono ((cA (Sz.mono bL (by omega):Sz (1*k+0) _) (Sz.mono BE (by omega):Sz (1*k+0) _) (Sz.mono A9 (by omega):Sz (1*k+0) _))) (by omega)
 refine ⟨_,_,_,_,_,_,rfl,fun V7 l7=>(Ak (g10.le (l3.trans (l4.trans (l5.trans (l6.trans (l7)))))) (kW.le (l7)) (Sz.mono bh (by omega):Sz (10*k+9) _) (Sz.mono cS (by omega):Sz (10*k+9) _) (Sz.mono dp (by omega):Sz (10*k+9) _) (Sz.mono BF (by omega):Sz (10*k+9) _) (by omega)).mono ?_⟩
 rintro r V8 l8 g4
 have Ex:=g4
 obtain ⟨w3_0,w3_1,w3_2,w3_3,w3_4,w3_5,rfl,Tg,Th⟩:=g4
 have ky:Sz (20*k+19) ((((aK)*(((-(cf))*(((aK)*(aK))+((l_1)*(l_1)))⁻¹))))+(((l_1)*(wX)))):=Sz.mono ((iY (Sz.mono bh (by omega):Sz (10*k+9) _) (Sz.mono cS (by omega):Sz (10*k+9) _) (Sz.mono dp (by omega):Sz (10*k+9) _) (Sz.mono BF (by omega):Sz (10*k+9) _))) (by omega)
 have OU:Sz (20*k+19) ((((l_1)*(((-(cf))*(((aK)*(aK))+((l_1)*(l_1)))⁻¹))))+((((-(aK)))*(wX)))):=Sz.mono ((iZ (Sz.mono bh (by omega):Sz (10*k+9) _) (Sz.mono cS (by omega):Sz (10*k+9) _) (Sz.mono dp (by omega):Sz (10*k+9) _) (Sz.mono BF (by omega):Sz (10*k+9) _))) (by omega)
 exact ⟨_,_,_,_,_,_,rfl,fun V9 l9=>⟨_,_,_,_,_,_,rfl,(Tg.le (l9)),(Th.le (l9))⟩⟩
theorem yF {aK l_1 cf wX:Rat}{k:Nat}(bE:Sz k aK)(bK:Sz k l_1)(bI:Sz k cf)(A9:Sz k wX):Sz (20*k+19) ((((aK)*(((-(cf))*(((aK)*(aK))+((l_1)*(l_1)))⁻¹))))+(((l_1)*(wX)))):=by
 have bh:Sz (10*k+9) ((aK)*(((-(cf))*(((aK)*(aK))+((l_1)*(l_1)))⁻¹))):=Sz.mono ((dK (Sz.mono bE (by omega):Sz (1*k+0) _) (Sz.mono bK (by omega):Sz (1*k+0) _) (Sz.mono bI (by omega):Sz (1*k+0) _))) (by omega)
 have cS:Sz (10*k+9) ((l_1)*(((-(cf))*(((aK)*(aK))+((l_1)*(l_1)))⁻¹))):=Sz.mono ((dL (Sz.mono bE (by omega):Sz (1*k+0) _) (Sz.mono bK (by omega):Sz (1*k+0) _) (Sz.mono bI (by omega):Sz (1*k+0) _))) (by omega)
 have bL:Sz (1*k+0) (l_1):=Sz.mono ((iW (Sz.mono bE (by omega):Sz (1*k+0) _) (Sz.mono bK (by omega):Sz (1*k+0) _) (Sz.mono bI (by omega):Sz (1*k+0) _))) (by omega)
 have BE:Sz (1*k+0) (-(aK)):=Sz.mono ((iX (Sz.mono bE (by omega):Sz (1*k+0) _) (Sz.mono bK (by omega):Sz (1*k+0) _) (Sz.mono bI (by omega):Sz (1*k+0) _))) (by omega)
 have dp:Sz (2*k+1) ((l_1)*(wX)):=Sz.mono ((cz (Sz.mono bL (by omega):Sz (1*k+0) _) (Sz.mono BE (by omega):Sz (1*k+0) _) (Sz.mono A9 (by omega):Sz (1*k+0) _))) (by omega)
 have BF:Sz (2*k+1) (((-(aK)))*(wX)):=Sz.mono ((cA (Sz.mono bL (by omega):Sz (1*k+0) _) (Sz.mono BE (by omega):Sz (1*k+0) _) (Sz.mono A9 (by omega):Sz (1*k+0) _))) (by omega)
 have ky:Sz (20*k+19) ((((aK)*(((-(cf))*(((aK)*(aK))+((l_1)*(l_1)))⁻¹))))+(((l_1)*(wX)))):=Sz.mono ((iY (Sz.mono bh (by omega):Sz (10*k+9) _) (Sz.mono cS (by omega):Sz (10*k+9) _) (Sz.mono dp (by omega):Sz (10*k+9) _) (Sz.mono BF (by omega):Sz (10*k+9) _))) (by omega)
 have OU:Sz (20*k+19) ((((l_1)*(((-(cf))*(((aK)*(aK))+((l_1)*(l_1)))⁻¹))))+((((-(aK)))*(wX)))):=Sz.mono ((iZ (Sz.mono bh (by omega):Sz (10*k+9) _) (Sz.mono cS (by omega):Sz (10*k+9) _) (Sz.mono dp (by omega):Sz (10*k+9) _) (Sz.mono BF (by omega):Sz (10*k+9) _))) (by omega)
 exact Sz.mono ky (by omega)
theorem yG {aK l_1 cf wX:Rat}{k:Nat}(bE:Sz k aK)(bK:Sz k l_1)(bI:Sz k cf)(A9:Sz k wX):Sz (20*k+19) ((((l_1)*(((-(cf))*(((aK)*(aK))+((l_1)*(l_1)))⁻¹))))+((((-(aK)))*(wX)))):=by
 have bh:Sz (10*k+9) ((aK)*(((-(cf))*(((aK)*(aK))+((l_1)*(l_1)))⁻¹))):=Sz.mono ((dK (Sz.mono bE (by omega):Sz (1*k+0) _) (Sz.mono bK (by omega):Sz (1*k+0) _) (Sz.mono bI (by omega):Sz (1*k+0) _))) (by omega)
 have cS:Sz (10*k+9) ((l_1)*(((-(cf))*(((aK)*(aK))+((l_1)*(l_1)))⁻¹))):=Sz.mono ((dL (Sz.mono bE (by omega):Sz (1*k+0) _) (Sz.mono bK (by omega):Sz (1*k+0) _) (Sz.mono bI (by omega):Sz (1*k+0) _))) (by omega)
 have bL:Sz (1*k+0) (l_1):=Sz.mono ((iW (Sz.mono bE (by omega):Sz (1*k+0) _) (Sz.mono bK (by omega):Sz (1*k+0) _) (Sz.mono bI (by omega):Sz (1*k+0) _))) (by omega)
 have BE:Sz (1*k+0) (-(aK)):=Sz.mono ((iX (Sz.mono bE (by omega):Sz (1*k+0) _) (Sz.mono bK (by omega):Sz (1*k+0) _) (Sz.mono bI (by omega):Sz (1*k+0) _))) (by omega)
 have dp:Sz (2*k+1) ((l_1)*(wX)):=Sz.mono ((cz (Sz.mono bL (by omega):Sz (1*k+0) _) (Sz.mono BE (by omega):Sz (1*k+0) _) (Sz.mono A9 (by omega):Sz (1*k+0) _))) (by omega)
 have BF:Sz (2*k+1) (((-(aK)))*(wX)):=Sz.mono ((cA (Sz.mono bL (by omega):Sz (1*k+0) _) (Sz.mono BE (by omega):Sz (1*k+0) _) (Sz.mono A9 (by omega):Sz (1*k+0) _))) (by omega)
 have ky:Sz (20*k+19) ((((aK)*(((-(cf))*(((aK)*(aK))+((l_1)*(l_1)))⁻¹))))+(((l_1)*(wX)))):=Sz.mono ((iY (Sz.mono bh (by omega):Sz (10*k+9) _) (Sz.mono cS (by omega):Sz (10*k+9) _) (Sz.mono dp (by omega):Sz (10*k+9) _) (Sz.mono BF (by omega):Sz (10*k+9) _))) (by omega)
 have OU:Sz (20*k+19) ((((l_1)*(((-(cf))*(((aK)*(aK))+((l_1)*(l_1)))⁻¹))))+((((-(aK)))*(wX)))):=Sz.mono ((iZ (Sz.mono bh (by omega):Sz (10*k+9) _) (Sz.mono cS (by omega):Sz (10*k+9) _) (Sz.mono dp (by omega):Sz (10*k+9) _) (Sz.mono BF (by omega):Sz (10*k+9) _))) (by omega)
 exact Sz.mono OU (by omega)
theorem kM {V:View}{v w:Value}{x y:Rat}(hx:RQ V v x)(hy:RQ V w y)(hy0:y.num≠0){k m:Nat}(hk:Sz k x)(hm:Sz m y)(hkm:k+m<274877906944) :
  ab prog 158 #[v,w] V fun r V'=>RQ V' r (x*y⁻¹):=by
 obtain ⟨p,n,c,p',n',c',rfl,hx1,hx2⟩:=hx
 obtain ⟨q,i,e,q',i',e',rfl,hy1,hy2⟩:=hy
 have PV:=eu hm
 have q1:=af hk.1
 have q2:=af hk.2
 have q3:=af hm.1
 have q4:=af PV.1
 have iv:(y⁻¹).num=(if decide (y.num<0)=true then -((y.den:Nat):Int) else ((y.den:Nat):Int))/\(y⁻¹).den=y.num.natAbs:=by
  rcases Int.lt_or_gt_of_ne hy0 with h|h
  ·rw [if_pos (decide_eq_true h)];exact inv_neg h
  ·rw [if_neg (fun hh=>by have:=of_decide_eq_true hh;omega)];exact inv_pos h
 have hxy:x*y⁻¹=mkRat (x.num*(y⁻¹).num) (x.den*(y⁻¹).den):=Rat.mul_def' x y⁻¹
 have b1:(x.num*(y⁻¹).num).natAbs<2^(k+m):=by rw [Int.natAbs_mul];exact bM hk.1 PV.1
 have b2:x.den*(y⁻¹).den<2^(k+m):=bM hk.2 PV.2
 refine DN _ p n c p' n' c' _ q i e q' i' e' V _ fun V1 l1=>(cM y _ (hy2.le l1)).mono ?_
 rintro r V2 l2 ⟨p1,n1,c1,rfl,g1⟩
 refine ⟨_,_,_,rfl,fun V3 l3=>(dW _ (g1.le l3)).mono ?_⟩
 rw [←iv.1]
 rintro r V4 l4 ⟨p4,n4,c4,rfl,g4⟩
 refine ⟨_,_,_,_,rfl,fun V5 l5=>(j_ x.num (y⁻¹).num (hx1.le (l1.trans (l2.trans (l3.trans (l4.trans l5))))) (g4.le l5) (by omega)).mono ?_⟩
 rintro r V6 l6 ⟨p6,n6,c6,rfl,g6⟩
 have MJ:=l1.trans (l2.trans (l3.trans (l4.trans (l5.trans l6))))
 refine ⟨_,_,_,_,rfl,fun V7 l7=>(cM x _ (hx2.le (MJ.trans l7))).mono ?_⟩
 rintro r V8 l8 ⟨p8,n8,c8,rfl,g8⟩
 refine ⟨_,_,_,rfl,fun V9 l9=>(cw (g8.le l9) (hy1.le (MJ.trans (l7.trans (l8.trans l9)))) (by omega)).mono ?_⟩
 rintro r jh l10 ⟨Gk,n10,c10,rfl,g10⟩
 rw [ae,ae,←iv.2] at g10
 refine ⟨_,_,_,rfl,fun jd bG=>(iH _ (g6.le (l7.trans (l8.trans (l9.trans (l10.trans bG))))) (g10.le bG) (Nat.le_trans (af b1) (by omega)) (Nat.le_trans (af b2) (by omega)) (Nat.mul_ne_zero x.den_nz (y⁻¹).den_nz)).mono ?_⟩
 rw [hxy]
 rintro r t_ jc ⟨XG,n21,c21,XH,n22,Wr,rfl,g21,g22⟩
 exact ⟨_,_,_,_,_,_,_,rfl,fun zY gU=>⟨_,_,_,_,_,_,rfl,g21.le gU,g22.le gU⟩⟩
theorem G2 {V:View}(z:Int){p:OA}{n c:Nat}(h:RD V p n c (ag z.natAbs)) :
  ab prog 156 #[.agg #[.bool (decide (z<0)),.slice p n c]] V fun r V'=>RQ V' r (z:Rat):=
 FB _ p n c V _ fun V1 l1=>nS (z:=z) (d:=1) rfl rfl (h.le l1) RD.nil rfl
theorem uz {V:View}{v:Value}{q:Rat}(h:RQ V v q){k:Nat}(_s:Sz k q)(_hk:k<=1099511627776):ab prog 57 #[v] V fun r V'=>RQ V' r (-q):=by
 obtain ⟨p,n,c,p',n',c',rfl,h1,h2⟩:=h
 exact mU q h1 h2
theorem a_ {V:View}{z:Int}{p:OA}{n c:Nat}(h:RD V p n c (ag z.natAbs)){k:Nat}(_s:Sz k (z:Rat))(_hk:k<=1099511627776) :
  ab prog 156 #[.agg #[.bool (decide (z<0)),.slice p n c]] V fun r V'=>RQ V' r (z:Rat):=G2 z h
theorem fr {V:View}{l:Value}{aK l_1 cf:Int}(hl:RL V l aK l_1 cf){k:Nat}(bE:Sz k ((aK:Int):Rat))(bK:Sz k ((l_1:Int):Rat))(bI:Sz k ((cf:Int):Rat))(hk:1*k+1<274877906944) :
  ab prog 87 #[l] V fun r V'=>RP V' r (((l_1:Int):Rat)) (-(((aK:Int):Rat))):=by
 have hl0:=hl
 obtain ⟨l0,l1,l2,l3,l4,l5,l6,l7,l8,rfl,qS,qT,sQ⟩:=hl
 refine Bv _ l0 l1 l2 _ l3 l4 l5 _ l6 l7 l8 V _ fun V1 l1=>(a_ (qT.le (l1)) bK (by omega)).mono ?_
 rintro r V2 l2 g1
 have g10:=g1
 obtain ⟨OO,OP,OQ,XQ,XR,XS,rfl⟩:=g1.shape
 have bh:Sz (1*k+0) (((l_1:Int):Rat)):=Sz.mono (bK) (by omega)
 refine ⟨_,_,_,_,_,_,_,rfl,fun V3 l3=>(a_ (qS.le (l1.trans (l2.trans (l3)))) bE (by omega)).mono ?_⟩
 rintro r V4 l4 g2
 have g20:=g2
 obtain ⟨KB,KC,KD,Sn,So,Sq,rfl⟩:=g2.shape
 have bL:Sz (1*k+0) (((aK:Int):Rat)):=Sz.mono (bE) (by omega)
 refine ⟨_,_,_,_,_,_,_,rfl,fun V5 l5=>(uz (g20.le (l5)) bL (by omega)).mono ?_⟩
 rintro r V6 l6 g3
 have kW:=g3
 obtain ⟨M4,M5,M6,Sr,Ss,Su,rfl⟩:=g3.shape
 have dp:Sz (1*k+0) (-(((aK:Int):Rat))):=Sz.mono (Sz.neg bL) (by omega)
 exact ⟨_,_,_,_,_,_,_,rfl,fun V7 l7=>⟨_,_,_,_,_,_,_,_,_,_,_,_,rfl,(g10.le (l3.trans (l4.trans (l5.trans (l6.trans (l7)))))),(kW.le (l7))⟩⟩
theorem nY {aK:Int}{l_1:Int}{cf:Int}{k:Nat}(bE:Sz k ((aK:Int):Rat))(bK:Sz k ((l_1:Int):Rat))(bI:Sz k ((cf:Int):Rat)):Sz (1*k+0) (((l_1:Int):Rat)):=by
 have bh:Sz (1*k+0) (((l_1:Int):Rat)):=Sz.mono (bK) (by omega)
 have bL:Sz (1*k+0) (((aK:Int):Rat)):=Sz.mono (bE) (by omega)
 have dp:Sz (1*k+0) (-(((aK:Int):Rat))):=Sz.mono (Sz.neg bL) (by omega)
 exact Sz.mono bh (by omega)
theorem nZ {aK:Int}{l_1:Int}{cf:Int}{k:Nat}(bE:Sz k ((aK:Int):Rat))(bK:Sz k ((l_1:Int):Rat))(bI:Sz k ((cf:Int):Rat)):Sz (1*k+0) (-(((aK:Int):Rat))):=by
 have bh:Sz (1*k+0) (((l_1:Int):Rat)):=Sz.mono (bK) (by omega)
 have bL:Sz (1*k+0) (((aK:Int):Rat)):=Sz.mono (bE) (by omega)
 have dp:Sz (1*k+0) (-(((aK:Int):Rat))):=Sz.mono (Sz.neg bL) (by omega)
 exact Sz.mono dp (by omega)
theorem mb {V:View}{p:Value}{cW cX:Rat}{q:Value}{jA jB:Rat}(hp:RP V p cW cX)(hq:RP V q jA jB){k:Nat}(dB:Sz k cW)(dC:Sz k cX)(jO:Sz k jA)(jP:Sz k jB)(hk:4*k+3<274877906944) :
  ab prog 194 #[p,q] V fun r V'=>RQ V' r (((cW)*(jA))+((cX)*(jB))):=by
 have hp0:=hp
 obtain ⟨p0,p1,p2,p3,p4,p5,p6,p7,p8,p9,Gk,Lw,rfl,qU,qV⟩:=hp
 have hq0:=hq
 obtain ⟨q0,q1,q2,q3,q4,q5,q6,q7,q8,q9,Lz,q11,rfl,EF,EG⟩:=hq
 refine Bw _ p0 p1 p2 p3 p4 p5 _ p6 p7 p8 p9 Gk Lw _ q0 q1 q2 q3 q4 q5 _ q6 q7 q8 q9 Lz q11 V _ fun V1 l1=>(aN (qU.le (l1)) (EF.le (l1)) dB jO (by omega)).mono ?_
 rintro r V2 l2 g1
 have g10:=g1
 obtain ⟨OO,OP,OQ,XQ,XR,XS,rfl⟩:=g1.shape
 have bh:Sz (2*k+1) ((cW)*(jA)):=Sz.mono (Sz.mul dB jO) (by omega)
 refine ⟨_,_,_,_,_,_,_,rfl,fun V3 l3=>(aN (qV.le (l1.trans (l2.trans (l3)))) (EG.le (l1.trans (l2.trans (l3)))) dC jP (by omega)).mono ?_⟩
 rintro r V4 l4 g2
 have g20:=g2
 obtain ⟨KB,KC,KD,Sn,So,Sq,rfl⟩:=g2.shape
 have bL:Sz (2*k+1) ((cX)*(jB)):=Sz.mono (Sz.mul dC jP) (by omega)
 refine ⟨_,_,_,_,_,_,_,rfl,fun V5 l5=>(dz (g10.le (l3.trans (l4.trans (l5)))) (g20.le (l5)) bh bL (by omega)).mono ?_⟩
 rintro r V6 l6 g3
 have kW:=g3
 obtain ⟨M4,M5,M6,Sr,Ss,Su,rfl⟩:=g3.shape
 have dp:Sz (4*k+3) (((cW)*(jA))+((cX)*(jB))):=Sz.mono (Sz.add bh bL) (by omega)
 exact ⟨_,_,_,_,_,_,_,rfl,fun V7 l7=>(kW.le (l7))⟩
theorem jU {cW:Rat}{cX:Rat}{jA:Rat}{jB:Rat}{k:Nat}(dB:Sz k cW)(dC:Sz k cX)(jO:Sz k jA)(jP:Sz k jB):Sz (4*k+3) (((cW)*(jA))+((cX)*(jB))):=by
 have bh:Sz (2*k+1) ((cW)*(jA)):=Sz.mono (Sz.mul dB jO) (by omega)
 have bL:Sz (2*k+1) ((cX)*(jB)):=Sz.mono (Sz.mul dC jP) (by omega)
 have dp:Sz (4*k+3) (((cW)*(jA))+((cX)*(jB))):=Sz.mono (Sz.add bh bL) (by omega)
 exact Sz.mono dp (by omega)
theorem xw {V:View}{l:Value}{aK l_1 cf:Int}{p:Value}{cW cX:Rat}(hl:RL V l aK l_1 cf)(hp:RP V p cW cX){k:Nat}(bE:Sz k ((aK:Int):Rat))(bK:Sz k ((l_1:Int):Rat))(bI:Sz k ((cf:Int):Rat))(dB:Sz k cW)(dC:Sz k cX)(hk:5*k+4<274877906944) :
  ab prog 129 #[l,p] V fun r V'=>RQ V' r ((((((aK:Int):Rat))*(cW))+((((l_1:Int):Rat))*(cX)))+(((cf:Int):Rat))):=by
 have hl0:=hl
 obtain ⟨l0,l1,l2,l3,l4,l5,l6,l7,l8,rfl,qS,qT,sQ⟩:=hl
 have hp0:=hp
 obtain ⟨p0,p1,p2,p3,p4,p5,p6,p7,p8,p9,Gk,Lw,rfl,qU,qV⟩:=hp
 refine wR _ l0 l1 l2 _ l3 l4 l5 _ l6 l7 l8 _ p0 p1 p2 p3 p4 p5 _ p6 p7 p8 p9 Gk Lw V _ fun V1 l1=>(a_ (qS.le (l1)) bE (by omega)).mono ?_
 rintro r V2 l2 g1
 have g10:=g1
 obtain ⟨OO,OP,OQ,XQ,XR,XS,rfl⟩:=g1.shape
 have bh:Sz (1*k+0) (((aK:Int):Rat)):=Sz.mono (bE) (by omega)
 refine ⟨_,_,_,_,_,_,_,rfl,fun V3 l3=>(aN (g10.le (l3)) (qU.le (l1.trans (l2.trans (l3)))) bh dB (by omega)).mono ?_⟩
 rintro r V4 l4 g2
 have g20:=g2
 obtain ⟨KB,KC,KD,Sn,So,Sq,rfl⟩:=g2.shape
 have bL:Sz (2*k+1) ((((aK:Int):Rat))*(cW)):=Sz.mono (Sz.mul bh dB) (by omega)
 refine ⟨_,_,_,_,_,_,_,rfl,fun V5 l5=>(a_ (qT.le (l1.trans (l2.trans (l3.trans (l4.trans (l5)))))) bK (by omega)).mono ?_⟩
 rintro r V6 l6 g3
 have kW:=g3
 obtain ⟨M4,M5,M6,Sr,Ss,Su,rfl⟩:=g3.shape
 have dp:Sz (1*k+0) (((l_1:Int):Rat)):=Sz.mono (bK) (by omega)
 refine ⟨_,_,_,_,_,_,_,rfl,fun V7 l7=>(aN (kW.le (l7)) (qV.le (l1.trans (l2.trans (l3.trans (l4.trans (l5.trans (l6.trans (l7)))))))) dp dC (by omega)).mono ?_⟩
 rintro r V8 l8 g4
 have Ex:=g4
 obtain ⟨VA,VB,VC,XU,XV,XW,rfl⟩:=g4.shape
 have ky:Sz (2*k+1) ((((l_1:Int):Rat))*(cX)):=Sz.mono (Sz.mul dp dC) (by omega)
 refine ⟨_,_,_,_,_,_,_,rfl,fun V9 l9=>(dz (g20.le (l5.trans (l6.trans (l7.trans (l8.trans (l9)))))) (Ex.le (l9)) bL ky (by omega)).mono ?_⟩
 rintro r jh l10 g5
 have IC:=g5
 obtain ⟨w4a,w4b,w4c,w4d,w4e,w4f,rfl⟩:=g5.shape
 have wV:Sz (4*k+3) (((((aK:Int):Rat))*(cW))+((((l_1:Int):Rat))*(cX))):=Sz.mono (Sz.add bL ky) (by omega)
 refine ⟨_,_,_,_,_,_,_,rfl,fun jd bG=>(a_ (sQ.le (l1.trans (l2.trans (l3.trans (l4.trans (l5.trans (l6.trans (l7.trans (l8.trans (l9.trans (l10.trans (bG)))))))))))) bI (by omega)).mono ?_⟩
 rintro r nF cN g6
 have NC:=g6
 obtain ⟨w5a,w5b,w5c,w5d,w5e,w5f,rfl⟩:=g6.shape
 have Km:Sz (1*k+0) (((cf:Int):Rat)):=Sz.mono (bI) (by omega)
 refine ⟨_,_,_,_,_,_,_,rfl,fun rH dg=>(dz (IC.le (bG.trans (cN.trans (dg)))) (NC.le (dg)) wV Km (by omega)).mono ?_⟩
 rintro r nG dE g7
 have ID:=g7
 obtain ⟨w6a,w6b,w6c,w6d,w6e,w6f,rfl⟩:=g7.shape
 have VE:Sz (5*k+4) ((((((aK:Int):Rat))*(cW))+((((l_1:Int):Rat))*(cX)))+(((cf:Int):Rat))):=Sz.mono (Sz.add wV Km) (by omega)
 exact ⟨_,_,_,_,_,_,_,rfl,fun lU dO=>(ID.le (dO))⟩
theorem xo {V:View}{l:Value}{aK l_1 cf:Int}{p:Value}{cW cX:Rat}(hl:RL V l aK l_1 cf)(hp:RP V p cW cX)(hd0:((((((l_1:Int):Rat)))*((((l_1:Int):Rat))))+(((-(((aK:Int):Rat))))*((-(((aK:Int):Rat)))))).num≠0){k:Nat}(bE:Sz k ((aK:Int):Rat))(bK:Sz k ((l_1:Int):Rat))(bI:Sz k ((cf:Int):Rat))(dB:Sz k cW)(dC:Sz k cX)(hk:8*k+7<274877906944) :
  ab prog 154 #[l,p] V fun r V'=>RQ V' r ((((cW)*((((l_1:Int):Rat))))+((cX)*((-(((aK:Int):Rat))))))*((((((l_1:Int):Rat)))*((((l_1:Int):Rat))))+(((-(((aK:Int):Rat))))*((-(((aK:Int):Rat))))))⁻¹):=by
 have hl0:=hl
 obtain ⟨l0,l1,l2,l3,l4,l5,l6,l7,l8,rfl,qS,qT,sQ⟩:=hl
 have hp0:=hp
 obtain ⟨p0,p1,p2,p3,p4,p5,p6,p7,p8,p9,Gk,Lw,rfl,qU,qV⟩:=hp
 refine wO _ l0 l1 l2 _ l3 l4 l5 _ l6 l7 l8 _ p0 p1 p2 p3 p4 p5 _ p6 p7 p8 p9 Gk Lw V _ fun V1 l1=>(fr (hl0.le (l1)) (Sz.mono bE (by omega):Sz (1*k+0) _) (Sz.mono bK (by omega):Sz (1*k+0) _) (Sz.mono bI (by omega):Sz (1*k+0) _) (by omega)).mono ?_
 rintro r V2 l2 g1
 have g10:=g1
 obtain ⟨Mc,Md,Me,Mf,Mg,Mh,Vv,Vw,Vx,Vy,Rp,Rq,rfl,K0,K1⟩:=g1
 have bh:Sz (1*k+0) (((l_1:Int):Rat)):=Sz.mono ((nY (Sz.mono bE (by omega):Sz (1*k+0) _) (Sz.mono bK (by omega):Sz (1*k+0) _) (Sz.mono bI (by omega):Sz (1*k+0) _))) (by omega)
 have cS:Sz (1*k+0) (-(((aK:Int):Rat))):=Sz.mono ((nZ (Sz.mono bE (by omega):Sz (1*k+0) _) (Sz.mono bK (by omega):Sz (1*k+0) _) (Sz.mono bI (by omega):Sz (1*k+0) _))) (by omega)
 refine ⟨_,_,_,_,_,_,_,_,_,_,_,_,_,_,rfl,fun V3 l3=>(mb (hp0.le (l1.trans (l2.trans (l3)))) (g10.le (l3)) (Sz.mono dB (by omega):Sz (1*k+0) _) (Sz.mono dC (by omega):Sz (1*k+0) _) (Sz.mono bh (by omega):Sz (1*k+0) _) (Sz.mono cS (by omega):Sz (1*k+0) _) (by omega)).mono ?_⟩
 rintro r V4 l4 g2
 have g20:=g2
 obtain ⟨KB,KC,KD,Sn,So,Sq,rfl⟩:=g2.shape
 have bL:Sz (4*k+3) (((cW)*((((l_1:Int):Rat))))+((cX)*((-(((aK:Int):Rat)))))):=Sz.mono ((jU (Sz.mono dB (by omega):Sz (1*k+0) _) (Sz.mono dC (by omega):Sz (1*k+0) _) (Sz.mono bh (by omega):Sz (1*k+0) _) (Sz.mono cS (by omega):Sz (1*k+0) _))) (by omega)
 refine ⟨_,_,_,_,_,_,_,rfl,fun V5 l5=>(mb (g10.le (l3.trans (l4.trans (l5)))) (g10.le (l3.trans (l4.trans (l5)))) (Sz.mono bh (by omega):Sz (1*k+0) _) (Sz.mono cS (by omega):Sz (1*k+0) _) (Sz.mono bh (by omega):Sz (1*k+0) _) (Sz.mono cS (by omega):Sz (1*k+0) _) (by omega)).mono ?_⟩
 rintro r V6 l6 g3
 have kW:=g3
 obtain ⟨M4,M5,M6,Sr,Ss,Su,rfl⟩:=g3.shape
 have dp:Sz (4*k+3) ((((((l_1:Int):Rat)))*((((l_1:Int):Rat))))+(((-(((aK:Int):Rat))))*((-(((aK:Int):Rat)))))):=Sz.mono ((jU (Sz.mono bh (by omega):Sz (1*k+0) _) (Sz.mono cS (by omega):Sz (1*k+0) _) (Sz.mono bh (by omega):Sz (1*k+0) _) (Sz.mono cS (by omega):Sz (1*k+0) _))) (by omega)
 refine ⟨_,_,_,_,_,_,_,rfl,fun V7 l7=>(kM (g20.le (l5.trans (l6.trans (l7)))) (kW.le (l7)) hd0 bL dp (by omega)).mono ?_⟩
 rintro r V8 l8 g4
 have Ex:=g4
 obtain ⟨VA,VB,VC,XU,XV,XW,rfl⟩:=g4.shape
 have ky:Sz (8*k+7) ((((cW)*((((l_1:Int):Rat))))+((cX)*((-(((aK:Int):Rat))))))*((((((l_1:Int):Rat)))*((((l_1:Int):Rat))))+(((-(((aK:Int):Rat))))*((-(((aK:Int):Rat))))))⁻¹):=Sz.mono (Sz.mul bL (eu dp)) (by omega)
 exact ⟨_,_,_,_,_,_,_,rfl,fun V9 l9=>(Ex.le (l9))⟩
theorem Am {V:View}{l:Value}{aK l_1 cf:Int}(hl:RL V l aK l_1 cf)(hd0:((((((l_1:Int):Rat)))*((((l_1:Int):Rat))))+(((-(((aK:Int):Rat))))*((-(((aK:Int):Rat)))))).num≠0){k:Nat}(bE:Sz k ((aK:Int):Rat))(bK:Sz k ((l_1:Int):Rat))(bI:Sz k ((cf:Int):Rat))(hk:6*k+5<274877906944) :
  ab prog 153 #[l] V fun r V'=>RP V' r ((-((((cf:Int):Rat))*((((((l_1:Int):Rat)))*((((l_1:Int):Rat))))+(((-(((aK:Int):Rat))))*((-(((aK:Int):Rat))))))⁻¹))*(((aK:Int):Rat))) ((-((((cf:Int):Rat))*((((((l_1:Int):Rat)))*((((l_1:Int):Rat))))+(((-(((aK:Int):Rat))))*((-(((aK:Int):Rat))))))⁻¹))*(((l_1:Int):Rat))):=by
 have hl0:=hl
 obtain ⟨l0,l1,l2,l3,l4,l5,l6,l7,l8,rfl,qS,qT,sQ⟩:=hl
 refine yk _ l0 l1 l2 _ l3 l4 l5 _ l6 l7 l8 V _ fun V1 l1=>(fr (hl0.le (l1)) (Sz.mono bE (by omega):Sz (1*k+0) _) (Sz.mono bK (by omega):Sz (1*k+0) _) (Sz.mono bI (by omega):Sz (1*k+0) _) (by omega)).mono ?_
 rintro r V2 l2 g1
 have g10:=g1
 obtain ⟨Mc,Md,Me,Mf,Mg,Mh,Vv,Vw,Vx,Vy,Rp,Rq,rfl,K0,K1⟩:=g1
 have bh:Sz (1*k+0) (((l_1:Int):Rat)):=Sz.mono ((nY (Sz.mono bE (by omega):Sz (1*k+0) _) (Sz.mono bK (by omega):Sz (1*k+0) _) (Sz.mono bI (by omega):Sz (1*k+0) _))) (by omega)
 have cS:Sz (1*k+0) (-(((aK:Int):Rat))):=Sz.mono ((nZ (Sz.mono bE (by omega):Sz (1*k+0) _) (Sz.mono bK (by omega):Sz (1*k+0) _) (Sz.mono bI (by omega):Sz (1*k+0) _))) (by omega)
 refine ⟨_,_,_,_,_,_,_,_,_,_,_,_,_,_,rfl,fun V3 l3=>(a_ (sQ.le (l1.trans (l2.trans (l3)))) bI (by omega)).mono ?_⟩
 rintro r V4 l4 g2
 have g20:=g2
 obtain ⟨KB,KC,KD,Sn,So,Sq,rfl⟩:=g2.shape
 have bL:Sz (1*k+0) (((cf:Int):Rat)):=Sz.mono (bI) (by omega)
 refine ⟨_,_,_,_,_,_,_,rfl,fun V5 l5=>(mb (g10.le (l3.trans (l4.trans (l5)))) (g10.le (l3.trans (l4.trans (l5)))) (Sz.mono bh (by omega):Sz (1*k+0) _) (Sz.mono cS (by omega):Sz (1*k+0) _) (Sz.mono bh (by omega):Sz (1*k+0) _) (Sz.mono cS (by omega):Sz (1*k+0) _) (by omega)).mono ?_⟩
 rintro r V6 l6 g3
 have kW:=g3
 obtain ⟨M4,M5,M6,Sr,Ss,Su,rfl⟩:=g3.shape
 have dp:Sz (4*k+3) ((((((l_1:Int):Rat)))*((((l_1:Int):Rat))))+(((-(((aK:Int):Rat))))*((-(((aK:Int):Rat)))))):=Sz.mono ((jU (Sz.mono bh (by omega):Sz (1*k+0) _) (Sz.mono cS (by omega):Sz (1*k+0) _) (Sz.mono bh (by omega):Sz (1*k+0) _) (Sz.mono cS (by omega):Sz (1*k+0) _))) (by omega)
 refine ⟨_,_,_,_,_,_,_,rfl,fun V7 l7=>(kM (g20.le (l5.trans (l6.trans (l7)))) (kW.le (l7)) hd0 bL dp (by omega)).mono ?_⟩
 rintro r V8 l8 g4
 have Ex:=g4
 obtain ⟨VA,VB,VC,XU,XV,XW,rfl⟩:=g4.shape
 have ky:Sz (5*k+4) ((((cf:Int):Rat))*((((((l_1:Int):Rat)))*((((l_1:Int):Rat))))+(((-(((aK:Int):Rat))))*((-(((aK:Int):Rat))))))⁻¹):=Sz.mono (Sz.mul bL (eu dp)) (by omega)
 refine ⟨_,_,_,_,_,_,_,rfl,fun V9 l9=>(uz (Ex.le (l9)) ky (by omega)).mono ?_⟩
 rintro r jh l10 g5
 have IC:=g5
 obtain ⟨w4a,w4b,w4c,w4d,w4e,w4f,rfl⟩:=g5.shape
 have wV:Sz (5*k+4) (-((((cf:Int):Rat))*((((((l_1:Int):Rat)))*((((l_1:Int):Rat))))+(((-(((aK:Int):Rat))))*((-(((aK:Int):Rat))))))⁻¹)):=Sz.mono (Sz.neg ky) (by omega)
 refine ⟨_,_,_,_,_,_,_,rfl,fun jd bG=>(a_ (qS.le (l1.trans (l2.trans (l3.trans (l4.trans (l5.trans (l6.trans (l7.trans (l8.trans (l9.trans (l10.trans (bG)))))))))))) bE (by omega)).mono ?_⟩
 rintro r nF cN g6
 have NC:=g6
 obtain ⟨w5a,w5b,w5c,w5d,w5e,w5f,rfl⟩:=g6.shape
 have Km:Sz (1*k+0) (((aK:Int):Rat)):=Sz.mono (bE) (by omega)
 refine ⟨_,_,_,_,_,_,_,rfl,fun rH dg=>(aN (IC.le (bG.trans (cN.trans (dg)))) (NC.le (dg)) wV Km (by omega)).mono ?_⟩
 rintro r nG dE g7
 have ID:=g7
 obtain ⟨w6a,w6b,w6c,w6d,w6e,w6f,rfl⟩:=g7.shape
 have VE:Sz (6*k+5) ((-((((cf:Int):Rat))*((((((l_1:Int):Rat)))*((((l_1:Int):Rat))))+(((-(((aK:Int):Rat))))*((-(((aK:Int):Rat))))))⁻¹))*(((aK:Int):Rat))):=Sz.mono (Sz.mul wV Km) (by omega)
 refine ⟨_,_,_,_,_,_,_,rfl,fun lU dO=>(a_ (qT.le (l1.trans (l2.trans (l3.trans (l4.trans (l5.trans (l6.trans (l7.trans (l8.trans (l9.trans (l10.trans (bG.trans (cN.trans (dg.trans (dE.trans (dO)))))))))))))))) bK (by omega)).mono ?_⟩
 rintro r lR dv g8
 have PJ:=g8
 obtain ⟨w7a,w7b,w7c,w7d,w7e,w7f,rfl⟩:=g8.shape
 have RC:Sz (1*k+0) (((l_1:Int):Rat)):=Sz.mono (bK) (by omega)
 refine ⟨_,_,_,_,_,_,_,rfl,fun nH c_=>(aN (IC.le (bG.trans (cN.trans (dg.trans (dE.trans (dO.trans (dv.trans (c_)))))))) (PJ.le (c_)) wV RC (by omega)).mono ?_⟩
 rintro r qm dM g9
 have Tk:=g9
 obtain ⟨w8a,w8b,w8c,w8d,w8e,w8f,rfl⟩:=g9.shape
 have z9_0:Sz (6*k+5) ((-((((cf:Int):Rat))*((((((l_1:Int):Rat)))*((((l_1:Int):Rat))))+(((-(((aK:Int):Rat))))*((-(((aK:Int):Rat))))))⁻¹))*(((l_1:Int):Rat))):=Sz.mono (Sz.mul wV RC) (by omega)
 exact ⟨_,_,_,_,_,_,_,rfl,fun rI dF=>⟨_,_,_,_,_,_,_,_,_,_,_,_,rfl,(ID.le (dO.trans (dv.trans (c_.trans (dM.trans (dF)))))),(Tk.le (dF))⟩⟩
theorem RA.shape {V:View}{v:Value}{q:Rat}(h:RA V v q):∃b p n c p' n' c',v=.agg #[.bool b,.slice p n c,.slice p' n' c']:=by
 obtain ⟨p,n,c,p',n',c',e,-⟩:=h;exact ⟨_,_,_,_,_,_,_,e⟩
def H2 (V:View)(v:Value)(x y:Rat):Prop:=∃b p n c p' n' c' d q m e q' m' e',v=.agg #[.bool b,.slice p n c,.slice p' n' c',.bool d,.slice q m e,.slice q' m' e'] /\
 RA V (.agg #[.bool b,.slice p n c,.slice p' n' c']) x/\RA V (.agg #[.bool d,.slice q m e,.slice q' m' e']) y
theorem H2.le {V V':View}{v:Value}{x y:Rat}(h:H2 V v x y)(l:V.Le V'):H2 V' v x y:=by
 obtain ⟨b,p,n,c,p',n',c',d,q,m,e,q',m',e',rfl,h1,h2⟩:=h
 exact ⟨_,_,_,_,_,_,_,_,_,_,_,_,_,_,rfl,h1.le l,h2.le l⟩
theorem Ee {V:View}{v:Value}{x y:Rat}(h:H2 V v x y){k:Nat}(s1:Sz k x)(s2:Sz k y)(hk:k<=1099511627776) :
  ab prog 115 #[v] V fun r V'=>oX V' r x y:=by
 obtain ⟨b,p,n,c,p',n',c',d,q,m,e,q',m',e',rfl,h1,h2⟩:=h
 refine sK b p n c p' n' c' d q m e q' m' e' V _ fun V1 l1=>(yY (h1.le l1) s1 hk).mono ?_
 rintro r V2 l2 g1
 have g10:=g1
 obtain ⟨u,v,w,rfl⟩:=g1.shape
 refine ⟨_,_,_,rfl,fun V3 l3=>(yY (h2.le (l1.trans (l2.trans l3))) s2 hk).mono ?_⟩
 rintro r V4 l4 g2
 have g20:=g2
 obtain ⟨u,v,w,rfl⟩:=g2.shape
 exact ⟨_,_,_,rfl,fun V5 l5=>⟨_,_,_,_,_,_,rfl,g10.le (l3.trans (l4.trans l5)),g20.le l5⟩⟩
theorem Aj {V:View}{v:Value}{x y:Rat}(h:oX V v x y){k:Nat}(s1:Sz k x)(s2:Sz k y)(hk:k<=1099511627776) :
  ab prog 80 #[v] V fun r V'=>H2 V' r x y:=by
 obtain ⟨p0,p1,p2,p3,p4,p5,rfl,h1,h2⟩:=h
 refine xY p0 p1 p2 p3 p4 p5 V _ fun V1 l1=>(Ah (h1.le l1) s1 hk).mono ?_
 rintro r V2 l2 g1
 have g10:=g1
 obtain ⟨_,_,_,_,_,_,_,rfl⟩:=g1.shape
 refine ⟨_,_,_,_,_,_,_,rfl,fun V3 l3=>(Ah (h2.le (l1.trans (l2.trans l3))) s2 hk).mono ?_⟩
 rintro r V4 l4 g2
 have g20:=g2
 obtain ⟨_,_,_,_,_,_,_,rfl⟩:=g2.shape
 exact ⟨_,_,_,_,_,_,_,rfl,fun V5 l5=>⟨_,_,_,_,_,_,_,_,_,_,_,_,_,_,rfl,g10.le (l3.trans (l4.trans l5)),g20.le l5⟩⟩
theorem xh {V:View}{l p:Value}{aK l_1 cf cW cX:Rat}(hl:tI V l aK l_1 cf)(hp:oX V p cW cX){k:Nat}(s0:Sz k aK)(s1:Sz k l_1)(s2:Sz k cf)(s3:Sz k cW)(s4:Sz k cX)(hk:16*k+16<274877906944) :
  ab prog 131 #[l,p] V fun r V'=>r=.int .i64 (aK*cW+l_1*cX+cf).num.sign:=by
 have hl0:=hl
 have hp0:=hp
 obtain ⟨a0,a1,a2,a3,a4,a5,a6,a7,a8,rfl,-,-,-⟩:=hl
 obtain ⟨p0,p1,p2,p3,p4,p5,rfl,-,-⟩:=hp
 refine wA a0 a1 a2 a3 a4 a5 a6 a7 a8 p0 p1 p2 p3 p4 p5 V _ fun V1 l1=>(lZ (hl0.le l1) (hp0.le l1) s0 s1 s2 s3 s4 (by omega)).mono ?_
 rintro r V2 l2 g
 have g0:=g
 obtain ⟨u,v,w,rfl⟩:=g.shape
 refine ⟨_,_,_,rfl,fun V3 l3=>(eT (g0.le l3) (kz s0 s1 s2 s3 s4) (by omega)).mono ?_⟩
 rintro r V4 l4 rfl
 exact ⟨_,rfl,fun V5 l5=>rfl⟩
theorem rP {V:View}{v:Value}{q:Rat}(h:RQ V v q){k:Nat}(s:Sz k q)(hk:k<=1099511627776):ab prog 36 #[v] V fun r V'=>RA V' r q:=by
 obtain ⟨p,n,c,p',n',c',rfl,h1,h2⟩:=h
 have q1:=af s.1
 have q2:=af s.2
 refine Br _ p n c p' n' c' V _ fun V1 l1=>(jo ⟨_,_,_,rfl,h1.le l1⟩ (by omega)).mono ?_
 rintro r V2 l2 ⟨p1,n1,c1,rfl,g1⟩
 refine ⟨_,_,_,_,rfl,fun V3 l3=>(cM q _ (h2.le (l1.trans (l2.trans l3)))).mono ?_⟩
 rintro r V4 l4 ⟨p2,n2,c2,rfl,g2⟩
 refine ⟨_,_,_,rfl,fun V5 l5=>(rO (g2.le l5) (by omega)).mono ?_⟩
 rintro r V6 l6 ⟨p3,n3,c3,rfl,g3⟩
 exact ⟨_,_,_,rfl,fun V7 l7=>⟨_,_,_,_,_,_,rfl,g1.le (l3.trans (l4.trans (l5.trans (l6.trans l7)))),g3.le l7⟩⟩
theorem Cb {V:View}{v:Value}{x y:Rat}(h:RP V v x y){k:Nat}(s1:Sz k x)(s2:Sz k y)(hk:k<=1099511627776):ab prog 53 #[v] V fun r V'=>H2 V' r x y:=by
 obtain ⟨p1,n1,c1,p2,n2,c2,p3,n3,c3,p4,n4,c4,rfl,h1,h2⟩:=h
 refine BB _ p1 n1 c1 p2 n2 c2 _ p3 n3 c3 p4 n4 c4 V _ fun V1 l1=>(rP (h1.le l1) s1 hk).mono ?_
 rintro r V2 l2 g1
 have g10:=g1
 obtain ⟨_,_,_,_,_,_,_,rfl⟩:=g1.shape
 refine ⟨_,_,_,_,_,_,_,rfl,fun V3 l3=>(rP (h2.le (l1.trans (l2.trans l3))) s2 hk).mono ?_⟩
 rintro r V4 l4 g2
 have g20:=g2
 obtain ⟨_,_,_,_,_,_,_,rfl⟩:=g2.shape
 exact ⟨_,_,_,_,_,_,_,rfl,fun V5 l5=>⟨_,_,_,_,_,_,_,_,_,_,_,_,_,_,rfl,g10.le (l3.trans (l4.trans l5)),g20.le l5⟩⟩
theorem nM {V:View}{v w:Value}{x y:Rat}(hx:RA V v x)(hy:RA V w y){k:Nat}(s:Sz k x)(hk:k<=1099511627776) :
  ab prog 35 #[v,w] V fun r V'=>r=.bool (decide (x=y)):=by
 obtain ⟨p,n,c,p',n',c',rfl,h1,h2⟩:=hx
 obtain ⟨q,m,e,q',m',e',rfl,h3,h4⟩:=hy
 have q1:=af s.1
 have q2:=af s.2
 refine wK _ p n c p' n' c' _ q m e q' m' e' V _ fun V1 l1=>(gC (h1.le l1) (h3.le l1) (by omega)).mono ?_
 rintro r V2 l2 rfl
 refine ⟨_,rfl,fun g V3 l3=>(nL (h2.le (l1.trans (l2.trans l3))) (h4.le (l1.trans (l2.trans l3))) (by omega)).mono ?_,fun g V6 l6=>?_⟩
 ·have g:=of_decide_eq_true g
  rintro r V4 l4 rfl
  refine ⟨_,rfl,fun V5 l5=>?_⟩
  have e:ag x.den=ag y.den↔x=y:=⟨fun h=>Rat.ext g (by have:=congrArg val h;rwa [ae,ae] at this),fun h=>by rw [h]⟩
  rw [show decide (ag x.den=ag y.den)=decide (x=y) from by rw [decide_eq_decide];exact e]
 ·have g:=of_decide_eq_false g
  rw [decide_eq_false (fun h=>g (by rw [h]))]
theorem xu {V:View}{v w:Value}{x y x' y':Rat}(h:H2 V v x y)(h':H2 V w x' y'){k:Nat}(s1:Sz k x)(s2:Sz k y)(hk:k<=1099511627776) :
  ab prog 89 #[v,w] V fun r V'=>r=.bool (decide (x=x'/\y=y')):=by
 obtain ⟨b,p,n,c,p',n',c',d,q,m,e,q',m',e',rfl,h1,h2⟩:=h
 obtain ⟨b1,p1,n1,c1,QX,n1',c1',d1,q1,m1,e1,q1',ZX,O4,rfl,h3,h4⟩:=h'
 refine wQ b p n c p' n' c' d q m e q' m' e' b1 p1 n1 c1 QX n1' c1' d1 q1 m1 e1 q1' ZX O4 V _ fun V1 l1=>(nM (h1.le l1) (h3.le l1) s1 hk).mono ?_
 rintro r V2 l2 rfl
 refine ⟨_,rfl,fun g V3 l3=>(nM (h2.le (l1.trans (l2.trans l3))) (h4.le (l1.trans (l2.trans l3))) s2 hk).mono ?_,fun g V6 l6=>?_⟩
 ·have g:=of_decide_eq_true g
  rintro r V4 l4 rfl
  exact ⟨_,rfl,fun V5 l5=>by simp [g]⟩
 ·have g:=of_decide_eq_false g
  simp [g]
def QE (a b c:Rat):L3:=
 let f:Nat:=a.den*b.den*c.den
 AG (a*((f:Int):Rat)).num (b*((f:Int):Rat)).num (c*((f:Int):Rat)).num
theorem kN {V:View}(n:Int)(d:Nat)(h0:-1000<=n)(h1:n<=1000)(hd0:d≠0)(hd:d<=1000) :
  ab prog 75 #[.int .i64 n,.int .i64 (d:Int)] V fun r V'=>RQ V' r (mkRat n d):=by
 refine DO n d V _ fun V1 l1=>(zf n (by omega) (by omega)).mono ?_
 rintro r V2 l2 ⟨p,m,c,rfl,g⟩
 rw [aM (by omega)]
 refine ⟨_,_,_,_,rfl,fun V3 l3=>(dA d (by omega)).mono ?_⟩
 rintro r V4 l4 ⟨p2,m2,c2,rfl,g2⟩
 refine ⟨_,_,_,rfl,fun V5 l5=>(iH n (g.le (l3.trans (l4.trans l5))) (g2.le l5) (Nat.le_trans (af (k:=10) (by omega)) (by omega)) (Nat.le_trans (af (k:=10) (by omega)) (by omega)) hd0).mono ?_⟩
 rintro r V6 l6 h
 have h':=h
 obtain ⟨_,_,_,_,_,_,rfl⟩:=h.shape
 exact ⟨_,_,_,_,_,_,_,rfl,fun V7 l7=>h'.le l7⟩
theorem LW:∀x:Fin 9,Sz 10 (mkRat (2*((x.1:Int)-4)+1) 2)/\Sz 10 (mkRat (3*((x.1:Int)-4)+1) 3):=by unfold Sz;decide +kernel
theorem Ww {V:View}{tb:Nat}{p:OA}{n c:Nat}{at_:Int}(hr:HS V p n)(hn:n<=400)(hw:pe V tb p n c at_)(hx:V.X tb)(h0:0<=at_) :
  ab prog 74 #[.pointer (some ⟨tb,0,none⟩)] V fun r V'=>∃(q:Rat)(at':Int),RQ V' r q/\Sz 10 q/\0<=at'/\pe V' tb p n c at':=by
 refine tF tb p n c at_ V _ hw hx fun V1 l1 bk1 e1 h1=>(qC (V:=V1.bo [bk1]) 9 (hr.le fun b o h=>l1 b o h) hn e1 ⟨by simp,h1⟩ h0 (by omega) (by omega)).mono ?_
 rintro r V2 l2 ⟨x,H8,rfl,x0,x1,t1,hw1⟩
 refine ⟨_,rfl,_,_,_,_,hw1,fun V3 l3 S5 e3 h3=>(qC (V:=V3.bo [S5]) 6 (hr.le fun b o h=>l3 b o (l2 b o (l1 b o h))) hn e3 ⟨by simp,h3⟩ t1 (by omega) (by omega)).mono ?_⟩
 rintro r V4 l4 ⟨y,at2,rfl,y0,y1,t2,hw2⟩
 obtain ⟨i,rfl⟩:∃i:Nat,x=i:=⟨x.toNat,by omega⟩
 obtain ⟨z1,z2⟩:=LW ⟨i,by omega⟩
 dsimp only at z1 z2
 have w1:i64.wrap ((i:Int)-4)=(i:Int)-4:=ay (by omega)
 have w2:i64.wrap (i64.wrap (2*((i:Int)-4))+1)=2*((i:Int)-4)+1:=by rw [ay (x:=2*((i:Int)-4)) (by omega),ay (by omega)]
 have w3:i64.wrap (i64.wrap (3*((i:Int)-4))+1)=3*((i:Int)-4)+1:=by rw [ay (x:=3*((i:Int)-4)) (by omega),ay (by omega)]
 rw [w1,w2,w3]
 refine ⟨_,rfl,_,_,_,_,hw2,fun _ V5 l5=>(kN (2*((i:Int)-4)+1) 2 (by omega) (by omega) (by omega) (by omega)).mono ?_,fun _=>⟨fun _ V8 l8=>(kN (3*((i:Int)-4)+1) 3 (by omega) (by omega) (by omega) (by omega)).mono ?_,fun _ jd bG=>(ka ((i:Int)-4) (by omega) (by omega)).mono ?_⟩⟩
 ·rintro r V6 l6 h
  have h':=h
  obtain ⟨_,_,_,_,_,_,rfl⟩:=h.shape
  exact ⟨_,_,_,_,_,_,_,rfl,fun V7 l7 e7=>⟨_,at2,h'.le l7,z1,t2,e7⟩⟩
 ·rintro r V6 l6 h
  have h':=h
  obtain ⟨_,_,_,_,_,_,rfl⟩:=h.shape
  exact ⟨_,_,_,_,_,_,_,rfl,fun V7 l7 e7=>⟨_,at2,h'.le l7,z2,t2,e7⟩⟩
 ·rintro r V6 l6 h
  have h':=h
  obtain ⟨_,_,_,_,_,_,rfl⟩:=h.shape
  exact ⟨_,_,_,_,_,_,_,rfl,fun V7 l7 e7=>⟨_,at2,h'.le l7,Gx (by omega),t2,e7⟩⟩
theorem Ao {V:View}{l p:Value}{aK l_1 cf:Int}{cW cX:Rat}(hl:RL V l aK l_1 cf)(hp:RP V p cW cX){k:Nat}(s0:Sz k ((aK:Int):Rat))(s1:Sz k ((l_1:Int):Rat))(s2:Sz k ((cf:Int):Rat))(s3:Sz k cW)(s4:Sz k cX)(hk:16*k+16<274877906944) :
  ab prog 76 #[l,p] V fun r V'=>r=.int .i64 ((aK:Rat)*cW+(l_1:Rat)*cX+(cf:Rat)).num.sign:=by
 have hl0:=hl
 have hp0:=hp
 obtain ⟨a0,a1,a2,a3,a4,a5,a6,a7,a8,rfl,-,-,-⟩:=hl
 obtain ⟨p0,p1,p2,p3,p4,p5,p6,p7,p8,p9,Gk,Lw,rfl,-,-⟩:=hp
 refine yr _ a0 a1 a2 _ a3 a4 a5 _ a6 a7 a8 _ p0 p1 p2 p3 p4 p5 _ p6 p7 p8 p9 Gk Lw V _ fun V1 l1=>(xw (hl0.le l1) (hp0.le l1) s0 s1 s2 s3 s4 (by omega)).mono ?_
 rintro r V2 l2 ⟨u0,u1,u2,u3,u4,u5,rfl,g1,g2⟩
 refine ⟨_,_,_,_,_,_,_,rfl,fun V3 l3=>(tL _ (g1.le l3)).mono ?_⟩
 rintro r V4 l4 rfl
 exact ⟨_,rfl,fun V5 l5=>rfl⟩
theorem B9 {V:View}{l:Value}{a b c:Int}(hl:RL V l a b c):ab prog 41 #[l] V fun r V'=>RL V' r (-a) (-b) (-c):=by
 obtain ⟨a0,a1,a2,a3,a4,a5,a6,a7,a8,rfl,h1,h2,h3⟩:=hl
 refine Bx _ a0 a1 a2 _ a3 a4 a5 _ a6 a7 a8 V _ fun V1 l1=>(gK a (h1.le l1)).mono ?_
 rintro r V2 l2 ⟨p1,n1,c1,rfl,g1⟩
 refine ⟨_,_,_,_,rfl,fun V3 l3=>(gK b (h2.le (l1.trans (l2.trans l3)))).mono ?_⟩
 rintro r V4 l4 ⟨p2,n2,c2,rfl,g2⟩
 refine ⟨_,_,_,_,rfl,fun V5 l5=>(gK c (h3.le (l1.trans (l2.trans (l3.trans (l4.trans l5)))))).mono ?_⟩
 rintro r V6 l6 ⟨p3,n3,c3,rfl,g3⟩
 exact ⟨_,_,_,_,rfl,fun V7 l7=>⟨_,_,_,_,_,_,_,_,_,rfl,g1.le (l3.trans (l4.trans (l5.trans (l6.trans l7)))),g2.le (l5.trans (l6.trans l7)),g3.le l7⟩⟩
end Go.Proofs.Tryz
namespace Go.bJ
open Go.fo
theorem RR.zero (V:View):RR V (.agg #[.int .i64 0,.int .i64 0,.pointer none]) 0:=.inl ⟨rfl,by unfold Wd;decide⟩
end Go.bJ
namespace Go.Proofs.Tryz
open Go.bJ Go.fo
structure Sp where
 lo:Rat
 hi:Rat
 a:Bool
 b:Bool
def Sp.can (s:Sp):Prop:=(s.a=true->s.lo=0)/\(s.b=true->s.hi=0)
def Sp.sz (k:Nat)(s:Sp):Prop:=Sz k s.lo/\Sz k s.hi
def Sp.zero:Sp:=⟨0,0,false,false⟩
def jV (k:Nat)(l:L3):Prop:=Sz k (l.1:Rat)/\Sz k (l.2.1:Rat)/\Sz k (l.2.2:Rat)
def FE (V:View)(v:Value)(s:Sp):Prop:=∃(x1 x2:Int)(p:OA)(y1 y2:Int)(q:OA),v=.agg #[.int .i64 x1,.int .i64 x2,.pointer p,.int .i64 y1,.int .i64 y2,.pointer q,.bool s.a,.bool s.b] /\
 RR V (.agg #[.int .i64 x1,.int .i64 x2,.pointer p]) s.lo/\RR V (.agg #[.int .i64 y1,.int .i64 y2,.pointer q]) s.hi
theorem FE.le {V V':View}{v:Value}{s:Sp}(h:FE V v s)(l:V.Le V'):FE V' v s:=by
 obtain ⟨x1,x2,p,y1,y2,q,e,h1,h2⟩:=h
 exact ⟨x1,x2,p,y1,y2,q,e,h1.le l,h2.le l⟩
def tY (V:View)(v:Value)(l:L3):Prop:=tI V v (l.1:Rat) (l.2.1:Rat) (l.2.2:Rat)
theorem tY.le {V V':View}{v:Value}{l:L3}(h:tY V v l)(e:V.Le V'):tY V' v l:=tI.le h e
def Nb (V:View)(v:Value)(l:L3)(s:Sp):Prop:=∃(x1 x2:Int)(p:OA)(y1 y2:Int)(q:OA)(z1 z2:Int)(r:OA)(u1 u2:Int)(t:OA)(w1 w2:Int)(o:OA),
 v=.agg #[.int .i64 x1,.int .i64 x2,.pointer p,.int .i64 y1,.int .i64 y2,.pointer q,.int .i64 z1,.int .i64 z2,.pointer r,.int .i64 u1,.int .i64 u2,.pointer t,.int .i64 w1,.int .i64 w2,.pointer o,.bool s.a,.bool s.b] /\
 tY V (.agg #[.int .i64 x1,.int .i64 x2,.pointer p,.int .i64 y1,.int .i64 y2,.pointer q,.int .i64 z1,.int .i64 z2,.pointer r]) l /\
 FE V (.agg #[.int .i64 u1,.int .i64 u2,.pointer t,.int .i64 w1,.int .i64 w2,.pointer o,.bool s.a,.bool s.b]) s
theorem Nb.le {V V':View}{v:Value}{l:L3}{s:Sp}(h:Nb V v l s)(e:V.Le V'):Nb V' v l s:=by
 obtain ⟨x1,x2,p,y1,y2,q,z1,z2,r,u1,u2,t,w1,w2,o,rfl,h1,h2⟩:=h
 exact ⟨x1,x2,p,y1,y2,q,z1,z2,r,u1,u2,t,w1,w2,o,rfl,h1.le e,h2.le e⟩
def Kq (V:View)(v:Value)(b:Bool)(xs ys:List Nat):Prop:=∃p n c p' n' c',v=.agg #[.bool b,.slice p n c,.slice p' n' c']/\RD V p n c xs/\RD V p' n' c' ys
theorem Kq.le {V V':View}{v:Value}{b:Bool}{xs ys:List Nat}(h:Kq V v b xs ys)(l:V.Le V'):Kq V' v b xs ys:=by
 obtain ⟨p,n,c,p',n',c',e,h1,h2⟩:=h;exact ⟨p,n,c,p',n',c',e,h1.le l,h2.le l⟩
theorem Kq.nil {V:View}:Kq V (.agg #[.bool false,.slice none 0 0,.slice none 0 0]) false [] []:=⟨_,_,_,_,_,_,rfl,RD.nil,RD.nil⟩
def RE (V:View)(v:Value)(q:Rat)(no:Bool):Prop:=(no=true->Kq V v false [] [])/\(no=false->RA V v q)
theorem RE.le {V V':View}{v:Value}{q:Rat}{no:Bool}(h:RE V v q no)(l:V.Le V'):RE V' v q no:=⟨fun e=>(h.1 e).le l,fun e=>(h.2 e).le l⟩
theorem RE.shape {V:View}{v:Value}{q:Rat}{no:Bool}(h:RE V v q no):∃b p n c p' n' c',v=.agg #[.bool b,.slice p n c,.slice p' n' c']:=by
 cases no with
 | true=>obtain ⟨_,_,_,_,_,_,e,-⟩:=h.1 rfl;exact ⟨_,_,_,_,_,_,_,e⟩
 | false=>exact (h.2 rfl).shape
def RO (V:View)(v:Value)(s:Sp):Prop:=∃b p n c p' n' c' d q m e q' m' e',v=.agg #[.bool b,.slice p n c,.slice p' n' c',.bool d,.slice q m e,.slice q' m' e',.bool s.a,.bool s.b] /\
 RE V (.agg #[.bool b,.slice p n c,.slice p' n' c']) s.lo s.a/\RE V (.agg #[.bool d,.slice q m e,.slice q' m' e']) s.hi s.b
theorem RO.le {V V':View}{v:Value}{s:Sp}(h:RO V v s)(l:V.Le V'):RO V' v s:=by
 obtain ⟨b,p,n,c,p',n',c',d,q,m,e,q',m',e',rfl,h1,h2⟩:=h
 exact ⟨_,_,_,_,_,_,_,_,_,_,_,_,_,_,rfl,h1.le l,h2.le l⟩
def OX (V:View)(v:Value)(l:L3)(s:Sp):Prop:=∃b1 p1 n1 c1 b2 p2 n2 c2 b3 p3 n3 c3 b p n c p' n' c' d q m e q' m' e',
 v=.agg #[.bool b1,.slice p1 n1 c1,.bool b2,.slice p2 n2 c2,.bool b3,.slice p3 n3 c3,.bool b,.slice p n c,.slice p' n' c',.bool d,.slice q m e,.slice q' m' e',.bool s.a,.bool s.b] /\
 RL V (.agg #[.bool b1,.slice p1 n1 c1,.bool b2,.slice p2 n2 c2,.bool b3,.slice p3 n3 c3]) l.1 l.2.1 l.2.2/\RO V (.agg #[.bool b,.slice p n c,.slice p' n' c',.bool d,.slice q m e,.slice q' m' e',.bool s.a,.bool s.b]) s
theorem OX.le {V V':View}{v:Value}{l:L3}{s:Sp}(h:OX V v l s)(e:V.Le V'):OX V' v l s:=by
 obtain ⟨b1,p1,n1,c1,b2,p2,n2,c2,b3,p3,n3,c3,b,p,n,c,p',n',c',d,q,m,f,q',m',f',rfl,h1,h2⟩:=h
 exact ⟨_,_,_,_,_,_,_,_,_,_,_,_,_,_,_,_,_,_,_,_,_,_,_,_,_,_,rfl,h1.le e,h2.le e⟩
def FF (V:View)(v:Value)(s:Sp):Prop:=∃b p n c p' n' c' d q m e q' m' e',v=.agg #[.bool b,.slice p n c,.slice p' n' c',.bool d,.slice q m e,.slice q' m' e',.bool s.a,.bool s.b] /\
 RQ V (.agg #[.bool b,.slice p n c,.slice p' n' c']) s.lo/\RQ V (.agg #[.bool d,.slice q m e,.slice q' m' e']) s.hi
theorem FF.le {V V':View}{v:Value}{s:Sp}(h:FF V v s)(l:V.Le V'):FF V' v s:=by
 obtain ⟨b,p,n,c,p',n',c',d,q,m,e,q',m',e',rfl,h1,h2⟩:=h
 exact ⟨_,_,_,_,_,_,_,_,_,_,_,_,_,_,rfl,h1.le l,h2.le l⟩
def RF (V:View)(v:Value)(l:L3)(s:Sp):Prop:=∃b1 p1 n1 c1 b2 p2 n2 c2 b3 p3 n3 c3 b p n c p' n' c' d q m e q' m' e',
 v=.agg #[.bool b1,.slice p1 n1 c1,.bool b2,.slice p2 n2 c2,.bool b3,.slice p3 n3 c3,.bool b,.slice p n c,.slice p' n' c',.bool d,.slice q m e,.slice q' m' e',.bool s.a,.bool s.b] /\
 RL V (.agg #[.bool b1,.slice p1 n1 c1,.bool b2,.slice p2 n2 c2,.bool b3,.slice p3 n3 c3]) l.1 l.2.1 l.2.2/\FF V (.agg #[.bool b,.slice p n c,.slice p' n' c',.bool d,.slice q m e,.slice q' m' e',.bool s.a,.bool s.b]) s
theorem RF.le {V V':View}{v:Value}{l:L3}{s:Sp}(h:RF V v l s)(e:V.Le V'):RF V' v l s:=by
 obtain ⟨b1,p1,n1,c1,b2,p2,n2,c2,b3,p3,n3,c3,b,p,n,c,p',n',c',d,q,m,f,q',m',f',rfl,h1,h2⟩:=h
 exact ⟨_,_,_,_,_,_,_,_,_,_,_,_,_,_,_,_,_,_,_,_,_,_,_,_,_,_,rfl,h1.le e,h2.le e⟩
def ax (l:L3)(x y:Rat):Rat:=(l.1:Rat)*x+(l.2.1:Rat)*y+(l.2.2:Rat)
def fT (l:L3):Rat:=(l.1:Rat)*(l.1:Rat)+(l.2.1:Rat)*(l.2.1:Rat)
def AQ (l:L3)(x y:Rat):Rat:=((l.2.1:Rat)*x-(l.1:Rat)*y)*(fT l)⁻¹
def i_ (l:L3)(t:Rat):Rat:=(l.2.1:Rat)*t-(l.1:Rat)*(l.2.2:Rat)*(fT l)⁻¹
def je (l:L3)(t:Rat):Rat:=-((l.1:Rat)*t)-(l.2.1:Rat)*(l.2.2:Rat)*(fT l)⁻¹
def iR (l:L3):L3:=(-l.1,-l.2.1,-l.2.2)
def Sp.neg (s:Sp):Sp:=⟨if s.b then 0 else -s.hi,if s.a then 0 else -s.lo,s.b,s.a⟩
def Sp.emp (s:Sp):Bool:=!s.a&&!s.b&&decide (eU s.lo s.hi≥0)
def Nz (l:L3):Prop:=¬(l.1=0/\l.2.1=0)
theorem sq_nonneg (x:Int):0<=x*x:=by
 rw [←Int.natAbs_mul_self];exact Int.natCast_nonneg _
theorem Jp (l:L3):fT l=((l.1*l.1+l.2.1*l.2.1:Int):Rat):=by unfold fT;simp
theorem Nz.norm {l:L3}(h:Nz l):fT l≠0:=by
 rw [Jp]
 have h1:=sq_nonneg l.1
 have h2:=sq_nonneg l.2.1
 have h3:l.1*l.1+l.2.1*l.2.1≠0:=by
  intro e
  have e1:l.1*l.1=0:=by omega
  have e2:l.2.1*l.2.1=0:=by omega
  exact h ⟨(Int.mul_eq_zero.1 e1).elim id id,(Int.mul_eq_zero.1 e2).elim id id⟩
 exact_mod_cast h3
theorem Jr {q:Rat}(h:q≠0):q.num≠0:=fun e=>h (Rat.num_eq_zero.1 e)
theorem Un {V:View}{l t:Value}{L:L3}{x:Rat}(hl:tY V l L)(ht:RR V t x){k:Nat}(sl:jV k L)(s1:Sz k x)(hk:20*k+19<274877906944) :
  ab prog 132 #[l,t] V fun r V'=>oX V' r (i_ L x) (je L x):=by
 refine (B6 hl ht sl.1 sl.2.1 sl.2.2 s1 hk).mono ?_
 rintro r V2 l2 g
 have e1:i_ L x=((L.1:Rat)*((-(L.2.2:Rat))*((L.1:Rat)*(L.1:Rat)+(L.2.1:Rat)*(L.2.1:Rat))⁻¹))+((L.2.1:Rat)*x):=by unfold i_ fT;grind
 have e2:je L x=((L.2.1:Rat)*((-(L.2.2:Rat))*((L.1:Rat)*(L.1:Rat)+(L.2.1:Rat)*(L.2.1:Rat))⁻¹))+((-(L.1:Rat))*x):=by unfold je fT;grind
 rw [e1,e2];exact g
theorem Ka {L:L3}{x:Rat}{k:Nat}(sl:jV k L)(s1:Sz k x):Sz (20*k+19) (i_ L x):=by
 have e1:i_ L x=((L.1:Rat)*((-(L.2.2:Rat))*((L.1:Rat)*(L.1:Rat)+(L.2.1:Rat)*(L.2.1:Rat))⁻¹))+((L.2.1:Rat)*x):=by unfold i_ fT;grind
 rw [e1];exact yF sl.1 sl.2.1 sl.2.2 s1
theorem Kb {L:L3}{x:Rat}{k:Nat}(sl:jV k L)(s1:Sz k x):Sz (20*k+19) (je L x):=by
 have e2:je L x=((L.2.1:Rat)*((-(L.2.2:Rat))*((L.1:Rat)*(L.1:Rat)+(L.2.1:Rat)*(L.2.1:Rat))⁻¹))+((-(L.1:Rat))*x):=by unfold je fT;grind
 rw [e2];exact yG sl.1 sl.2.1 sl.2.2 s1
theorem pW (q:Rat):q.num.sign=0↔q=0:=by rw [Int.sign_eq_zero_iff_zero,Rat.num_eq_zero]
theorem N4 {V:View}{l p:Value}{L:L3}{x y:Rat}(hl:tY V l L)(hp:oX V p x y){k:Nat}(sl:jV k L)(s1:Sz k x)(s2:Sz k y)(hk:16*k+16<274877906944) :
  ab prog 131 #[l,p] V fun r V'=>r=.int .i64 (ax L x y).num.sign:=xh hl hp sl.1 sl.2.1 sl.2.2 s1 s2 hk
theorem jV.rev {k:Nat}{L:L3}(h:jV k L):jV k (iR L):=by
 unfold jV iR
 simp only [Rat.intCast_neg]
 exact ⟨h.1.neg,h.2.1.neg,h.2.2.neg⟩
theorem JN {L:L3}(h:Nz L):((((((L.2.1:Int):Rat)))*((((L.2.1:Int):Rat))))+(((-(((L.1:Int):Rat))))*((-(((L.1:Int):Rat)))))).num≠0:=by
 have:(((((L.2.1:Int):Rat)))*((((L.2.1:Int):Rat))))+(((-(((L.1:Int):Rat))))*((-(((L.1:Int):Rat)))))=fT L:=by unfold fT;grind
 rw [this]
 exact Jr h.norm
theorem LD {V:View}{l p:Value}{L:L3}{x y:Rat}(hl:RL V l L.1 L.2.1 L.2.2)(hp:RP V p x y)(hz:Nz L){k:Nat}(sl:jV k L)(s1:Sz k x)(s2:Sz k y)(hk:8*k+7<274877906944) :
  ab prog 154 #[l,p] V fun r V'=>RQ V' r (AQ L x y):=by
 refine (xo hl hp (JN hz) sl.1 sl.2.1 sl.2.2 s1 s2 hk).mono ?_
 rintro r V2 l2 g
 have e:AQ L x y=((((x)*((((L.2.1:Int):Rat))))+((y)*((-(((L.1:Int):Rat))))))*((((((L.2.1:Int):Rat)))*((((L.2.1:Int):Rat))))+(((-(((L.1:Int):Rat))))*((-(((L.1:Int):Rat))))))⁻¹):=by
  unfold AQ fT;grind
 rw [e];exact g
theorem JM {V:View}{l p:Value}{L:L3}{x y:Rat}(hl:RL V l L.1 L.2.1 L.2.2)(hp:RP V p x y){k:Nat}(sl:jV k L)(s1:Sz k x)(s2:Sz k y)(hk:16*k+16<274877906944) :
  ab prog 76 #[l,p] V fun r V'=>r=.int .i64 (ax L x y).num.sign:=Ao hl hp sl.1 sl.2.1 sl.2.2 s1 s2 hk
structure SE (V:View) (vs:List Value) (i:Int) (f a b c:Rat):Prop where
 h0:0<=i
 h3:i<=3
 row:∃(x1 x2:Int)(p:OA)(y1 y2:Int)(q:OA)(z1 z2:Int)(r:OA),vs=[.int .i64 x1,.int .i64 x2,.pointer p,.int .i64 y1,.int .i64 y2,.pointer q,.int .i64 z1,.int .i64 z2,.pointer r] /\
  RR V (.agg #[.int .i64 x1,.int .i64 x2,.pointer p]) (if 0<i then a*f else a)/\RR V (.agg #[.int .i64 y1,.int .i64 y2,.pointer q]) (if 1<i then b*f else b)/\RR V (.agg #[.int .i64 z1,.int .i64 z2,.pointer r]) (if 2<i then c*f else c)
theorem SE.le {V V':View}{vs:List Value}{i:Int}{f a b c:Rat}(h:SE V vs i f a b c)(l:V.Le V'):SE V' vs i f a b c:=by
 obtain ⟨h0,h3,x1,x2,p,y1,y2,q,z1,z2,r,e,g1,g2,g3⟩:=h
 exact ⟨h0,h3,x1,x2,p,y1,y2,q,z1,z2,r,e,g1.le l,g2.le l,g3.le l⟩
def E_ (px py qx qy:Rat):L3:=QE (-(qy-py)) (qx-px) (-(-(qy-py)*px+(qx-px)*py))
theorem L9 {px py qx qy:Rat}:(px=qx/\py=qy)↔(-(qy-py)=0/\qx-px=0):=⟨fun ⟨h1,h2⟩=>⟨by grind,by grind⟩,fun ⟨h1,h2⟩=>⟨by grind,by grind⟩⟩
def HC (b:Bool)(xs ys:List Nat):Rat:=mkRat (aX b xs) (val ys)
def Og (b:Bool)(xs ys:List Nat):Bool:=lL b xs&&decide (ag (val ys)=ys)&&!decide (ys=[])&&decide (Nat.gcd (val xs) (val ys)=1)
def VF (b:Bool)(xs ys:List Nat):Bool:=!b&&decide (xs=[])&&decide (ys=[])
def Nx (b:Bool)(xs ys:List Nat)(no:Bool):Rat:=if no then 0 else HC b xs ys
def Iy (b:Bool)(xs ys:List Nat)(no:Bool):Bool:=if no then VF b xs ys else Og b xs ys
theorem Gg {q:Rat}:Og (decide (q.num<0)) (ag q.num.natAbs) (ag q.den)=true/\HC (decide (q.num<0)) (ag q.num.natAbs) (ag q.den)=q:=by
 constructor
 ·unfold Og
  have h1:lL (decide (q.num<0)) (ag q.num.natAbs)=true:=by
   unfold lL
   rw [ae]
   by_cases h:q.num<0
   ·have:ag q.num.natAbs≠[]:=fun e=>by have:=bu.1 e;omega
    simp [h,this]
   ·simp [h]
  have h2:ag q.den≠[]:=fun e=>q.den_nz (bu.1 e)
  rw [h1,ae,ae]
  simp [h2,q.reduced]
 ·unfold HC
  rw [aF,ae,Rat.mkRat_self]
theorem Ea {V:View}{v:Value}{s:Sp}(h:FE V v s){k:Nat}(hs:s.sz k)(hk:2*k<1099511627776) :
  ab prog 223 #[v] V fun r V'=>r=.bool s.emp:=by
 obtain ⟨x1,x2,p,y1,y2,q,rfl,h1,h2⟩:=h
 refine tg x1 x2 p y1 y2 q s.a s.b V _ ⟨fun ha=>⟨fun hb V1 l1=>(kD (h1.le l1) (h2.le l1) hs.1 hs.2 (by omega)).mono ?_,fun hb V4 l4=>?_⟩,fun ha V5 l5=>?_⟩
 ·rintro r V2 l2 rfl
  exact ⟨_,rfl,fun V3 l3=>by rw [Bool.not_eq_true'] at ha hb;simp [Sp.emp,ha,hb]⟩
 ·rw [Bool.not_eq_false'] at hb;simp [Sp.emp,hb]
 ·rw [Bool.not_eq_false'] at ha;simp [Sp.emp,ha]
def RT (V:View)(v:Value)(b1:Bool)(Mi Mk:List Nat)(b2:Bool)(Mj Ml:List Nat)(na nb:Bool):Prop:=∃p n c p' n' c' q m e q' m' e',v=.agg #[.bool b1,.slice p n c,.slice p' n' c',.bool b2,.slice q m e,.slice q' m' e',.bool na,.bool nb] /\
 Kq V (.agg #[.bool b1,.slice p n c,.slice p' n' c']) b1 Mi Mk/\Kq V (.agg #[.bool b2,.slice q m e,.slice q' m' e']) b2 Mj Ml
theorem RT.le {V V':View}{v:Value}{b1:Bool}{Mi Mk:List Nat}{b2:Bool}{Mj Ml:List Nat}{na nb:Bool}(h:RT V v b1 Mi Mk b2 Mj Ml na nb)(l:V.Le V'):RT V' v b1 Mi Mk b2 Mj Ml na nb:=by
 obtain ⟨p,n,c,p',n',c',q,m,e,q',m',e',rfl,h1,h2⟩:=h
 exact ⟨_,_,_,_,_,_,_,_,_,_,_,_,rfl,h1.le l,h2.le l⟩
def Ri (b1:Bool)(Mi Mk:List Nat)(b2:Bool)(Mj Ml:List Nat)(na nb:Bool):Sp:=⟨Nx b1 Mi Mk na,Nx b2 Mj Ml nb,na,nb⟩
def okW (b1:Bool)(Mi Mk:List Nat)(b2:Bool)(Mj Ml:List Nat)(na nb:Bool):Bool:=Iy b1 Mi Mk na&&Iy b2 Mj Ml nb&&!(Ri b1 Mi Mk b2 Mj Ml na nb).emp
def X2 (l:L3)(s:Sp):Prop:=dP l=true/\s.can/\s.emp=false
theorem RE.raw {V:View}{v:Value}{q:Rat}{no:Bool}(h:RE V v q no)(hc:no=true->q=0):∃b xs ys,Kq V v b xs ys/\Iy b xs ys no=true/\Nx b xs ys no=q/\(∀k,Sz k q->xs.length<=k/\ys.length<=k):=by
 cases no with
 | true=>
  exact ⟨false,[],[],h.1 rfl,rfl,by rw [hc rfl];rfl,fun k _=>⟨Nat.zero_le _,Nat.zero_le _⟩⟩
 | false=>
  obtain ⟨p,n,c,p',n',c',rfl,h1,h2⟩:=h.2 rfl
  exact ⟨_,_,_,⟨_,_,_,_,_,_,rfl,h1,h2⟩,Gg.1,Gg.2,fun k hk=>⟨af hk.1,af hk.2⟩⟩
theorem tY.YB {V:View}{r:Value}{l:L3}(h:RL V r ((l.1:Rat)).num ((l.2.1:Rat)).num ((l.2.2:Rat)).num):RL V r l.1 l.2.1 l.2.2:=by
 simpa [Rat.num_intCast] using h
theorem Ol {l:L3}(h:dP l=true):Nz l:=by
 unfold dP at h
 intro e
 simp [e.1,e.2] at h
def CJ (x y:Rat):Rat:=if 0<eU y x then y else x
def CN (x y:Rat):Rat:=if eU y x<0 then y else x
theorem mW (x y:Rat):(x<y/\eU x y=-1)\/(x=y/\eU x y=0)\/(y<x/\eU x y=1):=by
 by_cases h1:x<y
 ·exact .inl ⟨h1,At.1 h1⟩
 ·by_cases h2:x=y
  ·exact .inr (.inl ⟨h2,hZ.1 h2⟩)
  ·have h3:y<x:=by grind
   exact .inr (.inr ⟨h3,tM.1 h3⟩)
theorem Sp.kS {s:Sp}:s.emp=false↔(s.a=true\/s.b=true\/s.lo<s.hi):=by
 unfold Sp.emp
 rcases mW s.lo s.hi with ⟨h,e⟩|⟨h,e⟩|⟨h,e⟩<;>rw [e]<;>cases s.a<;>cases s.b<;>simp<;>grind
def Sp.meet (v w:Sp):Sp:=⟨if v.a then w.lo else if w.a then v.lo else CJ v.lo w.lo,if v.b then w.hi else if w.b then v.hi else CN v.hi w.hi,if v.a then w.a else false,if v.b then w.b else false⟩
theorem Sp.CK {v w:Sp}(h1:v.can)(h2:w.can):(v.meet w).can:=by
 unfold Sp.meet
 constructor<;>dsimp only
 ·cases hv:v.a with
  | false=>intro h;cases h
  | true=>exact fun h=>h2.1 h
 ·cases hv:v.b with
  | false=>intro h;cases h
  | true=>exact fun h=>h2.2 h
def Sp.eh (s:Sp):Rat:=if s.a then (if s.b then 0 else s.hi-((1:Int):Rat)) else if s.b then s.lo+((1:Int):Rat) else (s.lo+s.hi)*((2:Int):Rat)⁻¹
theorem Sp.Gq {s:Sp}(h:s.emp=false):(s.a=false->s.lo<s.eh)/\(s.b=false->s.eh<s.hi):=by
 rw [Sp.kS] at h
 unfold Sp.eh
 cases ha:s.a<;>cases hb:s.b<;>simp [ha,hb] at h⊢<;> grind
def dY (m l:L3):Rat:=((m.1:Rat)*(l.2.1:Rat))+((m.2.1:Rat)*(-(l.1:Rat)))
def jY (m l:L3):Rat:=ax m (i_ l 0) (je l 0)
theorem v_ (m l:L3)(t:Rat):ax m (i_ l t) (je l t)=jY m l+dY m l*t:=by
 unfold jY ax dY i_ je;grind
def dX (m l:L3):Rat:=-(jY m l*(dY m l)⁻¹)
def du (l:L3)(s:Sp)(m:L3):Sp:=
 if (dY m l).num.sign==0 then s else if (dY m l).num.sign==1 then s.meet ⟨dX m l,0,false,true⟩ else s.meet ⟨0,dX m l,true,false⟩
def dR (l:L3)(s:Sp)(m:L3):Bool:=
 if (dY m l).num.sign==0 then decide ((jY m l).num.sign>0) else !(du l s m).emp
theorem nh (q:Rat):(q=0/\q.num.sign=0)\/(0<q/\q.num.sign=1)\/(q<0/\q.num.sign=-1):=by
 have h1:=@CR q
 have h2:=@CS q
 have h3:=@Rat.num_eq_zero q
 rcases Int.lt_trichotomy q.num 0 with h|h|h
 ·exact .inr (.inr ⟨h1.1 h,Int.sign_eq_neg_one_of_neg h⟩)
 ·exact .inl ⟨h3.1 h,by rw [h];rfl⟩
 ·exact .inr (.inl ⟨h2.1 h,Int.sign_eq_one_of_pos h⟩)
theorem Ir {l:L3}{s:Sp}{m:L3}(he:s.emp=false)(hb:dR l s m=true):(du l s m).emp=false:=by
 unfold dR at hb
 split at hb
 ·rename_i h
  unfold du
  rw [if_pos h];exact he
 ·simpa using hb
theorem Is {l:L3}{s:Sp}{m:L3}(hc:s.can):(du l s m).can:=by
 unfold du
 split
 ·exact hc
 ·split
  ·exact Sp.CK hc ⟨(fun h=>nomatch h),fun _=>rfl⟩
  ·exact Sp.CK hc ⟨fun _=>rfl,(fun h=>nomatch h)⟩
theorem val_rev (m:L3)(x y:Rat):ax (iR m) x y=-ax m x y:=by
 unfold ax iR;simp only [Rat.intCast_neg];grind
def aU (l m:L3):Rat:=((l.1:Rat)*(m.2.1:Rat))-((l.2.1:Rat)*(m.1:Rat))
def Gb (l m:L3):Rat:=(((l.2.1:Rat)*(m.2.2:Rat))-((l.2.2:Rat)*(m.2.1:Rat)))*(aU l m)⁻¹
def Gc (l m:L3):Rat:=(((l.2.2:Rat)*(m.1:Rat))-((l.1:Rat)*(m.2.2:Rat)))*(aU l m)⁻¹
end Go.Proofs.Tryz
