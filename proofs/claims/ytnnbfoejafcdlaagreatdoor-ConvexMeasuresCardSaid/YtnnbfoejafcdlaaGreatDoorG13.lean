import Derived.Test.YtnnbfoejafcdlaaGreatDoorG9
import Derived.Test.YtnnbfoejafcdlaaGreatDoorG12
import Derived.Test.YtnnbfoejafcdlaaGreatDoorG7
set_option linter.unusedVariables false
open Go.IntKind (i64 u64 u32)
namespace Go.bM
theorem pX (a:Addr)(m n:Nat):(a.add m).add n=a.add (m+n):=by
 unfold Addr.add
 by_cases b:m=0
 ·subst b;simp
 ·by_cases c:n=0
  ·subst c;simp [b]
  ·rw [if_neg b,if_neg c,if_neg (by omega)]
   simp only [Nat.add_assoc]
variable {α:Type} {sz:Nat} {R:View->Value->α->Prop} {V V':View}
structure Row (sz:Nat) (R:View->Value->α->Prop) (V:View) (vs:List Value) (al:List α):Prop where
 at_:∀(i:Nat)(h:i<al.length),∃xs:List Value,xs.length=sz/\R V (.agg xs.toArray) al[i]/\∀j x,xs[j]?=some x->vs[i*sz+j]?=some x
structure cB (sz:Nat) (R:View->Value->α->Prop) (V:View) (p:OA) (n:Nat) (al:List α):Prop where
 len:n=al.length
 at_:∀(i:Nat)(h:i<al.length),∃ad,ag p (i*sz)=some ad/\∃xs:List Value,xs.length=sz/\R V (.agg xs.toArray) al[i]/\∀j x,xs[j]?=some x->V.at (ad.add j) x
theorem Row.nil {vs:List Value}:Row sz R V vs []:=⟨fun i h=>absurd h (Nat.not_lt_zero i)⟩
theorem cB.nil {p:OA}:cB sz R V p 0 []:=⟨rfl,fun i h=>absurd h (Nat.not_lt_zero i)⟩
theorem Row.le {vs:List Value}{al:List α}(h:Row sz R V vs al)(m:∀v a,R V v a->R V' v a):Row sz R V' vs al:=
 ⟨fun i b=>by obtain ⟨xs,c,d,e⟩:=h.at_ i b;exact ⟨xs,c,m _ _ d,e⟩⟩
theorem cB.le {p:OA}{n:Nat}{al:List α}(h:cB sz R V p n al)(l:V.Le V')(m:∀v a,R V v a->R V' v a):cB sz R V' p n al:=
 ⟨h.len,fun i b=>by obtain ⟨c,d,xs,e,f,g⟩:=h.at_ i b;exact ⟨c,d,xs,e,m _ _ f,fun j x k=>l.at (g j x k)⟩⟩
theorem Row.iM {vs:List Value}{al:List α}(h:Row sz R V vs al)(hs:0<sz):al.length*sz<=vs.length:=by
 by_cases a:al.length=0
 ·rw [a];omega
 ·obtain ⟨xs,d,-,b⟩:=h.at_ (al.length-1) (by omega)
  have c:sz-1<xs.length:=by omega
  have:=(List.getElem?_eq_some_iff.1 (b (sz-1) _ (List.getElem?_eq_getElem c))).1
  have e:al.length*sz=(al.length-1)*sz+sz:=by
   obtain ⟨m,hm⟩:∃m,al.length=m+1:=⟨al.length-1,by omega⟩
   rw [hm,Nat.add_sub_cancel,Nat.succ_mul]
  omega
theorem Row.snoc {vs:List Value}{al:List α}(h:Row sz R V vs al){xs sp:List Value}{a:α}(hx:xs.length=sz)(ha:R V (.agg xs.toArray) a)(hs:0<sz) :
  Row sz R V (vs.take (al.length*sz)++xs++sp) (al++[a]):=by
 have p:=h.iM hs
 have g:(vs.take (al.length*sz)).length=al.length*sz:=by rw [List.length_take];omega
 refine ⟨fun i k=>?_⟩
 rw [List.length_append,List.length_singleton] at k
 by_cases e:i=al.length
 ·subst e
  refine ⟨xs,hx,by rw [List.getElem_append_right (Nat.le_refl _)];simpa using ha,fun j x c=>?_⟩
  have d:=(List.getElem?_eq_some_iff.1 c).1
  rw [List.append_assoc,List.getElem?_append_right (by rw [g];omega),g,Nat.add_sub_cancel_left,List.getElem?_append_left d]
  exact c
 ·have b:i<al.length:=by omega
  obtain ⟨l,m,n,o⟩:=h.at_ i b
  refine ⟨l,m,by rw [List.getElem_append_left b];exact n,fun j x c=>?_⟩
  have d:=(List.getElem?_eq_some_iff.1 c).1
  have f:i*sz+j<al.length*sz:=by
   have:(i+1)*sz<=al.length*sz:=Nat.mul_le_mul_right _ b
   rw [Nat.succ_mul] at this
   omega
  rw [List.append_assoc,List.getElem?_append_left (by rw [g];exact f),List.getElem?_take,if_pos f]
  exact o j x c
theorem cB.Lj {bk:Nat}{ty:TypeId}{m:Nat×Nat}{vs:List Value}{al:List α}(hb:V.bI bk (.cells vs.toArray ty m))(h:Row sz R V vs al):cB sz R V (some ⟨bk,0,none⟩) al.length al:=by
 refine ⟨rfl,fun i a=>?_⟩
 obtain ⟨xs,b,c,d⟩:=h.at_ i a
 refine ⟨⟨bk,i*sz,none⟩,by simp [ag,add_zero'],xs,b,c,fun j x f=>?_⟩
 have e:(⟨bk,i*sz,none⟩:Addr).add j=⟨bk,i*sz+j,none⟩:=by rw [←add_zero',pX,add_zero']
 rw [e]
 exact gH hb (d j x f)
theorem cB.eZ {bk c:Nat}{ty:TypeId}{m:Nat×Nat}{vs:List Value}{al:List α}(hb:vs≠[]->V.bI bk (.cells vs.toArray ty m))(h:Row sz R V vs al)(hs:0<sz)(hc:al.length<=c):cB sz R V (mA bk c) al.length al:=by
 cases al with
 | nil=>exact cB.nil
 | cons a r=>
  have b:vs≠[]:=fun e=>by
   have:=h.iM hs
   rw [e,List.length_cons,Nat.succ_mul] at this
   simp at this;omega
  have:mA bk c=some ⟨bk,0,none⟩:=by unfold mA;rw [if_neg];rw [List.length_cons] at hc;omega
  rw [this]
  exact cB.Lj (hb b) h
end Go.bM
namespace Go.bM
open Go.Proofs.Tryz
variable {α:Type} {sz:Nat} {R:View->Value->α->Prop} {V V':View} {d:α}
theorem Row.get {vs:List Value}{al:List α}(h:Row sz R V vs al){i:Nat}(hi:i<al.length)(hs:0<sz) :
  ∃xs:List Value,xs.length=sz/\R V (.agg xs.toArray) (al.getD i d)/\i*sz+sz<=vs.length/\(vs.drop (i*sz)).take sz=xs:=by
 obtain ⟨xs,b,c,e⟩:=h.at_ i hi
 have g:=h.iM hs
 have:(i+1)*sz<=al.length*sz:=Nat.mul_le_mul_right _ hi
 rw [Nat.succ_mul] at this
 refine ⟨xs,b,by simpa [List.getD_eq_getElem?_getD,hi] using c,by omega,?_⟩
 apply List.ext_getElem?
 intro j
 rw [List.getElem?_take]
 split
 ·rename_i f
  rw [List.getElem?_drop]
  have a:j<xs.length:=by omega
  rw [e j _ (List.getElem?_eq_getElem a),List.getElem?_eq_getElem a]
 ·rename_i f
  rw [List.getElem?_eq_none (by omega)]
theorem Row.put {vs:List Value}{al:List α}(h:Row sz R V vs al){i:Nat}(hi:i<al.length)(hs:0<sz){xs:List Value}{a:α}(hx:xs.length=sz)(ha:R V (.agg xs.toArray) a) :
  Row sz R V (cR vs (i*sz) xs) (al.set i a):=by
 have r:=h.iM hs
 have l:∀k,k<al.length->k*sz+sz<=vs.length:=fun k d=>by
  have:(k+1)*sz<=al.length*sz:=Nat.mul_le_mul_right _ d
  rw [Nat.succ_mul] at this
  omega
 have m:=l i hi
 rw [mG (by omega)]
 have f:(vs.take (i*sz)).length=i*sz:=by rw [List.length_take];omega
 refine ⟨fun k d=>?_⟩
 rw [List.length_set] at d
 by_cases e:k=i
 ·subst e
  refine ⟨xs,hx,by simpa using ha,fun j x b=>?_⟩
  have c:=(List.getElem?_eq_some_iff.1 b).1
  rw [List.append_assoc,List.getElem?_append_right (by omega),f,Nat.add_sub_cancel_left,List.getElem?_append_left c]
  exact b
 ·obtain ⟨n,o,p,g⟩:=h.at_ k d
  refine ⟨n,o,by rw [List.getElem_set_ne (fun q=>e q.symm)];exact p,fun j x b=>?_⟩
  have c:=(List.getElem?_eq_some_iff.1 b).1
  by_cases lt:k<i
  ·have:(k+1)*sz<=i*sz:=Nat.mul_le_mul_right _ lt
   rw [Nat.succ_mul] at this
   rw [List.append_assoc,List.getElem?_append_left (by omega),List.getElem?_take,if_pos (by omega)]
   exact g j x b
  ·have:(i+1)*sz<=k*sz:=Nat.mul_le_mul_right _ (by omega)
   rw [Nat.succ_mul] at this
   rw [List.getElem?_append_right (by rw [List.length_append];omega),List.length_append,f,hx,List.getElem?_drop]
   rw [show i*sz+sz+(k*sz+j-(i*sz+sz))=k*sz+j by omega]
   exact g j x b
theorem nM {vs xs:List Value}{o:Nat}(h:o+xs.length<=vs.length):(cR vs o xs).length=vs.length:=by
 rw [mG h];simp only [List.length_append,List.length_take,List.length_drop];omega
theorem Row.swap {vs:List Value}{al:List α}(h:Row sz R V vs al){i j:Nat}(hi:i<al.length)(hj:j<al.length)(hs:0<sz){xs ys:List Value}(hx:xs.length=sz)(hy:ys.length=sz)(h1:R V (.agg xs.toArray) (al.getD i d))(h2:R V (.agg ys.toArray) (al.getD j d)) :
  Row sz R V (cR (cR vs (i*sz) ys) (j*sz) xs) (tO d al i j):=by
 have:=h.put hi hs hy h2
 exact this.put (by simpa using hj) hs hx h1
end Go.bM
namespace Go.Proofs.Tryz
open Go.bM Go.fR
section
variable {α:Type} (e:α->α->Bool)
def BR:α->List α->List α
 | _,[]=>[]
 | p,a::r=>if e a p then BR a r else a::BR a r
def yV:List α->List α
 | []=>[]
 | a::r=>a::BR e a r
variable {e}
theorem vO:∀{r:List α} {p:α},∀x∈BR e p r,x∈r
 | [],p,x,h=>h
 | b::r,p,x,h=>by
  unfold BR at h
  split at h
  ·exact List.mem_cons_of_mem _ (vO x h)
  ·rcases List.mem_cons.1 h with rfl|h
   ·exact List.mem_cons_self ..
   ·exact List.mem_cons_of_mem _ (vO x h)
theorem J6 {l:List α}:∀x∈yV e l,x∈l:=by
 cases l with
 | nil=>exact fun x h=>h
 | cons a r=>
  intro x h
  rcases List.mem_cons.1 h with rfl|h
  ·exact List.mem_cons_self ..
  ·exact List.mem_cons_of_mem _ (vO x h)
end
end Go.Proofs.Tryz
namespace Go.bM
open Go.Proofs.Tryz
section
variable {α:Type} {sz:Nat} {R:View->Value->α->Prop} {V:View} {d:α}
end
end Go.bM
namespace Go.Proofs.Tryz
open Go.bM Go.fR
def RA (V:View)(v:Value)(q:Rat):Prop:=∃p n c p' n' c',v=.agg #[.bool (decide (q.num<0)),.slice p n c,.slice p' n' c']/\RD V p n c (ah q.num.natAbs)/\RD V p' n' c' (ah q.den)
theorem RA.le {V V':View}{v:Value}{q:Rat}(h:RA V v q)(l:V.Le V'):RA V' v q:=by
 obtain ⟨p,n,c,a,b,d,e,f,g⟩:=h
 exact ⟨p,n,c,a,b,d,e,f.le l,g.le l⟩
theorem ph {V:View}(b:Bool){p q:OA}{n c m e:Nat}{xs ys:List Nat}(hx:RD V p n c xs)(hy:RD V q m e ys)(hm:xs.length<=1099511627776)(hn:ys.length<=1099511627776) :
  ab prog 170 #[.agg #[.bool b,.slice p n c,.slice q m e]] V fun r V'=>RR V' r (mkRat (aY b xs) (val ys)):=by
 refine GY b p n c q m e V _ fun f a=>(cF b (hx.le a) (hy.le a) hm hn).mono ?_
 rintro r V2 g h
 obtain ⟨u,v,w,rfl⟩:=h.shape
 exact ⟨_,_,_,rfl,fun i d=>h.le d⟩
theorem Au {V:View}{v:Value}{q:Rat}(h:RA V v q){k:Nat}(hs:Sz k q)(hk:k<=1099511627776):ab prog 170 #[v] V fun r V'=>RR V' r q:=by
 obtain ⟨p,n,c,d,e,f,rfl,a,b⟩:=h
 have g:=af hs.1
 have i:=af hs.2
 refine (ph _ a b (by omega) (by omega)).mono ?_
 rintro r V' _ h
 rw [aG,ae,Rat.mkRat_self] at h
 exact h
theorem BF {V:View}{v:Value}{q:Rat}(h:RR V v q){k:Nat}(hs:Sz k q)(hk:k<=1099511627776):ab prog 83 #[v] V fun r V'=>RA V' r q:=by
 have a:=h
 obtain ⟨e,f,g,rfl⟩:=h.shape
 refine zo e f g V _ fun n b=>(fK (a.le b) hs hk).mono ?_
 rintro r V2 i ⟨o,p,s,rfl,j⟩
 refine ⟨_,_,_,_,rfl,fun t c=>(eV (a.le (b.trans (i.trans c))) hs hk).mono ?_⟩
 rintro r u l ⟨w,x,y,rfl,m⟩
 exact ⟨_,_,_,rfl,fun z d=>⟨_,_,_,_,_,_,rfl,j.le (c.trans (l.trans d)),m.le d⟩⟩
theorem fJ {V:View}{v w:Value}{x y:Rat}(hx:RR V v x)(hy:RR V w y){k m:Nat}(hk:Sz k x)(hm:Sz m y)(hkm:k+m<1099511627776) :
  ab prog 184 #[v,w] V fun r V'=>RR V' r (x*y):=by
 obtain ⟨S,T,U,rfl⟩:=hx.shape
 obtain ⟨W,s1,s2,rfl⟩:=hy.shape
 have g:x*y=mkRat (x.num*y.num) (x.den*y.den):=Rat.mul_def' x y
 have b1:(x.num*y.num).natAbs<2^(k+m):=by rw [Int.natAbs_mul,Nat.pow_add];exact Nat.mul_lt_mul'' hk.1 hm.1
 have b2:x.den*y.den<2^(k+m):=by rw [Nat.pow_add];exact Nat.mul_lt_mul'' hk.2 hm.2
 have q1:=af hk.1
 have q2:=af hk.2
 have q3:=af hm.1
 have q4:=af hm.2
 have q5:=af b1
 have q6:=af b2
 refine zu S T U W s1 s2 V _ ⟨fun X=>⟨fun _ _=>True,⟨fun Y=>?_,fun _=>⟨(),by (try dsimp only);and_intros<;>trivial,trivial⟩⟩,fun _ V8 Z _=>⟨rfl,fun V9 E=>?_⟩⟩,fun _ V9 h=>?_⟩
 ·rcases hx with ⟨ex,Q⟩|⟨a,b,p,n,c,p',n',c',ex,-,-,-,-,-,Q⟩
  ·rcases hy with ⟨s,R⟩|⟨a,b,p,n,c,p',n',c',s,-,-,-,-,-,R⟩
   ·simp only [Value.agg.injEq,Array.mk.injEq,List.cons.injEq,Value.int.injEq,Value.pointer.injEq,true_and,and_true] at ex s
    obtain ⟨rfl,rfl,rfl⟩:=ex
    obtain ⟨rfl,rfl,rfl⟩:=s
    obtain ⟨T0,a0⟩:=Q
    obtain ⟨T1,a1⟩:=R
    have dx:=x.den_nz
    have dy:=y.den_nz
    have e1:i64.wrap ((x.den:Int)-1+1)=x.den:=by rw [ay (by omega)];omega
    have e2:i64.wrap ((y.den:Int)-1+1)=y.den:=by rw [ay (by omega)];omega
    rw [e1,e2]
    intro V1 l1
    refine (gI _ _ T0 T1).mono ?_
    rintro r V2 l2 ⟨z1,rfl,F⟩
    refine ⟨_,_,rfl,fun V3 l3=>(gI _ _ (by omega) (by omega)).mono ?_⟩
    rintro r V4 l4 ⟨z2,rfl,G⟩
    refine ⟨_,_,rfl,fun t1=>⟨fun t2 V5 l5=>?_,fun _=>⟨(),by (try dsimp only);and_intros<;>trivial,trivial⟩⟩,fun _=>⟨(),by (try dsimp only);and_intros<;>trivial,trivial⟩⟩
    have t1:=of_decide_eq_true t1
    have t2:=of_decide_eq_true t2
    rw [F t1,G t2]
    have hd:((x.den:Int)*(y.den:Int))=((x.den*y.den:Nat):Int):=(Int.natCast_mul ..).symm
    rw [hd] at t2 ⊢
    refine (oM _ _ t1 (by rwa [Int.natAbs_natCast] at t2) (Nat.mul_ne_zero dx dy)).mono ?_
    rintro r V6 l6 H
    rw [←g] at H
    obtain ⟨n,d,p,rfl⟩:=H.shape
    exact ⟨_,_,_,rfl,fun V7 l7=>H.le l7⟩
   ·simp only [Value.agg.injEq,Array.mk.injEq,List.cons.injEq,Value.int.injEq,Value.pointer.injEq,true_and,and_true] at s
    obtain ⟨rfl,rfl,rfl⟩:=s
    cases Y
  ·simp only [Value.agg.injEq,Array.mk.injEq,List.cons.injEq,Value.int.injEq,Value.pointer.injEq,true_and,and_true] at ex
   obtain ⟨rfl,rfl,rfl⟩:=ex
   cases X
 ·have h:=Z.trans E
  refine (fK (hx.le h) hk (by omega)).mono ?_
  rintro r iI f ⟨p1,n1,c1,rfl,I⟩
  refine ⟨_,_,_,_,rfl,fun ie i=>(fK (hy.le (h.trans (f.trans i))) hm (by omega)).mono ?_⟩
  rintro r lL t ⟨p2,n2,c2,rfl,J⟩
  refine ⟨_,_,_,_,rfl,fun o_ j=>(ig _ _ (I.le (i.trans (t.trans j))) (J.le j) (by omega)).mono ?_⟩
  rintro r mJ K u
  rw [aG,aG] at u
  obtain ⟨p3,n3,c3,rfl,L⟩:=u
  have z:=h.trans (f.trans (i.trans (t.trans (j.trans K))))
  refine ⟨_,_,_,_,rfl,fun lN l=>(eV (hx.le (z.trans l)) hk (by omega)).mono ?_⟩
  rintro r kr A ⟨p4,n4,c4,rfl,M⟩
  refine ⟨_,_,_,rfl,fun mZ o=>(eV (hy.le (z.trans (l.trans (A.trans o)))) hm (by omega)).mono ?_⟩
  rintro r pe B ⟨p5,n5,c5,rfl,N⟩
  refine ⟨_,_,_,rfl,fun tj q=>(g_ (M.le (o.trans (B.trans q))) (N.le q) (by omega)).mono ?_⟩
  rintro r yF O ⟨p6,n6,c6,rfl,C⟩
  rw [ae,ae] at C
  refine ⟨_,_,_,rfl,fun uJ D=>(cF _ (L.le (l.trans (A.trans (o.trans (B.trans (q.trans (O.trans D))))))) (C.le D) (by omega) (by omega)).mono ?_⟩
  rintro r tm iF e
  rw [aG,ae,←g] at e
  obtain ⟨n,d,p,rfl⟩:=e.shape
  exact ⟨_,_,_,rfl,fun yx P=>e.le P⟩
 ·skip
  refine (fK (hx.le h) hk (by omega)).mono ?_
  rintro r iI f ⟨p1,n1,c1,rfl,I⟩
  refine ⟨_,_,_,_,rfl,fun ie i=>(fK (hy.le (h.trans (f.trans i))) hm (by omega)).mono ?_⟩
  rintro r lL t ⟨p2,n2,c2,rfl,J⟩
  refine ⟨_,_,_,_,rfl,fun o_ j=>(ig _ _ (I.le (i.trans (t.trans j))) (J.le j) (by omega)).mono ?_⟩
  rintro r mJ K u
  rw [aG,aG] at u
  obtain ⟨p3,n3,c3,rfl,L⟩:=u
  have z:=h.trans (f.trans (i.trans (t.trans (j.trans K))))
  refine ⟨_,_,_,_,rfl,fun lN l=>(eV (hx.le (z.trans l)) hk (by omega)).mono ?_⟩
  rintro r kr A ⟨p4,n4,c4,rfl,M⟩
  refine ⟨_,_,_,rfl,fun mZ o=>(eV (hy.le (z.trans (l.trans (A.trans o)))) hm (by omega)).mono ?_⟩
  rintro r pe B ⟨p5,n5,c5,rfl,N⟩
  refine ⟨_,_,_,rfl,fun tj q=>(g_ (M.le (o.trans (B.trans q))) (N.le q) (by omega)).mono ?_⟩
  rintro r yF O ⟨p6,n6,c6,rfl,C⟩
  rw [ae,ae] at C
  refine ⟨_,_,_,rfl,fun uJ D=>(cF _ (L.le (l.trans (A.trans (o.trans (B.trans (q.trans (O.trans D))))))) (C.le D) (by omega) (by omega)).mono ?_⟩
  rintro r tm iF e
  rw [aG,ae,←g] at e
  obtain ⟨n,d,p,rfl⟩:=e.shape
  exact ⟨_,_,_,rfl,fun yx P=>e.le P⟩
theorem inv_neg {q:Rat}(h:q.num<0):(q⁻¹).num=-(q.den:Int)/\(q⁻¹).den=q.num.natAbs:=by
 show (Rat.inv q).num=_/\(Rat.inv q).den=_
 unfold Rat.inv
 rw [dif_pos h]
 exact ⟨rfl,rfl⟩
theorem inv_pos {q:Rat}(h:0<q.num):(q⁻¹).num=(q.den:Int)/\(q⁻¹).den=q.num.natAbs:=by
 show (Rat.inv q).num=_/\(Rat.inv q).den=_
 unfold Rat.inv
 rw [dif_neg (by omega),dif_pos h]
 exact ⟨rfl,rfl⟩
theorem inv_zero {q:Rat}(h:q.num=0):q⁻¹=0:=by
 have:q=0:=Rat.num_eq_zero.1 h
 subst this
 exact Rat.inv_zero
theorem cP {k:Nat}{q:Rat}(h:Sz k q):Sz k q⁻¹:=by
 rcases Int.lt_trichotomy q.num 0 with a|a|a
 ·obtain ⟨b,c⟩:=inv_neg a
  refine ⟨?_,?_⟩
  ·rw [b,Int.natAbs_neg];exact h.2
  ·rw [c];exact h.1
 ·rw [inv_zero a]
  exact ⟨Nat.two_pow_pos _,Nat.lt_of_le_of_lt (Nat.pos_of_ne_zero q.den_nz) h.2⟩
 ·obtain ⟨b,c⟩:=inv_pos a
  exact ⟨by rw [b];exact h.2,by rw [c];exact h.1⟩
theorem MT {V:View}{v:Value}{q:Rat}(h:RR V v q){k:Nat}(hs:Sz k q)(hk:k<=1099511627776):ab prog 192 #[v] V fun r V'=>RR V' r q⁻¹:=by
 rcases h with ⟨rfl,hw⟩|⟨a,b,p,n,c,s,t,y,rfl,z,A,B,C,D,hw⟩
 ·obtain ⟨l,m⟩:=hw
  have H:=q.den_nz
  refine oX _ _ _ V _ ⟨(fun d=>nomatch d),fun _=>⟨fun g I J=>?_,fun g=>⟨fun j K L=>?_,fun j M N=>?_⟩⟩⟩
  ·have g:=of_decide_eq_true g
   obtain ⟨f,i⟩:=inv_neg g
   refine .inl ⟨?_,?_⟩
   ·rw [f,i,ay (x:=(q.den:Int)-1+1) (by omega),ay (x:=0-q.num) (by omega),ay (x:=0-((q.den:Int)-1+1)) (by omega),ay (by omega)]
    congr 4
    ·omega
    ·congr 1;omega
   ·unfold Wd;rw [f,i,Int.natAbs_neg];exact ⟨m,l⟩
  ·have j:q.num=0:=by simpa using j
   rw [inv_zero j]
   exact .inl ⟨rfl,by decide,by decide⟩
  ·have g:¬q.num<0:=of_decide_eq_false g
   have j:q.num≠0:=by simpa using j
   obtain ⟨f,i⟩:=inv_pos (q:=q) (by omega)
   refine .inl ⟨?_,?_⟩
   ·rw [f,i,ay (x:=(q.den:Int)-1+1) (by omega),ay (by omega)]
    congr 4
    ·omega
    ·congr 1;omega
   ·unfold Wd;rw [f,i];exact ⟨m,l⟩
 ·obtain ⟨rfl,E⟩:=C.inv
  have O:=af hs.1
  have P:=af hs.2
  refine oX _ _ _ V _ ⟨fun _=>⟨rfl,rfl,rfl,decide (q.num<0),⟨a.add 0,by simp [ag,Addr.add],z⟩,rfl,rfl,s,t,y,⟨a.add 2,rfl,B⟩,rfl,rfl,rfl,p,n,c,⟨a.add 1,by simp [ag,Addr.add],A⟩,fun Q o=>(cF _ (D.le o) (E.le o) (by omega) (by omega)).mono ?_⟩,fun d=>nomatch d⟩
  rintro r V2 R h
  have e:mkRat (aY (decide (q.num<0)) (ah q.den)) (val (ah q.num.natAbs))=q⁻¹:=by
   rw [ae]
   have F:aY (decide (q.num<0)) (ah q.den)=if q.num<0 then -(q.den:Int) else (q.den:Int):=by
    unfold aY
    rw [ae]
    by_cases g:q.num<0<;>simp [g]
   rw [F]
   rcases Int.lt_trichotomy q.num 0 with d|d|d
   ·obtain ⟨f,i⟩:=inv_neg d
    rw [if_pos d,←f,←i,Rat.mkRat_self]
   ·rw [inv_zero d,d];simp
   ·obtain ⟨f,i⟩:=inv_pos d
    rw [if_neg (by omega),←f,←i,Rat.mkRat_self]
  rw [e] at h
  obtain ⟨u,v,w,rfl⟩:=h.shape
  exact ⟨_,_,_,rfl,fun S G=>h.le G⟩
theorem og {V:View}{v w:Value}{x y:Rat}(hx:RR V v x)(hy:RR V w y){k m:Nat}(hk:Sz k x)(hm:Sz m y)(hkm:k+m<1099511627776) :
  ab prog 147 #[v,w] V fun r V'=>RR V' r (x*y⁻¹):=by
 have a:=hx
 have b:=hy
 obtain ⟨h,i,j,rfl⟩:=hx.shape
 obtain ⟨l,s1,s2,rfl⟩:=hy.shape
 refine zv h i j l s1 s2 V _ fun q d=>(MT (b.le d) hm (by omega)).mono ?_
 rintro r V2 n e
 have c:=e
 obtain ⟨u,v,w,rfl⟩:=e.shape
 refine ⟨_,_,_,rfl,fun s f=>(fJ (a.le (d.trans (n.trans f))) (c.le f) hk (cP hm) hkm).mono ?_⟩
 rintro r t z g
 have o:=g
 obtain ⟨u,v,w,rfl⟩:=g.shape
 exact ⟨_,_,_,rfl,fun A p=>o.le p⟩
def oF (V:View)(v:Value)(x y:Rat):Prop:=∃(x1 x2:Int)(p:OA)(y1 y2:Int)(q:OA),v=.agg #[.int .i64 x1,.int .i64 x2,.pointer p,.int .i64 y1,.int .i64 y2,.pointer q] /\
 RR V (.agg #[.int .i64 x1,.int .i64 x2,.pointer p]) x/\RR V (.agg #[.int .i64 y1,.int .i64 y2,.pointer q]) y
theorem oF.le {V V':View}{v:Value}{x y:Rat}(h:oF V v x y)(l:V.Le V'):oF V' v x y:=by
 obtain ⟨a,b,p,c,d,q,e,f,g⟩:=h
 exact ⟨a,b,p,c,d,q,e,f.le l,g.le l⟩
theorem qe {V:View}{p:Value}{dv dz:Rat}{q:Value}{kj kl:Rat}(hp:oF V p dv dz)(hq:oF V q kj kl){k:Nat}(dQ:Sz k dv)(dR:Sz k dz)(kG:Sz k kj)(kH:Sz k kl)(hk:2*k+1<274877906944) :
  ab prog 149 #[p,q] V fun r V'=>oF V' r ((dv)+(kj)) ((dz)+(kl)):=by
 have i:=hp
 obtain ⟨j,l,m,n,o,s,rfl,t,u⟩:=hp
 have v:=hq
 obtain ⟨w,x,y,z,A,B,rfl,C,D⟩:=hq
 refine zH j l m n o s w x y z A B V _ fun F a=>(jZ (t.le (a)) (C.le (a)) dQ kG (by omega)).mono ?_
 rintro r V2 e f
 have b:=f
 obtain ⟨G,H,I,rfl⟩:=f.shape
 have J:Sz (2*k+1) ((dv)+(kj)):=Sz.mono (Sz.add dQ kG) (by omega)
 refine ⟨_,_,_,rfl,fun K c=>(jZ (u.le (a.trans (e.trans (c)))) (D.le (a.trans (e.trans (c)))) dR kH (by omega)).mono ?_⟩
 rintro r L E g
 have d:=g
 obtain ⟨M,N,O,rfl⟩:=g.shape
 have P:Sz (2*k+1) ((dz)+(kl)):=Sz.mono (Sz.add dR kH) (by omega)
 exact ⟨_,_,_,rfl,fun Q h=>⟨_,_,_,_,_,_,rfl,(b.le (c.trans (E.trans (h)))),(d.le (h))⟩⟩
theorem jQ {dv dz kj kl:Rat}{k:Nat}(dQ:Sz k dv)(dR:Sz k dz)(kG:Sz k kj)(kH:Sz k kl):Sz (2*k+1) ((dv)+(kj)):=by
 have a:Sz (2*k+1) ((dv)+(kj)):=Sz.mono (Sz.add dQ kG) (by omega)
 have b:Sz (2*k+1) ((dz)+(kl)):=Sz.mono (Sz.add dR kH) (by omega)
 exact Sz.mono a (by omega)
theorem jR {dv dz kj kl:Rat}{k:Nat}(dQ:Sz k dv)(dR:Sz k dz)(kG:Sz k kj)(kH:Sz k kl):Sz (2*k+1) ((dz)+(kl)):=by
 have b:Sz (2*k+1) ((dv)+(kj)):=Sz.mono (Sz.add dQ kG) (by omega)
 have a:Sz (2*k+1) ((dz)+(kl)):=Sz.mono (Sz.add dR kH) (by omega)
 exact Sz.mono a (by omega)
theorem ju {V:View}{p:Value}{dv dz:Rat}{c:Value}{Ft:Rat}(hp:oF V p dv dz)(hc:RR V c Ft){k:Nat}(dQ:Sz k dv)(dR:Sz k dz)(zg:Sz k Ft)(hk:2*k+1<274877906944) :
  ab prog 150 #[p,c] V fun r V'=>oF V' r ((dv)*(Ft)) ((dz)*(Ft)):=by
 have l:=hp
 obtain ⟨m,n,o,q,s,t,rfl,u,v⟩:=hp
 have a:=hc
 obtain ⟨w,x,y,rfl⟩:=hc.shape
 refine ur m n o q s t w x y V _ fun A b=>(fJ (u.le (b)) (a.le (b)) dQ zg (by omega)).mono ?_
 rintro r V2 g h
 have d:=h
 obtain ⟨B,C,D,rfl⟩:=h.shape
 have E:Sz (2*k+1) ((dv)*(Ft)):=Sz.mono (Sz.mul dQ zg) (by omega)
 refine ⟨_,_,_,rfl,fun F e=>(fJ (v.le (b.trans (g.trans (e)))) (a.le (b.trans (g.trans (e)))) dR zg (by omega)).mono ?_⟩
 rintro r G z i
 have f:=i
 obtain ⟨H,I,J,rfl⟩:=i.shape
 have K:Sz (2*k+1) ((dz)*(Ft)):=Sz.mono (Sz.mul dR zg) (by omega)
 exact ⟨_,_,_,rfl,fun L j=>⟨_,_,_,_,_,_,rfl,(d.le (e.trans (z.trans (j)))),(f.le (j))⟩⟩
theorem cJ {dv dz Ft:Rat}{k:Nat}(dQ:Sz k dv)(dR:Sz k dz)(zg:Sz k Ft):Sz (2*k+1) ((dv)*(Ft)):=by
 have a:Sz (2*k+1) ((dv)*(Ft)):=Sz.mono (Sz.mul dQ zg) (by omega)
 have b:Sz (2*k+1) ((dz)*(Ft)):=Sz.mono (Sz.mul dR zg) (by omega)
 exact Sz.mono a (by omega)
theorem cK {dv dz Ft:Rat}{k:Nat}(dQ:Sz k dv)(dR:Sz k dz)(zg:Sz k Ft):Sz (2*k+1) ((dz)*(Ft)):=by
 have b:Sz (2*k+1) ((dv)*(Ft)):=Sz.mono (Sz.mul dQ zg) (by omega)
 have a:Sz (2*k+1) ((dz)*(Ft)):=Sz.mono (Sz.mul dR zg) (by omega)
 exact Sz.mono a (by omega)
theorem iU {V:View}{p:Value}{dv dz:Rat}{q:Value}{kj kl:Rat}(hp:oF V p dv dz)(hq:oF V q kj kl){k:Nat}(dQ:Sz k dv)(dR:Sz k dz)(kG:Sz k kj)(kH:Sz k kl)(hk:4*k+3<274877906944) :
  ab prog 144 #[p,q] V fun r V'=>RR V' r (((dv)*(kj))+((dz)*(kl))):=by
 have m:=hp
 obtain ⟨n,o,s,t,u,v,rfl,w,x⟩:=hp
 have y:=hq
 obtain ⟨z,A,B,C,D,E,rfl,F,G⟩:=hq
 refine zI n o s t u v z A B C D E V _ fun K a=>(fJ (w.le (a)) (F.le (a)) dQ kG (by omega)).mono ?_
 rintro r V2 e f
 have b:=f
 obtain ⟨L,M,N,rfl⟩:=f.shape
 have g:Sz (2*k+1) ((dv)*(kj)):=Sz.mono (Sz.mul dQ kG) (by omega)
 refine ⟨_,_,_,rfl,fun O c=>(fJ (x.le (a.trans (e.trans (c)))) (G.le (a.trans (e.trans (c)))) dR kH (by omega)).mono ?_⟩
 rintro r P H h
 have d:=h
 obtain ⟨Q,R,S,rfl⟩:=h.shape
 have i:Sz (2*k+1) ((dz)*(kl)):=Sz.mono (Sz.mul dR kH) (by omega)
 refine ⟨_,_,_,rfl,fun T j=>(jZ (b.le (c.trans (H.trans (j)))) (d.le (j)) g i (by omega)).mono ?_⟩
 rintro r U W l
 have I:=l
 obtain ⟨X,Y,Z,rfl⟩:=l.shape
 have cU:Sz (4*k+3) (((dv)*(kj))+((dz)*(kl))):=Sz.mono (Sz.add g i) (by omega)
 exact ⟨_,_,_,rfl,fun V7 J=>(I.le (J))⟩
theorem dL {dv dz kj kl:Rat}{k:Nat}(dQ:Sz k dv)(dR:Sz k dz)(kG:Sz k kj)(kH:Sz k kl):Sz (4*k+3) (((dv)*(kj))+((dz)*(kl))):=by
 have a:Sz (2*k+1) ((dv)*(kj)):=Sz.mono (Sz.mul dQ kG) (by omega)
 have b:Sz (2*k+1) ((dz)*(kl)):=Sz.mono (Sz.mul dR kH) (by omega)
 have c:Sz (4*k+3) (((dv)*(kj))+((dz)*(kl))):=Sz.mono (Sz.add a b) (by omega)
 exact Sz.mono c (by omega)
theorem gJ {V:View}{p:Value}{dv dz:Rat}{q:Value}{kj kl:Rat}(hp:oF V p dv dz)(hq:oF V q kj kl){k:Nat}(dQ:Sz k dv)(dR:Sz k dz)(kG:Sz k kj)(kH:Sz k kl)(hk:4*k+3<274877906944) :
  ab prog 136 #[p,q] V fun r V'=>RR V' r (((dv)*(kl))-((dz)*(kj))):=by
 have m:=hp
 obtain ⟨n,o,s,t,u,v,rfl,w,x⟩:=hp
 have y:=hq
 obtain ⟨z,A,B,C,D,E,rfl,F,G⟩:=hq
 refine uq n o s t u v z A B C D E V _ fun K a=>(fJ (w.le (a)) (G.le (a)) dQ kH (by omega)).mono ?_
 rintro r V2 e f
 have b:=f
 obtain ⟨L,M,N,rfl⟩:=f.shape
 have g:Sz (2*k+1) ((dv)*(kl)):=Sz.mono (Sz.mul dQ kH) (by omega)
 refine ⟨_,_,_,rfl,fun O c=>(fJ (x.le (a.trans (e.trans (c)))) (F.le (a.trans (e.trans (c)))) dR kG (by omega)).mono ?_⟩
 rintro r P H h
 have d:=h
 obtain ⟨Q,R,S,rfl⟩:=h.shape
 have i:Sz (2*k+1) ((dz)*(kj)):=Sz.mono (Sz.mul dR kG) (by omega)
 refine ⟨_,_,_,rfl,fun T j=>(qb (b.le (c.trans (H.trans (j)))) (d.le (j)) g i (by omega)).mono ?_⟩
 rintro r U W l
 have I:=l
 obtain ⟨X,Y,Z,rfl⟩:=l.shape
 have cU:Sz (4*k+3) (((dv)*(kl))-((dz)*(kj))):=Sz.mono (Sz.sub g i) (by omega)
 exact ⟨_,_,_,rfl,fun V7 J=>(I.le (J))⟩
theorem lK {dv dz kj kl:Rat}{k:Nat}(dQ:Sz k dv)(dR:Sz k dz)(kG:Sz k kj)(kH:Sz k kl):Sz (4*k+3) (((dv)*(kl))-((dz)*(kj))):=by
 have a:Sz (2*k+1) ((dv)*(kl)):=Sz.mono (Sz.mul dQ kH) (by omega)
 have b:Sz (2*k+1) ((dz)*(kj)):=Sz.mono (Sz.mul dR kG) (by omega)
 have c:Sz (4*k+3) (((dv)*(kl))-((dz)*(kj))):=Sz.mono (Sz.sub a b) (by omega)
 exact Sz.mono c (by omega)
theorem lT {V:View}{l:Value}{az l_1 bL:Rat}(hl:yD V l az l_1 bL){k:Nat}(bh:Sz k az)(bq:Sz k l_1)(bj:Sz k bL)(hk:1*k+1<274877906944) :
  ab prog 135 #[l] V fun r V'=>oF V' r (l_1) (-(az)):=by
 have f:=hl
 obtain ⟨g,a,c,b,h,i,j,m,n,rfl,o,p,q⟩:=hl
 refine zF g a c b h i j m n V _ fun s a=>(oe (o.le (a)) bh (by omega)).mono ?_
 rintro r V2 c e
 have d:=e
 obtain ⟨t,u,v,rfl⟩:=e.shape
 have w:Sz (1*k+0) (-(az)):=Sz.mono (Sz.neg bh) (by omega)
 exact ⟨_,_,_,rfl,fun x b=>⟨_,_,_,_,_,_,rfl,(p.le (a.trans (c.trans (b)))),(d.le (b))⟩⟩
theorem jO {az l_1 bL:Rat}{k:Nat}(bh:Sz k az)(bq:Sz k l_1)(bj:Sz k bL):Sz (1*k+0) (l_1):=by
 have a:Sz (1*k+0) (-(az)):=Sz.mono (Sz.neg bh) (by omega)
 exact Sz.mono bq (by omega)
theorem jP {az l_1 bL:Rat}{k:Nat}(bh:Sz k az)(bq:Sz k l_1)(bj:Sz k bL):Sz (1*k+0) (-(az)):=by
 have a:Sz (1*k+0) (-(az)):=Sz.mono (Sz.neg bh) (by omega)
 exact Sz.mono a (by omega)
theorem cq {V:View}{l:Value}{az l_1 bL:Rat}(hl:yD V l az l_1 bL){k:Nat}(bh:Sz k az)(bq:Sz k l_1)(bj:Sz k bL)(hk:1*k+1<274877906944) :
  ab prog 142 #[l] V fun r V'=>oF V' r (az) (l_1):=by
 have b:=hl
 obtain ⟨c,a,d,e,f,g,h,i,j,rfl,m,n,o⟩:=hl
 exact sS c a d e f g h i j V _ fun p a=>⟨_,_,_,_,_,_,rfl,(m.le (a)),(n.le (a))⟩
theorem dk {az l_1 bL:Rat}{k:Nat}(bh:Sz k az)(bq:Sz k l_1)(bj:Sz k bL):Sz (1*k+0) (az):=by
 exact Sz.mono bh (by omega)
theorem dm {az l_1 bL:Rat}{k:Nat}(bh:Sz k az)(bq:Sz k l_1)(bj:Sz k bL):Sz (1*k+0) (l_1):=by
 exact Sz.mono bq (by omega)
theorem jt {V:View}{l:Value}{az l_1 bL:Rat}{p:Value}{dv dz:Rat}(hl:yD V l az l_1 bL)(hp:oF V p dv dz){k:Nat}(bh:Sz k az)(bq:Sz k l_1)(bj:Sz k bL)(dQ:Sz k dv)(dR:Sz k dz)(hk:5*k+4<274877906944) :
  ab prog 146 #[l,p] V fun r V'=>RR V' r ((((az)*(dv))+((l_1)*(dz)))+(bL)):=by
 have e:=hl
 obtain ⟨v,a,c,b,f,d,m,g,w,rfl,F,G,x⟩:=hl
 have h:=hp
 obtain ⟨y,z,A,B,C,D,rfl,H,I⟩:=hp
 refine uo v a c b f d m g w y z A B C D V _ fun J a=>(cq (e.le (a)) (Sz.mono bh (by omega):Sz (1*k+0) _) (Sz.mono bq (by omega):Sz (1*k+0) _) (Sz.mono bj (by omega):Sz (1*k+0) _) (by omega)).mono ?_
 rintro r V2 c n
 have i:=n
 obtain ⟨K,L,M,N,O,P,rfl,Q,R⟩:=n
 have o:Sz (1*k+0) (az):=Sz.mono ((dk (Sz.mono bh (by omega):Sz (1*k+0) _) (Sz.mono bq (by omega):Sz (1*k+0) _) (Sz.mono bj (by omega):Sz (1*k+0) _))) (by omega)
 have q:Sz (1*k+0) (l_1):=Sz.mono ((dm (Sz.mono bh (by omega):Sz (1*k+0) _) (Sz.mono bq (by omega):Sz (1*k+0) _) (Sz.mono bj (by omega):Sz (1*k+0) _))) (by omega)
 refine ⟨_,_,_,_,_,_,rfl,fun S b=>(iU (i.le (b)) (h.le (a.trans (c.trans (b)))) (Sz.mono o (by omega):Sz (1*k+0) _) (Sz.mono q (by omega):Sz (1*k+0) _) (Sz.mono dQ (by omega):Sz (1*k+0) _) (Sz.mono dR (by omega):Sz (1*k+0) _) (by omega)).mono ?_⟩
 rintro r T f s
 have j:=s
 obtain ⟨U,W,X,rfl⟩:=s.shape
 have t:Sz (4*k+3) (((az)*(dv))+((l_1)*(dz))):=Sz.mono ((dL (Sz.mono o (by omega):Sz (1*k+0) _) (Sz.mono q (by omega):Sz (1*k+0) _) (Sz.mono dQ (by omega):Sz (1*k+0) _) (Sz.mono dR (by omega):Sz (1*k+0) _))) (by omega)
 refine ⟨_,_,_,rfl,fun Y d=>(jZ (j.le (d)) (x.le (a.trans (c.trans (b.trans (f.trans (d)))))) t bj (by omega)).mono ?_⟩
 rintro r Z m u
 have E:=u
 obtain ⟨Pc,Pf,Pg,rfl⟩:=u.shape
 have cU:Sz (5*k+4) ((((az)*(dv))+((l_1)*(dz)))+(bL)):=Sz.mono (Sz.add t bj) (by omega)
 exact ⟨_,_,_,rfl,fun V7 g=>(E.le (g))⟩
theorem lJ {az l_1 bL dv dz:Rat}{k:Nat}(bh:Sz k az)(bq:Sz k l_1)(bj:Sz k bL)(dQ:Sz k dv)(dR:Sz k dz):Sz (5*k+4) ((((az)*(dv))+((l_1)*(dz)))+(bL)):=by
 have a:Sz (1*k+0) (az):=Sz.mono ((dk (Sz.mono bh (by omega):Sz (1*k+0) _) (Sz.mono bq (by omega):Sz (1*k+0) _) (Sz.mono bj (by omega):Sz (1*k+0) _))) (by omega)
 have b:Sz (1*k+0) (l_1):=Sz.mono ((dm (Sz.mono bh (by omega):Sz (1*k+0) _) (Sz.mono bq (by omega):Sz (1*k+0) _) (Sz.mono bj (by omega):Sz (1*k+0) _))) (by omega)
 have c:Sz (4*k+3) (((az)*(dv))+((l_1)*(dz))):=Sz.mono ((dL (Sz.mono a (by omega):Sz (1*k+0) _) (Sz.mono b (by omega):Sz (1*k+0) _) (Sz.mono dQ (by omega):Sz (1*k+0) _) (Sz.mono dR (by omega):Sz (1*k+0) _))) (by omega)
 have d:Sz (5*k+4) ((((az)*(dv))+((l_1)*(dz)))+(bL)):=Sz.mono (Sz.add c bj) (by omega)
 exact Sz.mono d (by omega)
theorem oN {V:View}{l:Value}{az l_1 bL:Rat}(hl:yD V l az l_1 bL){k:Nat}(bh:Sz k az)(bq:Sz k l_1)(bj:Sz k bL)(hk:10*k+9<274877906944) :
  ab prog 180 #[l] V fun r V'=>oF V' r ((az)*(((-(bL))*(((az)*(az))+((l_1)*(l_1)))⁻¹))) ((l_1)*(((-(bL))*(((az)*(az))+((l_1)*(l_1)))⁻¹))):=by
 have j:=hl
 obtain ⟨G,h,m,d,f,e,i,g,n,rfl,N,O,H⟩:=hl
 refine xI G h m d f e i g n V _ fun P h=>(cq (j.le (h)) (Sz.mono bh (by omega):Sz (1*k+0) _) (Sz.mono bq (by omega):Sz (1*k+0) _) (Sz.mono bj (by omega):Sz (1*k+0) _) (by omega)).mono ?_
 rintro r V2 m q
 have a:=q
 obtain ⟨Q,R,S,T,U,W,rfl,X,Y⟩:=q
 have b:Sz (1*k+0) (az):=Sz.mono ((dk (Sz.mono bh (by omega):Sz (1*k+0) _) (Sz.mono bq (by omega):Sz (1*k+0) _) (Sz.mono bj (by omega):Sz (1*k+0) _))) (by omega)
 have c:Sz (1*k+0) (l_1):=Sz.mono ((dm (Sz.mono bh (by omega):Sz (1*k+0) _) (Sz.mono bq (by omega):Sz (1*k+0) _) (Sz.mono bj (by omega):Sz (1*k+0) _))) (by omega)
 refine ⟨_,_,_,_,_,_,rfl,fun Z d=>(oe (H.le (h.trans (m.trans (d)))) bj (by omega)).mono ?_⟩
 rintro r V4 f s
 have o:=s
 obtain ⟨MD,ME,MF,rfl⟩:=s.shape
 have t:Sz (1*k+0) (-(bL)):=Sz.mono (Sz.neg bj) (by omega)
 refine ⟨_,_,_,rfl,fun V5 e=>(iU (a.le (d.trans (f.trans (e)))) (a.le (d.trans (f.trans (e)))) (Sz.mono b (by omega):Sz (1*k+0) _) (Sz.mono c (by omega):Sz (1*k+0) _) (Sz.mono b (by omega):Sz (1*k+0) _) (Sz.mono c (by omega):Sz (1*k+0) _) (by omega)).mono ?_⟩
 rintro r V6 i u
 have I:=u
 obtain ⟨Pc,Pf,Pg,rfl⟩:=u.shape
 have v:Sz (4*k+3) (((az)*(az))+((l_1)*(l_1))):=Sz.mono ((dL (Sz.mono b (by omega):Sz (1*k+0) _) (Sz.mono c (by omega):Sz (1*k+0) _) (Sz.mono b (by omega):Sz (1*k+0) _) (Sz.mono c (by omega):Sz (1*k+0) _))) (by omega)
 refine ⟨_,_,_,rfl,fun V7 g=>(og (o.le (e.trans (i.trans (g)))) (I.le (g)) t v (by omega)).mono ?_⟩
 rintro r V8 n w
 have J:=w
 obtain ⟨Yq,Yr,Ys,rfl⟩:=w.shape
 have p:Sz (5*k+4) ((-(bL))*(((az)*(az))+((l_1)*(l_1)))⁻¹):=Sz.mono (Sz.mul t (cP v)) (by omega)
 refine ⟨_,_,_,rfl,fun V9 x=>(ju (a.le (d.trans (f.trans (e.trans (i.trans (g.trans (n.trans (x)))))))) (J.le (x)) (Sz.mono b (by omega):Sz (5*k+4) _) (Sz.mono c (by omega):Sz (5*k+4) _) (Sz.mono p (by omega):Sz (5*k+4) _) (by omega)).mono ?_⟩
 rintro r iI K y
 have C_:=y
 obtain ⟨z,A,B,C,D,E,rfl,L,M⟩:=y
 have n_:Sz (10*k+9) ((az)*(((-(bL))*(((az)*(az))+((l_1)*(l_1)))⁻¹))):=Sz.mono ((cJ (Sz.mono b (by omega):Sz (5*k+4) _) (Sz.mono c (by omega):Sz (5*k+4) _) (Sz.mono p (by omega):Sz (5*k+4) _))) (by omega)
 have QV:Sz (10*k+9) ((l_1)*(((-(bL))*(((az)*(az))+((l_1)*(l_1)))⁻¹))):=Sz.mono ((cK (Sz.mono b (by omega):Sz (5*k+4) _) (Sz.mono c (by omega):Sz (5*k+4) _) (Sz.mono p (by omega):Sz (5*k+4) _))) (by omega)
 exact ⟨_,_,_,_,_,_,rfl,fun ie F=>⟨_,_,_,_,_,_,rfl,(L.le (F)),(M.le (F))⟩⟩
theorem dY {az l_1 bL:Rat}{k:Nat}(bh:Sz k az)(bq:Sz k l_1)(bj:Sz k bL):Sz (10*k+9) ((az)*(((-(bL))*(((az)*(az))+((l_1)*(l_1)))⁻¹))):=by
 have a:Sz (1*k+0) (az):=Sz.mono ((dk (Sz.mono bh (by omega):Sz (1*k+0) _) (Sz.mono bq (by omega):Sz (1*k+0) _) (Sz.mono bj (by omega):Sz (1*k+0) _))) (by omega)
 have b:Sz (1*k+0) (l_1):=Sz.mono ((dm (Sz.mono bh (by omega):Sz (1*k+0) _) (Sz.mono bq (by omega):Sz (1*k+0) _) (Sz.mono bj (by omega):Sz (1*k+0) _))) (by omega)
 have d:Sz (1*k+0) (-(bL)):=Sz.mono (Sz.neg bj) (by omega)
 have e:Sz (4*k+3) (((az)*(az))+((l_1)*(l_1))):=Sz.mono ((dL (Sz.mono a (by omega):Sz (1*k+0) _) (Sz.mono b (by omega):Sz (1*k+0) _) (Sz.mono a (by omega):Sz (1*k+0) _) (Sz.mono b (by omega):Sz (1*k+0) _))) (by omega)
 have c:Sz (5*k+4) ((-(bL))*(((az)*(az))+((l_1)*(l_1)))⁻¹):=Sz.mono (Sz.mul d (cP e)) (by omega)
 have f:Sz (10*k+9) ((az)*(((-(bL))*(((az)*(az))+((l_1)*(l_1)))⁻¹))):=Sz.mono ((cJ (Sz.mono a (by omega):Sz (5*k+4) _) (Sz.mono b (by omega):Sz (5*k+4) _) (Sz.mono c (by omega):Sz (5*k+4) _))) (by omega)
 have g:Sz (10*k+9) ((l_1)*(((-(bL))*(((az)*(az))+((l_1)*(l_1)))⁻¹))):=Sz.mono ((cK (Sz.mono a (by omega):Sz (5*k+4) _) (Sz.mono b (by omega):Sz (5*k+4) _) (Sz.mono c (by omega):Sz (5*k+4) _))) (by omega)
 exact Sz.mono f (by omega)
theorem dZ {az l_1 bL:Rat}{k:Nat}(bh:Sz k az)(bq:Sz k l_1)(bj:Sz k bL):Sz (10*k+9) ((l_1)*(((-(bL))*(((az)*(az))+((l_1)*(l_1)))⁻¹))):=by
 have a:Sz (1*k+0) (az):=Sz.mono ((dk (Sz.mono bh (by omega):Sz (1*k+0) _) (Sz.mono bq (by omega):Sz (1*k+0) _) (Sz.mono bj (by omega):Sz (1*k+0) _))) (by omega)
 have b:Sz (1*k+0) (l_1):=Sz.mono ((dm (Sz.mono bh (by omega):Sz (1*k+0) _) (Sz.mono bq (by omega):Sz (1*k+0) _) (Sz.mono bj (by omega):Sz (1*k+0) _))) (by omega)
 have d:Sz (1*k+0) (-(bL)):=Sz.mono (Sz.neg bj) (by omega)
 have e:Sz (4*k+3) (((az)*(az))+((l_1)*(l_1))):=Sz.mono ((dL (Sz.mono a (by omega):Sz (1*k+0) _) (Sz.mono b (by omega):Sz (1*k+0) _) (Sz.mono a (by omega):Sz (1*k+0) _) (Sz.mono b (by omega):Sz (1*k+0) _))) (by omega)
 have c:Sz (5*k+4) ((-(bL))*(((az)*(az))+((l_1)*(l_1)))⁻¹):=Sz.mono (Sz.mul d (cP e)) (by omega)
 have g:Sz (10*k+9) ((az)*(((-(bL))*(((az)*(az))+((l_1)*(l_1)))⁻¹))):=Sz.mono ((cJ (Sz.mono a (by omega):Sz (5*k+4) _) (Sz.mono b (by omega):Sz (5*k+4) _) (Sz.mono c (by omega):Sz (5*k+4) _))) (by omega)
 have f:Sz (10*k+9) ((l_1)*(((-(bL))*(((az)*(az))+((l_1)*(l_1)))⁻¹))):=Sz.mono ((cK (Sz.mono a (by omega):Sz (5*k+4) _) (Sz.mono b (by omega):Sz (5*k+4) _) (Sz.mono c (by omega):Sz (5*k+4) _))) (by omega)
 exact Sz.mono f (by omega)
theorem Du {V:View}{l:Value}{az l_1 bL:Rat}{t:Value}{qW:Rat}(hl:yD V l az l_1 bL)(ht:RR V t qW){k:Nat}(bh:Sz k az)(bq:Sz k l_1)(bj:Sz k bL)(sL:Sz k qW)(hk:20*k+19<274877906944) :
  ab prog 132 #[l,t] V fun r V'=>oF V' r ((((az)*(((-(bL))*(((az)*(az))+((l_1)*(l_1)))⁻¹))))+(((l_1)*(qW)))) ((((l_1)*(((-(bL))*(((az)*(az))+((l_1)*(l_1)))⁻¹))))+((((-(az)))*(qW)))):=by
 have a:=hl
 obtain ⟨H,b,e,c,f,d,h,g,v,rfl,L,M,N⟩:=hl
 have i:=ht
 obtain ⟨t0,t1,t2,rfl⟩:=ht.shape
 refine CJ H b e c f d h g v t0 t1 t2 V _ fun O b=>(oN (a.le (b)) (Sz.mono bh (by omega):Sz (1*k+0) _) (Sz.mono bq (by omega):Sz (1*k+0) _) (Sz.mono bj (by omega):Sz (1*k+0) _) (by omega)).mono ?_
 rintro r V2 e w
 have j:=w
 obtain ⟨P,Q,R,S,T,U,rfl,W,X⟩:=w
 have m:Sz (10*k+9) ((az)*(((-(bL))*(((az)*(az))+((l_1)*(l_1)))⁻¹))):=Sz.mono ((dY (Sz.mono bh (by omega):Sz (1*k+0) _) (Sz.mono bq (by omega):Sz (1*k+0) _) (Sz.mono bj (by omega):Sz (1*k+0) _))) (by omega)
 have n:Sz (10*k+9) ((l_1)*(((-(bL))*(((az)*(az))+((l_1)*(l_1)))⁻¹))):=Sz.mono ((dZ (Sz.mono bh (by omega):Sz (1*k+0) _) (Sz.mono bq (by omega):Sz (1*k+0) _) (Sz.mono bj (by omega):Sz (1*k+0) _))) (by omega)
 refine ⟨_,_,_,_,_,_,rfl,fun Y c=>(lT (a.le (b.trans (e.trans (c)))) (Sz.mono bh (by omega):Sz (1*k+0) _) (Sz.mono bq (by omega):Sz (1*k+0) _) (Sz.mono bj (by omega):Sz (1*k+0) _) (by omega)).mono ?_⟩
 rintro r Z f x
 have o:=x
 obtain ⟨Yd,Ye,Yf,Yg,Yh,Yi,rfl,VC,VD⟩:=x
 have p:Sz (1*k+0) (l_1):=Sz.mono ((jO (Sz.mono bh (by omega):Sz (1*k+0) _) (Sz.mono bq (by omega):Sz (1*k+0) _) (Sz.mono bj (by omega):Sz (1*k+0) _))) (by omega)
 have q:Sz (1*k+0) (-(az)):=Sz.mono ((jP (Sz.mono bh (by omega):Sz (1*k+0) _) (Sz.mono bq (by omega):Sz (1*k+0) _) (Sz.mono bj (by omega):Sz (1*k+0) _))) (by omega)
 refine ⟨_,_,_,_,_,_,rfl,fun V5 d=>(ju (o.le (d)) (i.le (b.trans (e.trans (c.trans (f.trans (d)))))) (Sz.mono p (by omega):Sz (1*k+0) _) (Sz.mono q (by omega):Sz (1*k+0) _) (Sz.mono sL (by omega):Sz (1*k+0) _) (by omega)).mono ?_⟩
 rintro r V6 h y
 have I:=y
 obtain ⟨Yj,Yk,Yl,Ym,Yn,Yp,rfl,R7,R8⟩:=y
 have s:Sz (2*k+1) ((l_1)*(qW)):=Sz.mono ((cJ (Sz.mono p (by omega):Sz (1*k+0) _) (Sz.mono q (by omega):Sz (1*k+0) _) (Sz.mono sL (by omega):Sz (1*k+0) _))) (by omega)
 have u:Sz (2*k+1) (((-(az)))*(qW)):=Sz.mono ((cK (Sz.mono p (by omega):Sz (1*k+0) _) (Sz.mono q (by omega):Sz (1*k+0) _) (Sz.mono sL (by omega):Sz (1*k+0) _))) (by omega)
 refine ⟨_,_,_,_,_,_,rfl,fun V7 g=>(qe (j.le (c.trans (f.trans (d.trans (h.trans (g)))))) (I.le (g)) (Sz.mono m (by omega):Sz (10*k+9) _) (Sz.mono n (by omega):Sz (10*k+9) _) (Sz.mono s (by omega):Sz (10*k+9) _) (Sz.mono u (by omega):Sz (10*k+9) _) (by omega)).mono ?_⟩
 rintro r V8 v z
 have DT:=z
 obtain ⟨A,B,C,D,E,F,rfl,J,K⟩:=z
 have jh:Sz (20*k+19) ((((az)*(((-(bL))*(((az)*(az))+((l_1)*(l_1)))⁻¹))))+(((l_1)*(qW)))):=Sz.mono ((jQ (Sz.mono m (by omega):Sz (10*k+9) _) (Sz.mono n (by omega):Sz (10*k+9) _) (Sz.mono s (by omega):Sz (10*k+9) _) (Sz.mono u (by omega):Sz (10*k+9) _))) (by omega)
 have QU:Sz (20*k+19) ((((l_1)*(((-(bL))*(((az)*(az))+((l_1)*(l_1)))⁻¹))))+((((-(az)))*(qW)))):=Sz.mono ((jR (Sz.mono m (by omega):Sz (10*k+9) _) (Sz.mono n (by omega):Sz (10*k+9) _) (Sz.mono s (by omega):Sz (10*k+9) _) (Sz.mono u (by omega):Sz (10*k+9) _))) (by omega)
 exact ⟨_,_,_,_,_,_,rfl,fun V9 G=>⟨_,_,_,_,_,_,rfl,(J.le (G)),(K.le (G))⟩⟩
theorem Ad {az l_1 bL qW:Rat}{k:Nat}(bh:Sz k az)(bq:Sz k l_1)(bj:Sz k bL)(sL:Sz k qW):Sz (20*k+19) ((((az)*(((-(bL))*(((az)*(az))+((l_1)*(l_1)))⁻¹))))+(((l_1)*(qW)))):=by
 have a:Sz (10*k+9) ((az)*(((-(bL))*(((az)*(az))+((l_1)*(l_1)))⁻¹))):=Sz.mono ((dY (Sz.mono bh (by omega):Sz (1*k+0) _) (Sz.mono bq (by omega):Sz (1*k+0) _) (Sz.mono bj (by omega):Sz (1*k+0) _))) (by omega)
 have b:Sz (10*k+9) ((l_1)*(((-(bL))*(((az)*(az))+((l_1)*(l_1)))⁻¹))):=Sz.mono ((dZ (Sz.mono bh (by omega):Sz (1*k+0) _) (Sz.mono bq (by omega):Sz (1*k+0) _) (Sz.mono bj (by omega):Sz (1*k+0) _))) (by omega)
 have c:Sz (1*k+0) (l_1):=Sz.mono ((jO (Sz.mono bh (by omega):Sz (1*k+0) _) (Sz.mono bq (by omega):Sz (1*k+0) _) (Sz.mono bj (by omega):Sz (1*k+0) _))) (by omega)
 have d:Sz (1*k+0) (-(az)):=Sz.mono ((jP (Sz.mono bh (by omega):Sz (1*k+0) _) (Sz.mono bq (by omega):Sz (1*k+0) _) (Sz.mono bj (by omega):Sz (1*k+0) _))) (by omega)
 have e:Sz (2*k+1) ((l_1)*(qW)):=Sz.mono ((cJ (Sz.mono c (by omega):Sz (1*k+0) _) (Sz.mono d (by omega):Sz (1*k+0) _) (Sz.mono sL (by omega):Sz (1*k+0) _))) (by omega)
 have f:Sz (2*k+1) (((-(az)))*(qW)):=Sz.mono ((cK (Sz.mono c (by omega):Sz (1*k+0) _) (Sz.mono d (by omega):Sz (1*k+0) _) (Sz.mono sL (by omega):Sz (1*k+0) _))) (by omega)
 have g:Sz (20*k+19) ((((az)*(((-(bL))*(((az)*(az))+((l_1)*(l_1)))⁻¹))))+(((l_1)*(qW)))):=Sz.mono ((jQ (Sz.mono a (by omega):Sz (10*k+9) _) (Sz.mono b (by omega):Sz (10*k+9) _) (Sz.mono e (by omega):Sz (10*k+9) _) (Sz.mono f (by omega):Sz (10*k+9) _))) (by omega)
 have h:Sz (20*k+19) ((((l_1)*(((-(bL))*(((az)*(az))+((l_1)*(l_1)))⁻¹))))+((((-(az)))*(qW)))):=Sz.mono ((jR (Sz.mono a (by omega):Sz (10*k+9) _) (Sz.mono b (by omega):Sz (10*k+9) _) (Sz.mono e (by omega):Sz (10*k+9) _) (Sz.mono f (by omega):Sz (10*k+9) _))) (by omega)
 exact Sz.mono g (by omega)
theorem Ae {az l_1 bL qW:Rat}{k:Nat}(bh:Sz k az)(bq:Sz k l_1)(bj:Sz k bL)(sL:Sz k qW):Sz (20*k+19) ((((l_1)*(((-(bL))*(((az)*(az))+((l_1)*(l_1)))⁻¹))))+((((-(az)))*(qW)))):=by
 have a:Sz (10*k+9) ((az)*(((-(bL))*(((az)*(az))+((l_1)*(l_1)))⁻¹))):=Sz.mono ((dY (Sz.mono bh (by omega):Sz (1*k+0) _) (Sz.mono bq (by omega):Sz (1*k+0) _) (Sz.mono bj (by omega):Sz (1*k+0) _))) (by omega)
 have b:Sz (10*k+9) ((l_1)*(((-(bL))*(((az)*(az))+((l_1)*(l_1)))⁻¹))):=Sz.mono ((dZ (Sz.mono bh (by omega):Sz (1*k+0) _) (Sz.mono bq (by omega):Sz (1*k+0) _) (Sz.mono bj (by omega):Sz (1*k+0) _))) (by omega)
 have c:Sz (1*k+0) (l_1):=Sz.mono ((jO (Sz.mono bh (by omega):Sz (1*k+0) _) (Sz.mono bq (by omega):Sz (1*k+0) _) (Sz.mono bj (by omega):Sz (1*k+0) _))) (by omega)
 have d:Sz (1*k+0) (-(az)):=Sz.mono ((jP (Sz.mono bh (by omega):Sz (1*k+0) _) (Sz.mono bq (by omega):Sz (1*k+0) _) (Sz.mono bj (by omega):Sz (1*k+0) _))) (by omega)
 have e:Sz (2*k+1) ((l_1)*(qW)):=Sz.mono ((cJ (Sz.mono c (by omega):Sz (1*k+0) _) (Sz.mono d (by omega):Sz (1*k+0) _) (Sz.mono sL (by omega):Sz (1*k+0) _))) (by omega)
 have f:Sz (2*k+1) (((-(az)))*(qW)):=Sz.mono ((cK (Sz.mono c (by omega):Sz (1*k+0) _) (Sz.mono d (by omega):Sz (1*k+0) _) (Sz.mono sL (by omega):Sz (1*k+0) _))) (by omega)
 have h:Sz (20*k+19) ((((az)*(((-(bL))*(((az)*(az))+((l_1)*(l_1)))⁻¹))))+(((l_1)*(qW)))):=Sz.mono ((jQ (Sz.mono a (by omega):Sz (10*k+9) _) (Sz.mono b (by omega):Sz (10*k+9) _) (Sz.mono e (by omega):Sz (10*k+9) _) (Sz.mono f (by omega):Sz (10*k+9) _))) (by omega)
 have g:Sz (20*k+19) ((((l_1)*(((-(bL))*(((az)*(az))+((l_1)*(l_1)))⁻¹))))+((((-(az)))*(qW)))):=Sz.mono ((jR (Sz.mono a (by omega):Sz (10*k+9) _) (Sz.mono b (by omega):Sz (10*k+9) _) (Sz.mono e (by omega):Sz (10*k+9) _) (Sz.mono f (by omega):Sz (10*k+9) _))) (by omega)
 exact Sz.mono g (by omega)
theorem hE {V:View}{v w:Value}{x y:Rat}(hx:RQ V v x)(hy:RQ V w y)(hy0:y.num≠0){k m:Nat}(hk:Sz k x)(hm:Sz m y)(hkm:k+m<274877906944) :
  ab prog 158 #[v,w] V fun r V'=>RQ V' r (x*y⁻¹):=by
 obtain ⟨p,n,c,K,L,M,rfl,b,d⟩:=hx
 obtain ⟨q,i,e,N,O,P,rfl,f,g⟩:=hy
 have j:=cP hm
 have q1:=af hk.1
 have q2:=af hk.2
 have q3:=af hm.1
 have q4:=af j.1
 have D:(y⁻¹).num=(if decide (y.num<0)=true then -((y.den:Nat):Int) else ((y.den:Nat):Int))/\(y⁻¹).den=y.num.natAbs:=by
  rcases Int.lt_or_gt_of_ne hy0 with h|h
  ·rw [if_pos (decide_eq_true h)];exact inv_neg h
  ·rw [if_neg (fun Q=>by have:=of_decide_eq_true Q;omega)];exact inv_pos h
 have l:x*y⁻¹=mkRat (x.num*(y⁻¹).num) (x.den*(y⁻¹).den):=Rat.mul_def' x y⁻¹
 have b1:(x.num*(y⁻¹).num).natAbs<2^(k+m):=by rw [Int.natAbs_mul];exact bP hk.1 j.1
 have b2:x.den*(y⁻¹).den<2^(k+m):=bP hk.2 j.2
 refine Fe _ p n c K L M _ q i e N O P V _ fun V1 o=>(cY y _ (g.le o)).mono ?_
 rintro r V2 E ⟨p1,n1,c1,rfl,R⟩
 refine ⟨_,_,_,rfl,fun V3 s=>(eH _ (R.le s)).mono ?_⟩
 rw [←D.1]
 rintro r V4 F ⟨p4,n4,c4,rfl,S⟩
 refine ⟨_,_,_,_,rfl,fun V5 t=>(kW x.num (y⁻¹).num (b.le (o.trans (E.trans (s.trans (F.trans t))))) (S.le t) (by omega)).mono ?_⟩
 rintro r V6 T ⟨p6,n6,c6,rfl,U⟩
 have G:=o.trans (E.trans (s.trans (F.trans (t.trans T))))
 refine ⟨_,_,_,_,rfl,fun V7 u=>(cY x _ (d.le (G.trans u))).mono ?_⟩
 rintro r V8 H ⟨p8,n8,c8,rfl,W⟩
 refine ⟨_,_,_,rfl,fun V9 z=>(cG (W.le z) (f.le (G.trans (u.trans (H.trans z)))) (by omega)).mono ?_⟩
 rintro r iI A ⟨HZ,X,Y,rfl,a⟩
 rw [ae,ae,←D.2] at a
 refine ⟨_,_,_,rfl,fun ie I=>(jy _ (U.le (u.trans (H.trans (z.trans (A.trans I))))) (a.le I) (Nat.le_trans (af b1) (by omega)) (Nat.le_trans (af b2) (by omega)) (Nat.mul_ne_zero x.den_nz (y⁻¹).den_nz)).mono ?_⟩
 rw [l]
 rintro r tm iF ⟨Z,a0,a1,a2,a3,Y1,rfl,B,C⟩
 exact ⟨_,_,_,_,_,_,_,rfl,fun yx J=>⟨_,_,_,_,_,_,rfl,B.le J,C.le J⟩⟩
theorem IC {V:View}(z:Int){p:OA}{n c:Nat}(h:RD V p n c (ah z.natAbs)) :
  ab prog 156 #[.agg #[.bool (decide (z<0)),.slice p n c]] V fun r V'=>RQ V' r (z:Rat):=
 Hj _ p n c V _ fun b a=>oU (z:=z) (d:=1) rfl rfl (h.le a) RD.nil rfl
theorem jz {V:View}{v:Value}{q:Rat}(h:RQ V v q){k:Nat}(_s:Sz k q)(_hk:k<=1099511627776):ab prog 57 #[v] V fun r V'=>RQ V' r (-q):=by
 obtain ⟨p,n,c,d,e,f,rfl,a,b⟩:=h
 exact kX q a b
theorem a_ {V:View}{z:Int}{p:OA}{n c:Nat}(h:RD V p n c (ah z.natAbs)){k:Nat}(_s:Sz k (z:Rat))(_hk:k<=1099511627776) :
  ab prog 156 #[.agg #[.bool (decide (z<0)),.slice p n c]] V fun r V'=>RQ V' r (z:Rat):=IC z h
theorem bN {V:View}{l:Value}{az l_1 bL:Int}(hl:RL V l az l_1 bL){k:Nat}(bh:Sz k ((az:Int):Rat))(bq:Sz k ((l_1:Int):Rat))(bj:Sz k ((bL:Int):Rat))(hk:1*k+1<274877906944) :
  ab prog 87 #[l] V fun r V'=>RP V' r (((l_1:Int):Rat)) (-(((az:Int):Rat))):=by
 have p:=hl
 obtain ⟨q,a,e,b,f,c,g,d,s,rfl,t,u,z⟩:=hl
 refine CU _ q a e _ b f c _ g d s V _ fun A a=>(a_ (u.le (a)) bq (by omega)).mono ?_
 rintro r V2 e j
 have h:=j
 obtain ⟨B,C,D,v,w,x,rfl⟩:=j.shape
 have E:Sz (1*k+0) (((l_1:Int):Rat)):=Sz.mono (bq) (by omega)
 refine ⟨_,_,_,_,_,_,_,rfl,fun F b=>(a_ (t.le (a.trans (e.trans (b)))) bh (by omega)).mono ?_⟩
 rintro r G f m
 have i:=m
 obtain ⟨H,I,J,K,L,M,rfl⟩:=m.shape
 have n:Sz (1*k+0) (((az:Int):Rat)):=Sz.mono (bh) (by omega)
 refine ⟨_,_,_,_,_,_,_,rfl,fun N c=>(jz (i.le (c)) n (by omega)).mono ?_⟩
 rintro r O g o
 have y:=o
 obtain ⟨P,Q,R,S,T,U,rfl⟩:=o.shape
 have W:Sz (1*k+0) (-(((az:Int):Rat))):=Sz.mono (Sz.neg n) (by omega)
 exact ⟨_,_,_,_,_,_,_,rfl,fun X d=>⟨_,_,_,_,_,_,_,_,_,_,_,_,rfl,(h.le (b.trans (f.trans (c.trans (g.trans (d)))))),(y.le (d))⟩⟩
theorem fG {az:Int}{l_1:Int}{bL:Int}{k:Nat}(bh:Sz k ((az:Int):Rat))(bq:Sz k ((l_1:Int):Rat))(bj:Sz k ((bL:Int):Rat)):Sz (1*k+0) (((l_1:Int):Rat)):=by
 have a:Sz (1*k+0) (((l_1:Int):Rat)):=Sz.mono (bq) (by omega)
 have b:Sz (1*k+0) (((az:Int):Rat)):=Sz.mono (bh) (by omega)
 have c:Sz (1*k+0) (-(((az:Int):Rat))):=Sz.mono (Sz.neg b) (by omega)
 exact Sz.mono a (by omega)
theorem fH {az:Int}{l_1:Int}{bL:Int}{k:Nat}(bh:Sz k ((az:Int):Rat))(bq:Sz k ((l_1:Int):Rat))(bj:Sz k ((bL:Int):Rat)):Sz (1*k+0) (-(((az:Int):Rat))):=by
 have c:Sz (1*k+0) (((l_1:Int):Rat)):=Sz.mono (bq) (by omega)
 have a:Sz (1*k+0) (((az:Int):Rat)):=Sz.mono (bh) (by omega)
 have b:Sz (1*k+0) (-(((az:Int):Rat))):=Sz.mono (Sz.neg a) (by omega)
 exact Sz.mono b (by omega)
theorem nh {V:View}{p:Value}{dv dz:Rat}{q:Value}{kj kl:Rat}(hp:RP V p dv dz)(hq:RP V q kj kl){k:Nat}(dQ:Sz k dv)(dR:Sz k dz)(kG:Sz k kj)(kH:Sz k kl)(hk:4*k+3<274877906944) :
  ab prog 194 #[p,q] V fun r V'=>RQ V' r (((dv)*(kj))+((dz)*(kl))):=by
 have n:=hp
 obtain ⟨o,s,t,u,v,w,x,y,z,A,B,C,rfl,D,E⟩:=hp
 have F:=hq
 obtain ⟨G,H,I,J,K,L,M,N,O,P,Q,b,rfl,R,S⟩:=hq
 refine CV _ o s t u v w _ x y z A B C _ G H I J K L _ M N O P Q b V _ fun V1 a=>(aN (D.le (a)) (R.le (a)) dQ kG (by omega)).mono ?_
 rintro r V2 f g
 have c:=g
 obtain ⟨QO,QP,QQ,T,U,W,rfl⟩:=g.shape
 have h:Sz (2*k+1) ((dv)*(kj)):=Sz.mono (Sz.mul dQ kG) (by omega)
 refine ⟨_,_,_,_,_,_,_,rfl,fun V3 d=>(aN (E.le (a.trans (f.trans (d)))) (S.le (a.trans (f.trans (d)))) dR kH (by omega)).mono ?_⟩
 rintro r V4 X i
 have e:=i
 obtain ⟨MD,ME,MF,UH,UI,UJ,rfl⟩:=i.shape
 have j:Sz (2*k+1) ((dz)*(kl)):=Sz.mono (Sz.mul dR kH) (by omega)
 refine ⟨_,_,_,_,_,_,_,rfl,fun V5 l=>(cw (c.le (d.trans (X.trans (l)))) (e.le (l)) h j (by omega)).mono ?_⟩
 rintro r V6 l6 m
 have Y:=m
 obtain ⟨Pc,Pf,Pg,UK,UL,UM,rfl⟩:=m.shape
 have cU:Sz (4*k+3) (((dv)*(kj))+((dz)*(kl))):=Sz.mono (Sz.add h j) (by omega)
 exact ⟨_,_,_,_,_,_,_,rfl,fun V7 Z=>(Y.le (Z))⟩
theorem fI {dv:Rat}{dz:Rat}{kj:Rat}{kl:Rat}{k:Nat}(dQ:Sz k dv)(dR:Sz k dz)(kG:Sz k kj)(kH:Sz k kl):Sz (4*k+3) (((dv)*(kj))+((dz)*(kl))):=by
 have a:Sz (2*k+1) ((dv)*(kj)):=Sz.mono (Sz.mul dQ kG) (by omega)
 have b:Sz (2*k+1) ((dz)*(kl)):=Sz.mono (Sz.mul dR kH) (by omega)
 have c:Sz (4*k+3) (((dv)*(kj))+((dz)*(kl))):=Sz.mono (Sz.add a b) (by omega)
 exact Sz.mono c (by omega)
theorem il {V:View}{l:Value}{az l_1 bL:Int}{p:Value}{dv dz:Rat}(hl:RL V l az l_1 bL)(hp:RP V p dv dz){k:Nat}(bh:Sz k ((az:Int):Rat))(bq:Sz k ((l_1:Int):Rat))(bj:Sz k ((bL:Int):Rat))(dQ:Sz k dv)(dR:Sz k dz)(hk:5*k+4<274877906944) :
  ab prog 129 #[l,p] V fun r V'=>RQ V' r ((((((az:Int):Rat))*(dv))+((((l_1:Int):Rat))*(dz)))+(((bL:Int):Rat))):=by
 have F:=hl
 obtain ⟨G,a,c,b,f,d,g,e,h,rfl,H,I,J⟩:=hl
 have K:=hp
 obtain ⟨L,M,N,O,P,Q,R,S,T,U,W,X,rfl,Y,Z⟩:=hp
 refine yd _ G a c _ b f d _ g e h _ L M N O P Q _ R S T U W X V _ fun V1 a=>(a_ (H.le (a)) bh (by omega)).mono ?_
 rintro r V2 c o
 have i:=o
 obtain ⟨QO,QP,QQ,a0,a1,a2,rfl⟩:=o.shape
 have q:Sz (1*k+0) (((az:Int):Rat)):=Sz.mono (bh) (by omega)
 refine ⟨_,_,_,_,_,_,_,rfl,fun V3 b=>(aN (i.le (b)) (Y.le (a.trans (c.trans (b)))) q dQ (by omega)).mono ?_⟩
 rintro r V4 f s
 have j:=s
 obtain ⟨MD,ME,MF,UH,UI,UJ,rfl⟩:=s.shape
 have t:Sz (2*k+1) ((((az:Int):Rat))*(dv)):=Sz.mono (Sz.mul q dQ) (by omega)
 refine ⟨_,_,_,_,_,_,_,rfl,fun V5 d=>(a_ (I.le (a.trans (c.trans (b.trans (f.trans (d)))))) bq (by omega)).mono ?_⟩
 rintro r V6 g u
 have iR:=u
 obtain ⟨Pc,Pf,Pg,UK,UL,UM,rfl⟩:=u.shape
 have v:Sz (1*k+0) (((l_1:Int):Rat)):=Sz.mono (bq) (by omega)
 refine ⟨_,_,_,_,_,_,_,rfl,fun V7 e=>(aN (iR.le (e)) (Z.le (a.trans (c.trans (b.trans (f.trans (d.trans (g.trans (e)))))))) v dR (by omega)).mono ?_⟩
 rintro r V8 h w
 have DT:=w
 obtain ⟨Yq,Yr,Ys,a3,a4,a5,rfl⟩:=w.shape
 have x:Sz (2*k+1) ((((l_1:Int):Rat))*(dz)):=Sz.mono (Sz.mul v dR) (by omega)
 refine ⟨_,_,_,_,_,_,_,rfl,fun V9 m=>(cw (j.le (d.trans (g.trans (e.trans (h.trans (m)))))) (DT.le (m)) t x (by omega)).mono ?_⟩
 rintro r iI n y
 have C_:=y
 obtain ⟨a6,a7,a8,a9,b0,b5,rfl⟩:=y.shape
 have z:Sz (4*k+3) (((((az:Int):Rat))*(dv))+((((l_1:Int):Rat))*(dz))):=Sz.mono (Sz.add t x) (by omega)
 refine ⟨_,_,_,_,_,_,_,rfl,fun ie A=>(a_ (J.le (a.trans (c.trans (b.trans (f.trans (d.trans (g.trans (e.trans (h.trans (m.trans (n.trans (A)))))))))))) bj (by omega)).mono ?_⟩
 rintro r lL bY B
 have M9:=B
 obtain ⟨b6,b7,b8,b9,c0,c1,rfl⟩:=B.shape
 have C:Sz (1*k+0) (((bL:Int):Rat)):=Sz.mono (bj) (by omega)
 refine ⟨_,_,_,_,_,_,_,rfl,fun o_ D=>(cw (C_.le (A.trans (bY.trans (D)))) (M9.le (D)) z C (by omega)).mono ?_⟩
 rintro r mJ c_ E
 have HH:=E
 obtain ⟨c2,c3,c4,c5,c6,c7,rfl⟩:=E.shape
 have Ol:Sz (5*k+4) ((((((az:Int):Rat))*(dv))+((((l_1:Int):Rat))*(dz)))+(((bL:Int):Rat))):=Sz.mono (Sz.add z C) (by omega)
 exact ⟨_,_,_,_,_,_,_,rfl,fun lN dp=>(HH.le (dp))⟩
theorem yM {V:View}{l:Value}{az l_1 bL:Int}{p:Value}{dv dz:Rat}(hl:RL V l az l_1 bL)(hp:RP V p dv dz)(hd0:((((((l_1:Int):Rat)))*((((l_1:Int):Rat))))+(((-(((az:Int):Rat))))*((-(((az:Int):Rat)))))).num≠0){k:Nat}(bh:Sz k ((az:Int):Rat))(bq:Sz k ((l_1:Int):Rat))(bj:Sz k ((bL:Int):Rat))(dQ:Sz k dv)(dR:Sz k dz)(hk:8*k+7<274877906944) :
  ab prog 154 #[l,p] V fun r V'=>RQ V' r ((((dv)*((((l_1:Int):Rat))))+((dz)*((-(((az:Int):Rat))))))*((((((l_1:Int):Rat)))*((((l_1:Int):Rat))))+(((-(((az:Int):Rat))))*((-(((az:Int):Rat))))))⁻¹):=by
 have i:=hl
 obtain ⟨y,f,j,b,g,e,m,h,q,rfl,R,S,T⟩:=hl
 have n:=hp
 obtain ⟨z,A,B,C,D,E,F,G,H,I,J,K,rfl,U,W⟩:=hp
 refine xY _ y f j _ b g e _ m h q _ z A B C D E _ F G H I J K V _ fun X f=>(bN (i.le (f)) (Sz.mono bh (by omega):Sz (1*k+0) _) (Sz.mono bq (by omega):Sz (1*k+0) _) (Sz.mono bj (by omega):Sz (1*k+0) _) (by omega)).mono ?_
 rintro r V2 j s
 have a:=s
 obtain ⟨Y,Z,Mm,Mn,Mo,Mp,TW,TX,TY,TZ,Pa,Pb,rfl,Kj,Kk⟩:=s
 have c:Sz (1*k+0) (((l_1:Int):Rat)):=Sz.mono ((fG (Sz.mono bh (by omega):Sz (1*k+0) _) (Sz.mono bq (by omega):Sz (1*k+0) _) (Sz.mono bj (by omega):Sz (1*k+0) _))) (by omega)
 have d:Sz (1*k+0) (-(((az:Int):Rat))):=Sz.mono ((fH (Sz.mono bh (by omega):Sz (1*k+0) _) (Sz.mono bq (by omega):Sz (1*k+0) _) (Sz.mono bj (by omega):Sz (1*k+0) _))) (by omega)
 refine ⟨_,_,_,_,_,_,_,_,_,_,_,_,_,_,rfl,fun V3 b=>(nh (n.le (f.trans (j.trans (b)))) (a.le (b)) (Sz.mono dQ (by omega):Sz (1*k+0) _) (Sz.mono dR (by omega):Sz (1*k+0) _) (Sz.mono c (by omega):Sz (1*k+0) _) (Sz.mono d (by omega):Sz (1*k+0) _) (by omega)).mono ?_⟩
 rintro r V4 g t
 have o:=t
 obtain ⟨MD,ME,MF,UH,UI,UJ,rfl⟩:=t.shape
 have u:Sz (4*k+3) (((dv)*((((l_1:Int):Rat))))+((dz)*((-(((az:Int):Rat)))))):=Sz.mono ((fI (Sz.mono dQ (by omega):Sz (1*k+0) _) (Sz.mono dR (by omega):Sz (1*k+0) _) (Sz.mono c (by omega):Sz (1*k+0) _) (Sz.mono d (by omega):Sz (1*k+0) _))) (by omega)
 refine ⟨_,_,_,_,_,_,_,rfl,fun V5 e=>(nh (a.le (b.trans (g.trans (e)))) (a.le (b.trans (g.trans (e)))) (Sz.mono c (by omega):Sz (1*k+0) _) (Sz.mono d (by omega):Sz (1*k+0) _) (Sz.mono c (by omega):Sz (1*k+0) _) (Sz.mono d (by omega):Sz (1*k+0) _) (by omega)).mono ?_⟩
 rintro r V6 m v
 have L:=v
 obtain ⟨Pc,Pf,Pg,UK,UL,UM,rfl⟩:=v.shape
 have w:Sz (4*k+3) ((((((l_1:Int):Rat)))*((((l_1:Int):Rat))))+(((-(((az:Int):Rat))))*((-(((az:Int):Rat)))))):=Sz.mono ((fI (Sz.mono c (by omega):Sz (1*k+0) _) (Sz.mono d (by omega):Sz (1*k+0) _) (Sz.mono c (by omega):Sz (1*k+0) _) (Sz.mono d (by omega):Sz (1*k+0) _))) (by omega)
 refine ⟨_,_,_,_,_,_,_,rfl,fun V7 h=>(hE (o.le (e.trans (m.trans (h)))) (L.le (h)) hd0 u w (by omega)).mono ?_⟩
 rintro r V8 q x
 have M:=x
 obtain ⟨Yq,Yr,Ys,N,O,P,rfl⟩:=x.shape
 have jh:Sz (8*k+7) ((((dv)*((((l_1:Int):Rat))))+((dz)*((-(((az:Int):Rat))))))*((((((l_1:Int):Rat)))*((((l_1:Int):Rat))))+(((-(((az:Int):Rat))))*((-(((az:Int):Rat))))))⁻¹):=Sz.mono (Sz.mul u (cP w)) (by omega)
 exact ⟨_,_,_,_,_,_,_,rfl,fun V9 Q=>(M.le (Q))⟩
theorem qf {V:View}{l:Value}{az l_1 bL:Int}(hl:RL V l az l_1 bL)(hd0:((((((l_1:Int):Rat)))*((((l_1:Int):Rat))))+(((-(((az:Int):Rat))))*((-(((az:Int):Rat)))))).num≠0){k:Nat}(bh:Sz k ((az:Int):Rat))(bq:Sz k ((l_1:Int):Rat))(bj:Sz k ((bL:Int):Rat))(hk:6*k+5<274877906944) :
  ab prog 153 #[l] V fun r V'=>RP V' r ((-((((bL:Int):Rat))*((((((l_1:Int):Rat)))*((((l_1:Int):Rat))))+(((-(((az:Int):Rat))))*((-(((az:Int):Rat))))))⁻¹))*(((az:Int):Rat))) ((-((((bL:Int):Rat))*((((((l_1:Int):Rat)))*((((l_1:Int):Rat))))+(((-(((az:Int):Rat))))*((-(((az:Int):Rat))))))⁻¹))*(((l_1:Int):Rat))):=by
 have s:=hl
 obtain ⟨Q,c,f,a,d,b,g,e,j,rfl,R,S,T⟩:=hl
 refine zO _ Q c f _ a d b _ g e j V _ fun V1 c=>(bN (s.le (c)) (Sz.mono bh (by omega):Sz (1*k+0) _) (Sz.mono bq (by omega):Sz (1*k+0) _) (Sz.mono bj (by omega):Sz (1*k+0) _) (by omega)).mono ?_
 rintro r V2 f y
 have h:=y
 obtain ⟨Mk,Ml,Mm,Mn,Mo,Mp,TW,TX,TY,TZ,Pa,Pb,rfl,Kj,Kk⟩:=y
 have m:Sz (1*k+0) (((l_1:Int):Rat)):=Sz.mono ((fG (Sz.mono bh (by omega):Sz (1*k+0) _) (Sz.mono bq (by omega):Sz (1*k+0) _) (Sz.mono bj (by omega):Sz (1*k+0) _))) (by omega)
 have n:Sz (1*k+0) (-(((az:Int):Rat))):=Sz.mono ((fH (Sz.mono bh (by omega):Sz (1*k+0) _) (Sz.mono bq (by omega):Sz (1*k+0) _) (Sz.mono bj (by omega):Sz (1*k+0) _))) (by omega)
 refine ⟨_,_,_,_,_,_,_,_,_,_,_,_,_,_,rfl,fun V3 a=>(a_ (T.le (c.trans (f.trans (a)))) bj (by omega)).mono ?_⟩
 rintro r V4 d z
 have t:=z
 obtain ⟨MD,ME,MF,UH,UI,UJ,rfl⟩:=z.shape
 have A:Sz (1*k+0) (((bL:Int):Rat)):=Sz.mono (bj) (by omega)
 refine ⟨_,_,_,_,_,_,_,rfl,fun V5 b=>(nh (h.le (a.trans (d.trans (b)))) (h.le (a.trans (d.trans (b)))) (Sz.mono m (by omega):Sz (1*k+0) _) (Sz.mono n (by omega):Sz (1*k+0) _) (Sz.mono m (by omega):Sz (1*k+0) _) (Sz.mono n (by omega):Sz (1*k+0) _) (by omega)).mono ?_⟩
 rintro r V6 g B
 have U:=B
 obtain ⟨Pc,Pf,Pg,UK,UL,UM,rfl⟩:=B.shape
 have C:Sz (4*k+3) ((((((l_1:Int):Rat)))*((((l_1:Int):Rat))))+(((-(((az:Int):Rat))))*((-(((az:Int):Rat)))))):=Sz.mono ((fI (Sz.mono m (by omega):Sz (1*k+0) _) (Sz.mono n (by omega):Sz (1*k+0) _) (Sz.mono m (by omega):Sz (1*k+0) _) (Sz.mono n (by omega):Sz (1*k+0) _))) (by omega)
 refine ⟨_,_,_,_,_,_,_,rfl,fun V7 e=>(hE (t.le (b.trans (g.trans (e)))) (U.le (e)) hd0 A C (by omega)).mono ?_⟩
 rintro r V8 j D
 have W:=D
 obtain ⟨Yq,Yr,Ys,X,Y,Z,rfl⟩:=D.shape
 have E:Sz (5*k+4) ((((bL:Int):Rat))*((((((l_1:Int):Rat)))*((((l_1:Int):Rat))))+(((-(((az:Int):Rat))))*((-(((az:Int):Rat))))))⁻¹):=Sz.mono (Sz.mul A (cP C)) (by omega)
 refine ⟨_,_,_,_,_,_,_,rfl,fun V9 u=>(jz (W.le (u)) E (by omega)).mono ?_⟩
 rintro r iI i F
 have G:=F
 obtain ⟨a0,a1,a2,a3,a4,a5,rfl⟩:=F.shape
 have o:Sz (5*k+4) (-((((bL:Int):Rat))*((((((l_1:Int):Rat)))*((((l_1:Int):Rat))))+(((-(((az:Int):Rat))))*((-(((az:Int):Rat))))))⁻¹)):=Sz.mono (Sz.neg E) (by omega)
 refine ⟨_,_,_,_,_,_,_,rfl,fun ie p=>(a_ (R.le (c.trans (f.trans (a.trans (d.trans (b.trans (g.trans (e.trans (j.trans (u.trans (i.trans (p)))))))))))) bh (by omega)).mono ?_⟩
 rintro r lL v H
 have M9:=H
 obtain ⟨a6,a7,a8,a9,b0,b5,rfl⟩:=H.shape
 have I:Sz (1*k+0) (((az:Int):Rat)):=Sz.mono (bh) (by omega)
 refine ⟨_,_,_,_,_,_,_,rfl,fun o_ q=>(aN (G.le (p.trans (v.trans (q)))) (M9.le (q)) o I (by omega)).mono ?_⟩
 rintro r mJ J K
 have HH:=K
 obtain ⟨b6,b7,b8,b9,c0,c1,rfl⟩:=K.shape
 have Ol:Sz (6*k+5) ((-((((bL:Int):Rat))*((((((l_1:Int):Rat)))*((((l_1:Int):Rat))))+(((-(((az:Int):Rat))))*((-(((az:Int):Rat))))))⁻¹))*(((az:Int):Rat))):=Sz.mono (Sz.mul o I) (by omega)
 refine ⟨_,_,_,_,_,_,_,rfl,fun lN w=>(a_ (S.le (c.trans (f.trans (a.trans (d.trans (b.trans (g.trans (e.trans (j.trans (u.trans (i.trans (p.trans (v.trans (q.trans (J.trans (w)))))))))))))))) bq (by omega)).mono ?_⟩
 rintro r kr L M
 have R9:=M
 obtain ⟨c2,c3,c4,c5,c6,c7,rfl⟩:=M.shape
 have N:Sz (1*k+0) (((l_1:Int):Rat)):=Sz.mono (bq) (by omega)
 refine ⟨_,_,_,_,_,_,_,rfl,fun mZ x=>(aN (G.le (p.trans (v.trans (q.trans (J.trans (w.trans (L.trans (x)))))))) (R9.le (x)) o N (by omega)).mono ?_⟩
 rintro r pe dF O
 have R_:=O
 obtain ⟨c8,c9,d0,d1,d2,d3,rfl⟩:=O.shape
 have QW:Sz (6*k+5) ((-((((bL:Int):Rat))*((((((l_1:Int):Rat)))*((((l_1:Int):Rat))))+(((-(((az:Int):Rat))))*((-(((az:Int):Rat))))))⁻¹))*(((l_1:Int):Rat))):=Sz.mono (Sz.mul o N) (by omega)
 exact ⟨_,_,_,_,_,_,_,rfl,fun tj P=>⟨_,_,_,_,_,_,_,_,_,_,_,_,rfl,(HH.le (w.trans (L.trans (x.trans (dF.trans (P)))))),(R_.le (P))⟩⟩
theorem yo {az:Int}{l_1:Int}{bL:Int}{k:Nat}(bh:Sz k ((az:Int):Rat))(bq:Sz k ((l_1:Int):Rat))(bj:Sz k ((bL:Int):Rat)):Sz (6*k+5) ((-((((bL:Int):Rat))*((((((l_1:Int):Rat)))*((((l_1:Int):Rat))))+(((-(((az:Int):Rat))))*((-(((az:Int):Rat))))))⁻¹))*(((az:Int):Rat))):=by
 have a:Sz (1*k+0) (((l_1:Int):Rat)):=Sz.mono ((fG (Sz.mono bh (by omega):Sz (1*k+0) _) (Sz.mono bq (by omega):Sz (1*k+0) _) (Sz.mono bj (by omega):Sz (1*k+0) _))) (by omega)
 have b:Sz (1*k+0) (-(((az:Int):Rat))):=Sz.mono ((fH (Sz.mono bh (by omega):Sz (1*k+0) _) (Sz.mono bq (by omega):Sz (1*k+0) _) (Sz.mono bj (by omega):Sz (1*k+0) _))) (by omega)
 have d:Sz (1*k+0) (((bL:Int):Rat)):=Sz.mono (bj) (by omega)
 have e:Sz (4*k+3) ((((((l_1:Int):Rat)))*((((l_1:Int):Rat))))+(((-(((az:Int):Rat))))*((-(((az:Int):Rat)))))):=Sz.mono ((fI (Sz.mono a (by omega):Sz (1*k+0) _) (Sz.mono b (by omega):Sz (1*k+0) _) (Sz.mono a (by omega):Sz (1*k+0) _) (Sz.mono b (by omega):Sz (1*k+0) _))) (by omega)
 have f:Sz (5*k+4) ((((bL:Int):Rat))*((((((l_1:Int):Rat)))*((((l_1:Int):Rat))))+(((-(((az:Int):Rat))))*((-(((az:Int):Rat))))))⁻¹):=Sz.mono (Sz.mul d (cP e)) (by omega)
 have c:Sz (5*k+4) (-((((bL:Int):Rat))*((((((l_1:Int):Rat)))*((((l_1:Int):Rat))))+(((-(((az:Int):Rat))))*((-(((az:Int):Rat))))))⁻¹)):=Sz.mono (Sz.neg f) (by omega)
 have g:Sz (1*k+0) (((az:Int):Rat)):=Sz.mono (bh) (by omega)
 have h:Sz (6*k+5) ((-((((bL:Int):Rat))*((((((l_1:Int):Rat)))*((((l_1:Int):Rat))))+(((-(((az:Int):Rat))))*((-(((az:Int):Rat))))))⁻¹))*(((az:Int):Rat))):=Sz.mono (Sz.mul c g) (by omega)
 have i:Sz (1*k+0) (((l_1:Int):Rat)):=Sz.mono (bq) (by omega)
 have j:Sz (6*k+5) ((-((((bL:Int):Rat))*((((((l_1:Int):Rat)))*((((l_1:Int):Rat))))+(((-(((az:Int):Rat))))*((-(((az:Int):Rat))))))⁻¹))*(((l_1:Int):Rat))):=Sz.mono (Sz.mul c i) (by omega)
 exact Sz.mono h (by omega)
theorem yr {az:Int}{l_1:Int}{bL:Int}{k:Nat}(bh:Sz k ((az:Int):Rat))(bq:Sz k ((l_1:Int):Rat))(bj:Sz k ((bL:Int):Rat)):Sz (6*k+5) ((-((((bL:Int):Rat))*((((((l_1:Int):Rat)))*((((l_1:Int):Rat))))+(((-(((az:Int):Rat))))*((-(((az:Int):Rat))))))⁻¹))*(((l_1:Int):Rat))):=by
 have a:Sz (1*k+0) (((l_1:Int):Rat)):=Sz.mono ((fG (Sz.mono bh (by omega):Sz (1*k+0) _) (Sz.mono bq (by omega):Sz (1*k+0) _) (Sz.mono bj (by omega):Sz (1*k+0) _))) (by omega)
 have b:Sz (1*k+0) (-(((az:Int):Rat))):=Sz.mono ((fH (Sz.mono bh (by omega):Sz (1*k+0) _) (Sz.mono bq (by omega):Sz (1*k+0) _) (Sz.mono bj (by omega):Sz (1*k+0) _))) (by omega)
 have d:Sz (1*k+0) (((bL:Int):Rat)):=Sz.mono (bj) (by omega)
 have e:Sz (4*k+3) ((((((l_1:Int):Rat)))*((((l_1:Int):Rat))))+(((-(((az:Int):Rat))))*((-(((az:Int):Rat)))))):=Sz.mono ((fI (Sz.mono a (by omega):Sz (1*k+0) _) (Sz.mono b (by omega):Sz (1*k+0) _) (Sz.mono a (by omega):Sz (1*k+0) _) (Sz.mono b (by omega):Sz (1*k+0) _))) (by omega)
 have f:Sz (5*k+4) ((((bL:Int):Rat))*((((((l_1:Int):Rat)))*((((l_1:Int):Rat))))+(((-(((az:Int):Rat))))*((-(((az:Int):Rat))))))⁻¹):=Sz.mono (Sz.mul d (cP e)) (by omega)
 have c:Sz (5*k+4) (-((((bL:Int):Rat))*((((((l_1:Int):Rat)))*((((l_1:Int):Rat))))+(((-(((az:Int):Rat))))*((-(((az:Int):Rat))))))⁻¹)):=Sz.mono (Sz.neg f) (by omega)
 have g:Sz (1*k+0) (((az:Int):Rat)):=Sz.mono (bh) (by omega)
 have j:Sz (6*k+5) ((-((((bL:Int):Rat))*((((((l_1:Int):Rat)))*((((l_1:Int):Rat))))+(((-(((az:Int):Rat))))*((-(((az:Int):Rat))))))⁻¹))*(((az:Int):Rat))):=Sz.mono (Sz.mul c g) (by omega)
 have h:Sz (1*k+0) (((l_1:Int):Rat)):=Sz.mono (bq) (by omega)
 have i:Sz (6*k+5) ((-((((bL:Int):Rat))*((((((l_1:Int):Rat)))*((((l_1:Int):Rat))))+(((-(((az:Int):Rat))))*((-(((az:Int):Rat))))))⁻¹))*(((l_1:Int):Rat))):=Sz.mono (Sz.mul c h) (by omega)
 exact Sz.mono i (by omega)
theorem FT {V:View}{l:Value}{az l_1 bL:Int}{t:Value}{qW:Rat}(hl:RL V l az l_1 bL)(ht:RQ V t qW)(hd0:((((((l_1:Int):Rat)))*((((l_1:Int):Rat))))+(((-(((az:Int):Rat))))*((-(((az:Int):Rat)))))).num≠0){k:Nat}(bh:Sz k ((az:Int):Rat))(bq:Sz k ((l_1:Int):Rat))(bj:Sz k ((bL:Int):Rat))(sL:Sz k qW)(hk:18*k+16<274877906944) :
  ab prog 119 #[l,t] V fun r V'=>RP V' r (((-((((bL:Int):Rat))*((((((l_1:Int):Rat)))*((((l_1:Int):Rat))))+(((-(((az:Int):Rat))))*((-(((az:Int):Rat))))))⁻¹))*(((az:Int):Rat)))+(qW)*(((l_1:Int):Rat))) (((-((((bL:Int):Rat))*((((((l_1:Int):Rat)))*((((l_1:Int):Rat))))+(((-(((az:Int):Rat))))*((-(((az:Int):Rat))))))⁻¹))*(((l_1:Int):Rat)))+(qW)*(-(((az:Int):Rat)))):=by
 have a:=hl
 obtain ⟨I,b,e,c,f,d,q,g,J,rfl,M,N,O⟩:=hl
 have h:=ht
 obtain ⟨t0,t1,t2,t3,t4,t5,rfl⟩:=ht.shape
 refine Fo _ I b e _ c f d _ q g J _ t0 t1 t2 t3 t4 t5 V _ fun P b=>(qf (a.le (b)) hd0 (Sz.mono bh (by omega):Sz (1*k+0) _) (Sz.mono bq (by omega):Sz (1*k+0) _) (Sz.mono bj (by omega):Sz (1*k+0) _) (by omega)).mono ?_
 rintro r V2 e s
 have i:=s
 obtain ⟨Q,R,S,T,U,W,X,Y,Z,TZ,Pa,Pb,rfl,Kj,Kk⟩:=s
 have u:Sz (6*k+5) ((-((((bL:Int):Rat))*((((((l_1:Int):Rat)))*((((l_1:Int):Rat))))+(((-(((az:Int):Rat))))*((-(((az:Int):Rat))))))⁻¹))*(((az:Int):Rat))):=Sz.mono ((yo (Sz.mono bh (by omega):Sz (1*k+0) _) (Sz.mono bq (by omega):Sz (1*k+0) _) (Sz.mono bj (by omega):Sz (1*k+0) _))) (by omega)
 have v:Sz (6*k+5) ((-((((bL:Int):Rat))*((((((l_1:Int):Rat)))*((((l_1:Int):Rat))))+(((-(((az:Int):Rat))))*((-(((az:Int):Rat))))))⁻¹))*(((l_1:Int):Rat))):=Sz.mono ((yr (Sz.mono bh (by omega):Sz (1*k+0) _) (Sz.mono bq (by omega):Sz (1*k+0) _) (Sz.mono bj (by omega):Sz (1*k+0) _))) (by omega)
 refine ⟨_,_,_,_,_,_,_,_,_,_,_,_,_,_,rfl,fun V3 c=>(bN (a.le (b.trans (e.trans (c)))) (Sz.mono bh (by omega):Sz (1*k+0) _) (Sz.mono bq (by omega):Sz (1*k+0) _) (Sz.mono bj (by omega):Sz (1*k+0) _) (by omega)).mono ?_⟩
 rintro r V4 f w
 have j:=w
 obtain ⟨Yd,Ye,Yf,Yg,Yh,Yi,x,y,z,A,m,n,rfl,VC,VD⟩:=w
 have B:Sz (1*k+0) (((l_1:Int):Rat)):=Sz.mono ((fG (Sz.mono bh (by omega):Sz (1*k+0) _) (Sz.mono bq (by omega):Sz (1*k+0) _) (Sz.mono bj (by omega):Sz (1*k+0) _))) (by omega)
 have C:Sz (1*k+0) (-(((az:Int):Rat))):=Sz.mono ((fH (Sz.mono bh (by omega):Sz (1*k+0) _) (Sz.mono bq (by omega):Sz (1*k+0) _) (Sz.mono bj (by omega):Sz (1*k+0) _))) (by omega)
 refine ⟨_,_,_,_,_,_,_,_,_,_,_,_,_,_,rfl,fun V5 d=>(iz (i.le (c.trans (f.trans (d)))) (h.le (b.trans (e.trans (c.trans (f.trans (d)))))) (j.le (d)) (Sz.mono u (by omega):Sz (6*k+5) _) (Sz.mono v (by omega):Sz (6*k+5) _) (Sz.mono sL (by omega):Sz (6*k+5) _) (Sz.mono B (by omega):Sz (6*k+5) _) (Sz.mono C (by omega):Sz (6*k+5) _) (by omega)).mono ?_⟩
 rintro r V6 q D
 have iR:=D
 obtain ⟨Yj,Yk,Yl,Ym,Yn,Yp,E,F,G,H,o,p,rfl,K,L⟩:=D
 have cU:Sz (18*k+17) (((-((((bL:Int):Rat))*((((((l_1:Int):Rat)))*((((l_1:Int):Rat))))+(((-(((az:Int):Rat))))*((-(((az:Int):Rat))))))⁻¹))*(((az:Int):Rat)))+(qW)*(((l_1:Int):Rat))):=Sz.mono (Sz.add (Sz.mono u (by omega):Sz (6*k+5) _) (Sz.mul (Sz.mono sL (by omega):Sz (6*k+5) _) (Sz.mono B (by omega):Sz (6*k+5) _))) (by omega)
 have Ac:Sz (18*k+17) (((-((((bL:Int):Rat))*((((((l_1:Int):Rat)))*((((l_1:Int):Rat))))+(((-(((az:Int):Rat))))*((-(((az:Int):Rat))))))⁻¹))*(((l_1:Int):Rat)))+(qW)*(-(((az:Int):Rat)))):=Sz.mono (Sz.add (Sz.mono v (by omega):Sz (6*k+5) _) (Sz.mul (Sz.mono sL (by omega):Sz (6*k+5) _) (Sz.mono C (by omega):Sz (6*k+5) _))) (by omega)
 exact ⟨_,_,_,_,_,_,_,_,_,_,_,_,_,_,rfl,fun V7 g=>⟨_,_,_,_,_,_,_,_,_,_,_,_,rfl,(K.le (g)),(L.le (g))⟩⟩
theorem RA.shape {V:View}{v:Value}{q:Rat}(h:RA V v q):∃b p n c p' n' c',v=.agg #[.bool b,.slice p n c,.slice p' n' c']:=by
 obtain ⟨p,n,c,p',n',c',e,-⟩:=h;exact ⟨_,_,_,_,_,_,_,e⟩
def Hn (V:View)(v:Value)(x y:Rat):Prop:=∃b p n c p' n' c' d q m e q' m' e',v=.agg #[.bool b,.slice p n c,.slice p' n' c',.bool d,.slice q m e,.slice q' m' e'] /\
 RA V (.agg #[.bool b,.slice p n c,.slice p' n' c']) x/\RA V (.agg #[.bool d,.slice q m e,.slice q' m' e']) y
theorem Hn.le {V V':View}{v:Value}{x y:Rat}(h:Hn V v x y)(l:V.Le V'):Hn V' v x y:=by
 obtain ⟨b,p,n,c,g,i,j,d,q,m,e,k,o,r,rfl,a,f⟩:=h
 exact ⟨_,_,_,_,_,_,_,_,_,_,_,_,_,_,rfl,a.le l,f.le l⟩
theorem FM {V:View}{v:Value}{x y:Rat}(h:Hn V v x y){k:Nat}(s1:Sz k x)(s2:Sz k y)(hk:k<=1099511627776) :
  ab prog 115 #[v] V fun r V'=>oF V' r x y:=by
 obtain ⟨b,p,n,c,s,t,z,d,q,m,e,A,B,C,rfl,D,E⟩:=h
 refine tW b p n c s t z d q m e A B C V _ fun H g=>(Au (D.le g) s1 hk).mono ?_
 rintro r V2 F i
 have a:=i
 obtain ⟨u,v,w,rfl⟩:=i.shape
 refine ⟨_,_,_,rfl,fun I j=>(Au (E.le (g.trans (F.trans j))) s2 hk).mono ?_⟩
 rintro r J G l
 have f:=l
 obtain ⟨u,v,w,rfl⟩:=l.shape
 exact ⟨_,_,_,rfl,fun K o=>⟨_,_,_,_,_,_,rfl,a.le (j.trans (G.trans o)),f.le o⟩⟩
theorem qc {V:View}{v:Value}{x y:Rat}(h:oF V v x y){k:Nat}(s1:Sz k x)(s2:Sz k y)(hk:k<=1099511627776) :
  ab prog 80 #[v] V fun r V'=>Hn V' r x y:=by
 obtain ⟨i,j,l,m,n,o,rfl,p,q⟩:=h
 refine zG i j l m n o V _ fun u c=>(BF (p.le c) s1 hk).mono ?_
 rintro r V2 s d
 have a:=d
 obtain ⟨_,_,_,_,_,_,_,rfl⟩:=d.shape
 refine ⟨_,_,_,_,_,_,_,rfl,fun w e=>(BF (q.le (c.trans (s.trans e))) s2 hk).mono ?_⟩
 rintro r z t f
 have b:=f
 obtain ⟨_,_,_,_,_,_,_,rfl⟩:=f.shape
 exact ⟨_,_,_,_,_,_,_,rfl,fun A g=>⟨_,_,_,_,_,_,_,_,_,_,_,_,_,_,rfl,a.le (e.trans (t.trans g)),b.le g⟩⟩
theorem yG {V:View}{l p:Value}{az l_1 bL dv dz:Rat}(hl:yD V l az l_1 bL)(hp:oF V p dv dz){k:Nat}(s0:Sz k az)(s1:Sz k l_1)(s2:Sz k bL)(s3:Sz k dv)(s4:Sz k dz)(hk:16*k+16<274877906944) :
  ab prog 131 #[l,p] V fun r V'=>r=.int .i64 (az*dv+l_1*dz+bL).num.sign:=by
 have a:=hl
 have b:=hp
 obtain ⟨d,e,f,h,i,j,m,n,o,rfl,-,-,-⟩:=hl
 obtain ⟨q,s,t,x,y,z,rfl,-,-⟩:=hp
 refine xK d e f h i j m n o q s t x y z V _ fun C c=>(jt (a.le c) (b.le c) s0 s1 s2 s3 s4 (by omega)).mono ?_
 rintro r V2 D g
 have A:=g
 obtain ⟨u,v,w,rfl⟩:=g.shape
 refine ⟨_,_,_,rfl,fun E B=>(eF (A.le B) (lJ s0 s1 s2 s3 s4) (by omega)).mono ?_⟩
 rintro r F G rfl
 exact ⟨_,rfl,fun H I=>rfl⟩
theorem j_ {V:View}{v:Value}{q:Rat}(h:RQ V v q){k:Nat}(s:Sz k q)(hk:k<=1099511627776):ab prog 36 #[v] V fun r V'=>RA V' r q:=by
 obtain ⟨p,n,c,f,g,i,rfl,j,l⟩:=h
 have y:=af s.1
 have z:=af s.2
 refine CR _ p n c f g i V _ fun A a=>(j9 ⟨_,_,_,rfl,j.le a⟩ (by omega)).mono ?_
 rintro r V2 m ⟨B,C,D,rfl,o⟩
 refine ⟨_,_,_,_,rfl,fun E b=>(cY q _ (l.le (a.trans (m.trans b)))).mono ?_⟩
 rintro r F t ⟨G,H,I,rfl,u⟩
 refine ⟨_,_,_,rfl,fun J d=>(tB (u.le d) (by omega)).mono ?_⟩
 rintro r K w ⟨L,M,N,rfl,x⟩
 exact ⟨_,_,_,rfl,fun O e=>⟨_,_,_,_,_,_,rfl,o.le (b.trans (t.trans (d.trans (w.trans e)))),x.le e⟩⟩
theorem DB {V:View}{v:Value}{x y:Rat}(h:RP V v x y){k:Nat}(s1:Sz k x)(s2:Sz k y)(hk:k<=1099511627776):ab prog 53 #[v] V fun r V'=>Hn V' r x y:=by
 obtain ⟨i,j,l,m,n,o,p,q,s,t,u,w,rfl,z,A⟩:=h
 refine C0 _ i j l m n o _ p q s t u w V _ fun D c=>(j_ (z.le c) s1 hk).mono ?_
 rintro r V2 B d
 have a:=d
 obtain ⟨_,_,_,_,_,_,_,rfl⟩:=d.shape
 refine ⟨_,_,_,_,_,_,_,rfl,fun E e=>(j_ (A.le (c.trans (B.trans e))) s2 hk).mono ?_⟩
 rintro r F C f
 have b:=f
 obtain ⟨_,_,_,_,_,_,_,rfl⟩:=f.shape
 exact ⟨_,_,_,_,_,_,_,rfl,fun G g=>⟨_,_,_,_,_,_,_,_,_,_,_,_,_,_,rfl,a.le (e.trans (C.trans g)),b.le g⟩⟩
theorem ik {V:View}{v w:Value}{x y:Rat}(hx:RA V v x)(hy:RA V w y){k:Nat}(s:Sz k x)(hk:k<=1099511627776) :
  ab prog 35 #[v,w] V fun r V'=>r=.bool (decide (x=y)):=by
 obtain ⟨p,n,c,f,i,j,rfl,l,o⟩:=hx
 obtain ⟨q,m,e,t,u,z,rfl,A,B⟩:=hy
 have C:=af s.1
 have D:=af s.2
 refine xU _ p n c f i j _ q m e t u z V _ fun E a=>(ij (l.le a) (A.le a) (by omega)).mono ?_
 rintro r V2 b rfl
 refine ⟨_,rfl,fun g F d=>(oO (o.le (a.trans (b.trans d))) (B.le (a.trans (b.trans d))) (by omega)).mono ?_,fun g G H=>?_⟩
 ·have g:=of_decide_eq_true g
  rintro r I J rfl
  refine ⟨_,rfl,fun K L=>?_⟩
  have e:ah x.den=ah y.den↔x=y:=⟨fun h=>Rat.ext g (by have:=congrArg val h;rwa [ae,ae] at this),fun h=>by rw [h]⟩
  rw [show decide (ah x.den=ah y.den)=decide (x=y) from by rw [decide_eq_decide];exact e]
 ·have g:=of_decide_eq_false g
  rw [decide_eq_false (fun h=>g (by rw [h]))]
theorem yO {V:View}{v w:Value}{x y x' y':Rat}(h:Hn V v x y)(h':Hn V w x' y'){k:Nat}(s1:Sz k x)(s2:Sz k y)(hk:k<=1099511627776) :
  ab prog 89 #[v,w] V fun r V'=>r=.bool (decide (x=x'/\y=y')):=by
 obtain ⟨b,p,n,c,t,u,z,d,q,m,e,A,B,C,rfl,D,E⟩:=h
 obtain ⟨b1,F,G,H,I,f,i,d1,J,K,L,j,l,M,rfl,N,O⟩:=h'
 refine x_ b p n c t u z d q m e A B C b1 F G H I f i d1 J K L j l M V _ fun P a=>(ik (D.le a) (N.le a) s1 hk).mono ?_
 rintro r V2 o rfl
 refine ⟨_,rfl,fun g Q s=>(ik (E.le (a.trans (o.trans s))) (O.le (a.trans (o.trans s))) s2 hk).mono ?_,fun g R S=>?_⟩
 ·have g:=of_decide_eq_true g
  rintro r T U rfl
  exact ⟨_,rfl,fun W X=>by simp [g]⟩
 ·have g:=of_decide_eq_false g
  simp [g]
def S6 (a b c:Rat):L3:=
 let f:Nat:=a.den*b.den*c.den
 Cc (a*((f:Int):Rat)).num (b*((f:Int):Rat)).num (c*((f:Int):Rat)).num
theorem ma {V:View}(n:Int)(d:Nat)(h0:-1000<=n)(h1:n<=1000)(hd0:d≠0)(hd:d<=1000) :
  ab prog 75 #[.int .i64 n,.int .i64 (d:Int)] V fun r V'=>RQ V' r (mkRat n d):=by
 refine Ff n d V _ fun l o=>(Az n (by omega) (by omega)).mono ?_
 rintro r V2 q ⟨p,m,c,rfl,g⟩
 rw [aM (by omega)]
 refine ⟨_,_,_,_,rfl,fun s b=>(dO d (by omega)).mono ?_⟩
 rintro r t e ⟨u,v,w,rfl,f⟩
 refine ⟨_,_,_,rfl,fun x a=>(jy n (g.le (b.trans (e.trans a))) (f.le a) (Nat.le_trans (af (k:=10) (by omega)) (by omega)) (Nat.le_trans (af (k:=10) (by omega)) (by omega)) hd0).mono ?_⟩
 rintro r y z h
 have i:=h
 obtain ⟨_,_,_,_,_,_,rfl⟩:=h.shape
 exact ⟨_,_,_,_,_,_,_,rfl,fun A j=>i.le j⟩
theorem Ob:∀x:Fin 9,Sz 10 (mkRat (2*((x.1:Int)-4)+1) 2)/\Sz 10 (mkRat (3*((x.1:Int)-4)+1) 3):=by unfold Sz;decide +kernel
theorem Y4 {V:View}{tb:Nat}{p:OA}{n c:Nat}{at_:Int}(hr:JA V p n)(hn:n<=400)(hw:pW V tb p n c at_)(hx:V.X tb)(h0:0<=at_) :
  ab prog 74 #[.pointer (some ⟨tb,0,none⟩)] V fun r V'=>∃(q:Rat)(at':Int),RQ V' r q/\Sz 10 q/\0<=at'/\pW V' tb p n c at':=by
 refine uD tb p n c at_ V _ hw hx fun w l g z A=>(rP (V:=w.bz [g]) 9 (hr.le fun b o h=>l b o h) hn z ⟨by simp,A⟩ h0 (by omega) (by omega)).mono ?_
 rintro r V2 B ⟨x,K,rfl,L,M,t1,j⟩
 refine ⟨_,rfl,_,_,_,_,j,fun C D E F G=>(rP (V:=C.bz [E]) 6 (hr.le fun b o h=>D b o (B b o (l b o h))) hn F ⟨by simp,G⟩ t1 (by omega) (by omega)).mono ?_⟩
 rintro r N O ⟨y,a,rfl,P,Q,t2,k⟩
 obtain ⟨i,rfl⟩:∃i:Nat,x=i:=⟨x.toNat,by omega⟩
 obtain ⟨m,s⟩:=Ob ⟨i,by omega⟩
 dsimp only at m s
 have H:i64.wrap ((i:Int)-4)=(i:Int)-4:=ay (by omega)
 have I:i64.wrap (i64.wrap (2*((i:Int)-4))+1)=2*((i:Int)-4)+1:=by rw [ay (x:=2*((i:Int)-4)) (by omega),ay (by omega)]
 have J:i64.wrap (i64.wrap (3*((i:Int)-4))+1)=3*((i:Int)-4)+1:=by rw [ay (x:=3*((i:Int)-4)) (by omega),ay (by omega)]
 rw [H,I,J]
 refine ⟨_,rfl,_,_,_,_,k,fun _ R S=>(ma (2*((i:Int)-4)+1) 2 (by omega) (by omega) (by omega) (by omega)).mono ?_,fun _=>⟨fun _ T U=>(ma (3*((i:Int)-4)+1) 3 (by omega) (by omega) (by omega) (by omega)).mono ?_,fun _ W Y=>(eI ((i:Int)-4) (by omega) (by omega)).mono ?_⟩⟩
 ·rintro r t u h
  have d:=h
  obtain ⟨_,_,_,_,_,_,rfl⟩:=h.shape
  exact ⟨_,_,_,_,_,_,_,rfl,fun v e f=>⟨_,a,d.le e,m,t2,f⟩⟩
 ·rintro r t u h
  have d:=h
  obtain ⟨_,_,_,_,_,_,rfl⟩:=h.shape
  exact ⟨_,_,_,_,_,_,_,rfl,fun v e f=>⟨_,a,d.le e,s,t2,f⟩⟩
 ·rintro r t u h
  have d:=h
  obtain ⟨_,_,_,_,_,_,rfl⟩:=h.shape
  exact ⟨_,_,_,_,_,_,_,rfl,fun v e f=>⟨_,a,d.le e,Fv (by omega),t2,f⟩⟩
theorem BK {V:View}{l p:Value}{az l_1 bL:Int}{dv dz:Rat}(hl:RL V l az l_1 bL)(hp:RP V p dv dz){k:Nat}(s0:Sz k ((az:Int):Rat))(s1:Sz k ((l_1:Int):Rat))(s2:Sz k ((bL:Int):Rat))(s3:Sz k dv)(s4:Sz k dz)(hk:16*k+16<274877906944) :
  ab prog 76 #[l,p] V fun r V'=>r=.int .i64 ((az:Rat)*dv+(l_1:Rat)*dz+(bL:Rat)).num.sign:=by
 have a:=hl
 have b:=hp
 obtain ⟨d,e,f,g,h,i,j,m,n,rfl,-,-,-⟩:=hl
 obtain ⟨o,q,s,t,u,v,w,x,y,z,A,B,rfl,-,-⟩:=hp
 refine zS _ d e f _ g h i _ j m n _ o q s t u v _ w x y z A B V _ fun E c=>(il (a.le c) (b.le c) s0 s1 s2 s3 s4 (by omega)).mono ?_
 rintro r V2 F ⟨G,H,I,J,K,L,rfl,C,M⟩
 refine ⟨_,_,_,_,_,_,_,rfl,fun N D=>(uK _ (C.le D)).mono ?_⟩
 rintro r O P rfl
 exact ⟨_,rfl,fun Q R=>rfl⟩
theorem Dy {V:View}{l:Value}{a b c:Int}(hl:RL V l a b c):ab prog 41 #[l] V fun r V'=>RL V' r (-a) (-b) (-c):=by
 obtain ⟨k,m,n,o,p,q,s,t,u,rfl,v,w,x⟩:=hl
 refine CX _ k m n _ o p q _ s t u V _ fun B d=>(iw a (v.le d)).mono ?_
 rintro r V2 h ⟨C,D,E,rfl,y⟩
 refine ⟨_,_,_,_,rfl,fun F e=>(iw b (w.le (d.trans (h.trans e)))).mono ?_⟩
 rintro r G i ⟨H,I,J,rfl,z⟩
 refine ⟨_,_,_,_,rfl,fun K f=>(iw c (x.le (d.trans (h.trans (e.trans (i.trans f)))))).mono ?_⟩
 rintro r L j ⟨M,N,O,rfl,A⟩
 exact ⟨_,_,_,_,rfl,fun P g=>⟨_,_,_,_,_,_,_,_,_,rfl,y.le (e.trans (i.trans (f.trans (j.trans g)))),z.le (f.trans (j.trans g)),A.le g⟩⟩
end Go.Proofs.Tryz
namespace Go.bM
open Go.fR
theorem RR.zero (V:View):RR V (.agg #[.int .i64 0,.int .i64 0,.pointer none]) 0:=.inl ⟨rfl,by unfold Wd;decide⟩
end Go.bM
namespace Go.Proofs.Tryz
open Go.bM Go.fR
structure Sp where
 lo:Rat
 hi:Rat
 a:Bool
 b:Bool
def Sp.can (s:Sp):Prop:=(s.a=true->s.lo=0)/\(s.b=true->s.hi=0)
def Sp.sz (k:Nat)(s:Sp):Prop:=Sz k s.lo/\Sz k s.hi
def Sp.zero:Sp:=⟨0,0,false,false⟩
def kN (k:Nat)(l:L3):Prop:=Sz k (l.1:Rat)/\Sz k (l.2.1:Rat)/\Sz k (l.2.2:Rat)
def Ho (V:View)(v:Value)(s:Sp):Prop:=∃(x1 x2:Int)(p:OA)(y1 y2:Int)(q:OA),v=.agg #[.int .i64 x1,.int .i64 x2,.pointer p,.int .i64 y1,.int .i64 y2,.pointer q,.bool s.a,.bool s.b] /\
 RR V (.agg #[.int .i64 x1,.int .i64 x2,.pointer p]) s.lo/\RR V (.agg #[.int .i64 y1,.int .i64 y2,.pointer q]) s.hi
theorem Ho.le {V V':View}{v:Value}{s:Sp}(h:Ho V v s)(l:V.Le V'):Ho V' v s:=by
 obtain ⟨a,b,p,c,d,q,e,f,g⟩:=h
 exact ⟨a,b,p,c,d,q,e,f.le l,g.le l⟩
def yv (V:View)(v:Value)(l:L3):Prop:=yD V v (l.1:Rat) (l.2.1:Rat) (l.2.2:Rat)
theorem yv.le {V V':View}{v:Value}{l:L3}(h:yv V v l)(e:V.Le V'):yv V' v l:=yD.le h e
def Pn (V:View)(v:Value)(l:L3)(s:Sp):Prop:=∃(x1 x2:Int)(p:OA)(y1 y2:Int)(q:OA)(z1 z2:Int)(r:OA)(u1 u2:Int)(t:OA)(w1 w2:Int)(o:OA),
 v=.agg #[.int .i64 x1,.int .i64 x2,.pointer p,.int .i64 y1,.int .i64 y2,.pointer q,.int .i64 z1,.int .i64 z2,.pointer r,.int .i64 u1,.int .i64 u2,.pointer t,.int .i64 w1,.int .i64 w2,.pointer o,.bool s.a,.bool s.b] /\
 yv V (.agg #[.int .i64 x1,.int .i64 x2,.pointer p,.int .i64 y1,.int .i64 y2,.pointer q,.int .i64 z1,.int .i64 z2,.pointer r]) l /\
 Ho V (.agg #[.int .i64 u1,.int .i64 u2,.pointer t,.int .i64 w1,.int .i64 w2,.pointer o,.bool s.a,.bool s.b]) s
theorem Pn.le {V V':View}{v:Value}{l:L3}{s:Sp}(h:Pn V v l s)(e:V.Le V'):Pn V' v l s:=by
 obtain ⟨a,b,p,c,d,q,f,g,r,i,j,t,k,m,o,rfl,n,u⟩:=h
 exact ⟨a,b,p,c,d,q,f,g,r,i,j,t,k,m,o,rfl,n.le e,u.le e⟩
def Mu (V:View)(v:Value)(b:Bool)(xs ys:List Nat):Prop:=∃p n c p' n' c',v=.agg #[.bool b,.slice p n c,.slice p' n' c']/\RD V p n c xs/\RD V p' n' c' ys
theorem Mu.le {V V':View}{v:Value}{b:Bool}{xs ys:List Nat}(h:Mu V v b xs ys)(l:V.Le V'):Mu V' v b xs ys:=by
 obtain ⟨p,n,c,a,d,f,e,g,i⟩:=h;exact ⟨p,n,c,a,d,f,e,g.le l,i.le l⟩
theorem Mu.nil {V:View}:Mu V (.agg #[.bool false,.slice none 0 0,.slice none 0 0]) false [] []:=⟨_,_,_,_,_,_,rfl,RD.nil,RD.nil⟩
def RE (V:View)(v:Value)(q:Rat)(no:Bool):Prop:=(no=true->Mu V v false [] [])/\(no=false->RA V v q)
theorem RE.le {V V':View}{v:Value}{q:Rat}{no:Bool}(h:RE V v q no)(l:V.Le V'):RE V' v q no:=⟨fun e=>(h.1 e).le l,fun e=>(h.2 e).le l⟩
theorem RE.shape {V:View}{v:Value}{q:Rat}{no:Bool}(h:RE V v q no):∃b p n c p' n' c',v=.agg #[.bool b,.slice p n c,.slice p' n' c']:=by
 cases no with
 | true=>obtain ⟨_,_,_,_,_,_,e,-⟩:=h.1 rfl;exact ⟨_,_,_,_,_,_,_,e⟩
 | false=>exact (h.2 rfl).shape
def Ud (V:View)(v:Value)(s:Sp):Prop:=∃b p n c p' n' c' d q m e q' m' e',v=.agg #[.bool b,.slice p n c,.slice p' n' c',.bool d,.slice q m e,.slice q' m' e',.bool s.a,.bool s.b] /\
 RE V (.agg #[.bool b,.slice p n c,.slice p' n' c']) s.lo s.a/\RE V (.agg #[.bool d,.slice q m e,.slice q' m' e']) s.hi s.b
theorem Ud.le {V V':View}{v:Value}{s:Sp}(h:Ud V v s)(l:V.Le V'):Ud V' v s:=by
 obtain ⟨b,p,n,c,g,i,j,d,q,m,e,k,o,r,rfl,a,f⟩:=h
 exact ⟨_,_,_,_,_,_,_,_,_,_,_,_,_,_,rfl,a.le l,f.le l⟩
def QZ (V:View)(v:Value)(l:L3)(s:Sp):Prop:=∃b1 p1 n1 c1 b2 p2 n2 c2 b3 p3 n3 c3 b p n c p' n' c' d q m e q' m' e',
 v=.agg #[.bool b1,.slice p1 n1 c1,.bool b2,.slice p2 n2 c2,.bool b3,.slice p3 n3 c3,.bool b,.slice p n c,.slice p' n' c',.bool d,.slice q m e,.slice q' m' e',.bool s.a,.bool s.b] /\
 RL V (.agg #[.bool b1,.slice p1 n1 c1,.bool b2,.slice p2 n2 c2,.bool b3,.slice p3 n3 c3]) l.1 l.2.1 l.2.2/\Ud V (.agg #[.bool b,.slice p n c,.slice p' n' c',.bool d,.slice q m e,.slice q' m' e',.bool s.a,.bool s.b]) s
theorem QZ.le {V V':View}{v:Value}{l:L3}{s:Sp}(h:QZ V v l s)(e:V.Le V'):QZ V' v l s:=by
 obtain ⟨b1,i,j,k,b2,o,r,t,b3,u,w,x,b,p,n,c,y,z,A,d,q,m,f,B,C,D,rfl,a,g⟩:=h
 exact ⟨_,_,_,_,_,_,_,_,_,_,_,_,_,_,_,_,_,_,_,_,_,_,_,_,_,_,rfl,a.le e,g.le e⟩
def Fz (V:View)(v:Value)(s:Sp):Prop:=∃b p n c p' n' c' d q m e q' m' e',v=.agg #[.bool b,.slice p n c,.slice p' n' c',.bool d,.slice q m e,.slice q' m' e',.bool s.a,.bool s.b] /\
 RQ V (.agg #[.bool b,.slice p n c,.slice p' n' c']) s.lo/\RQ V (.agg #[.bool d,.slice q m e,.slice q' m' e']) s.hi
theorem Fz.le {V V':View}{v:Value}{s:Sp}(h:Fz V v s)(l:V.Le V'):Fz V' v s:=by
 obtain ⟨b,p,n,c,g,i,j,d,q,m,e,k,o,r,rfl,a,f⟩:=h
 exact ⟨_,_,_,_,_,_,_,_,_,_,_,_,_,_,rfl,a.le l,f.le l⟩
def RF (V:View)(v:Value)(l:L3)(s:Sp):Prop:=∃b1 p1 n1 c1 b2 p2 n2 c2 b3 p3 n3 c3 b p n c p' n' c' d q m e q' m' e',
 v=.agg #[.bool b1,.slice p1 n1 c1,.bool b2,.slice p2 n2 c2,.bool b3,.slice p3 n3 c3,.bool b,.slice p n c,.slice p' n' c',.bool d,.slice q m e,.slice q' m' e',.bool s.a,.bool s.b] /\
 RL V (.agg #[.bool b1,.slice p1 n1 c1,.bool b2,.slice p2 n2 c2,.bool b3,.slice p3 n3 c3]) l.1 l.2.1 l.2.2/\Fz V (.agg #[.bool b,.slice p n c,.slice p' n' c',.bool d,.slice q m e,.slice q' m' e',.bool s.a,.bool s.b]) s
theorem RF.le {V V':View}{v:Value}{l:L3}{s:Sp}(h:RF V v l s)(e:V.Le V'):RF V' v l s:=by
 obtain ⟨b1,i,j,k,b2,o,r,t,b3,u,w,x,b,p,n,c,y,z,A,d,q,m,f,B,C,D,rfl,a,g⟩:=h
 exact ⟨_,_,_,_,_,_,_,_,_,_,_,_,_,_,_,_,_,_,_,_,_,_,_,_,_,_,rfl,a.le e,g.le e⟩
def ar (l:L3)(x y:Rat):Rat:=(l.1:Rat)*x+(l.2.1:Rat)*y+(l.2.2:Rat)
def fZ (l:L3):Rat:=(l.1:Rat)*(l.1:Rat)+(l.2.1:Rat)*(l.2.1:Rat)
def Cm (l:L3)(x y:Rat):Rat:=((l.2.1:Rat)*x-(l.1:Rat)*y)*(fZ l)⁻¹
def fm (l:L3)(t:Rat):Rat:=(l.2.1:Rat)*t-(l.1:Rat)*(l.2.2:Rat)*(fZ l)⁻¹
def fu (l:L3)(t:Rat):Rat:=-((l.1:Rat)*t)-(l.2.1:Rat)*(l.2.2:Rat)*(fZ l)⁻¹
def jJ (l:L3):L3:=(-l.1,-l.2.1,-l.2.2)
def Sp.neg (s:Sp):Sp:=⟨if s.b then 0 else -s.hi,if s.a then 0 else -s.lo,s.b,s.a⟩
def Sp.emp (s:Sp):Bool:=!s.a&&!s.b&&decide (fA s.lo s.hi≥0)
def Nz (l:L3):Prop:=¬(l.1=0/\l.2.1=0)
theorem sq_nonneg (x:Int):0<=x*x:=by
 rw [←Int.natAbs_mul_self];exact Int.natCast_nonneg _
theorem Lf (l:L3):fZ l=((l.1*l.1+l.2.1*l.2.1:Int):Rat):=by unfold fZ;simp
theorem Nz.norm {l:L3}(h:Nz l):fZ l≠0:=by
 rw [Lf]
 have d:=sq_nonneg l.1
 have f:=sq_nonneg l.2.1
 have a:l.1*l.1+l.2.1*l.2.1≠0:=by
  intro e
  have b:l.1*l.1=0:=by omega
  have c:l.2.1*l.2.1=0:=by omega
  exact h ⟨(Int.mul_eq_zero.1 b).elim id id,(Int.mul_eq_zero.1 c).elim id id⟩
 exact_mod_cast a
theorem Li {q:Rat}(h:q≠0):q.num≠0:=fun e=>h (Rat.num_eq_zero.1 e)
theorem SJ {V:View}{l t:Value}{L:L3}{x:Rat}(hl:yv V l L)(ht:RR V t x){k:Nat}(sl:kN k L)(s1:Sz k x)(hk:20*k+19<274877906944) :
  ab prog 132 #[l,t] V fun r V'=>oF V' r (fm L x) (fu L x):=by
 refine (Du hl ht sl.1 sl.2.1 sl.2.2 s1 hk).mono ?_
 rintro r V2 c g
 have a:fm L x=((L.1:Rat)*((-(L.2.2:Rat))*((L.1:Rat)*(L.1:Rat)+(L.2.1:Rat)*(L.2.1:Rat))⁻¹))+((L.2.1:Rat)*x):=by unfold fm fZ;grind
 have b:fu L x=((L.2.1:Rat)*((-(L.2.2:Rat))*((L.1:Rat)*(L.1:Rat)+(L.2.1:Rat)*(L.2.1:Rat))⁻¹))+((-(L.1:Rat))*x):=by unfold fu fZ;grind
 rw [a,b];exact g
theorem Cz {L:L3}{x:Rat}{k:Nat}(sl:kN k L)(s1:Sz k x):Sz (20*k+19) (fm L x):=by
 have a:fm L x=((L.1:Rat)*((-(L.2.2:Rat))*((L.1:Rat)*(L.1:Rat)+(L.2.1:Rat)*(L.2.1:Rat))⁻¹))+((L.2.1:Rat)*x):=by unfold fm fZ;grind
 rw [a];exact Ad sl.1 sl.2.1 sl.2.2 s1
theorem CA {L:L3}{x:Rat}{k:Nat}(sl:kN k L)(s1:Sz k x):Sz (20*k+19) (fu L x):=by
 have a:fu L x=((L.2.1:Rat)*((-(L.2.2:Rat))*((L.1:Rat)*(L.1:Rat)+(L.2.1:Rat)*(L.2.1:Rat))⁻¹))+((-(L.1:Rat))*x):=by unfold fu fZ;grind
 rw [a];exact Ae sl.1 sl.2.1 sl.2.2 s1
theorem qR (q:Rat):q.num.sign=0↔q=0:=by rw [Int.sign_eq_zero_iff_zero,Rat.num_eq_zero]
theorem Qb {V:View}{l p:Value}{L:L3}{x y:Rat}(hl:yv V l L)(hp:oF V p x y){k:Nat}(sl:kN k L)(s1:Sz k x)(s2:Sz k y)(hk:16*k+16<274877906944) :
  ab prog 131 #[l,p] V fun r V'=>r=.int .i64 (ar L x y).num.sign:=yG hl hp sl.1 sl.2.1 sl.2.2 s1 s2 hk
theorem kN.rev {k:Nat}{L:L3}(h:kN k L):kN k (jJ L):=by
 unfold kN jJ
 simp only [Rat.intCast_neg]
 exact ⟨h.1.neg,h.2.1.neg,h.2.2.neg⟩
theorem GJ {L:L3}(h:Nz L):((((((L.2.1:Int):Rat)))*((((L.2.1:Int):Rat))))+(((-(((L.1:Int):Rat))))*((-(((L.1:Int):Rat)))))).num≠0:=by
 have:(((((L.2.1:Int):Rat)))*((((L.2.1:Int):Rat))))+(((-(((L.1:Int):Rat))))*((-(((L.1:Int):Rat)))))=fZ L:=by unfold fZ;grind
 rw [this]
 exact Li h.norm
theorem NO {V:View}{l p:Value}{L:L3}{x y:Rat}(hl:RL V l L.1 L.2.1 L.2.2)(hp:RP V p x y)(hz:Nz L){k:Nat}(sl:kN k L)(s1:Sz k x)(s2:Sz k y)(hk:8*k+7<274877906944) :
  ab prog 154 #[l,p] V fun r V'=>RQ V' r (Cm L x y):=by
 refine (yM hl hp (GJ hz) sl.1 sl.2.1 sl.2.2 s1 s2 hk).mono ?_
 rintro r V2 a g
 have e:Cm L x y=((((x)*((((L.2.1:Int):Rat))))+((y)*((-(((L.1:Int):Rat))))))*((((((L.2.1:Int):Rat)))*((((L.2.1:Int):Rat))))+(((-(((L.1:Int):Rat))))*((-(((L.1:Int):Rat))))))⁻¹):=by
  unfold Cm fZ;grind
 rw [e];exact g
theorem XQ {V:View}{l t:Value}{L:L3}{x:Rat}(hl:RL V l L.1 L.2.1 L.2.2)(ht:RQ V t x)(hz:Nz L){k:Nat}(sl:kN k L)(s1:Sz k x)(hk:18*k+16<274877906944) :
  ab prog 119 #[l,t] V fun r V'=>RP V' r (fm L x) (fu L x):=by
 refine (FT hl ht (GJ hz) sl.1 sl.2.1 sl.2.2 s1 hk).mono ?_
 rintro r V2 c g
 have a:fm L x=(((-((((L.2.2:Int):Rat))*((((((L.2.1:Int):Rat)))*((((L.2.1:Int):Rat))))+(((-(((L.1:Int):Rat))))*((-(((L.1:Int):Rat))))))⁻¹))*(((L.1:Int):Rat)))+(x)*(((L.2.1:Int):Rat))):=by unfold fm fZ;grind
 have b:fu L x=(((-((((L.2.2:Int):Rat))*((((((L.2.1:Int):Rat)))*((((L.2.1:Int):Rat))))+(((-(((L.1:Int):Rat))))*((-(((L.1:Int):Rat))))))⁻¹))*(((L.2.1:Int):Rat)))+(x)*(-(((L.1:Int):Rat)))):=by unfold fu fZ;grind
 rw [a,b];exact g
theorem Cs {V:View}{l p:Value}{L:L3}{x y:Rat}(hl:RL V l L.1 L.2.1 L.2.2)(hp:RP V p x y){k:Nat}(sl:kN k L)(s1:Sz k x)(s2:Sz k y)(hk:16*k+16<274877906944) :
  ab prog 76 #[l,p] V fun r V'=>r=.int .i64 (ar L x y).num.sign:=BK hl hp sl.1 sl.2.1 sl.2.2 s1 s2 hk
end Go.Proofs.Tryz
