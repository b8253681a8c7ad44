import Derived.Test.YtnnbfoejafcdlaaGreatDoorE9
import Derived.Test.YtnnbfoejafcdlaaGreatDoorE12
import Derived.Test.YtnnbfoejafcdlaaGreatDoorE7
set_option linter.unusedVariables false
open Go.IntKind (i64 u64 u32)
namespace Go.bM
theorem Ch (a:Addr)(m n:Nat):(a.add m).add n=a.add (m+n):=by
 unfold Addr.add
 by_cases h1:m=0
 ·subst h1;simp
 ·by_cases h2:n=0
  ·subst h2;simp [h1]
  ·rw [if_neg h1,if_neg h2,if_neg (by omega)]
   simp only [Nat.add_assoc]
variable {α:Type} {sz:Nat} {R:View->Value->α->Prop} {V V':View}
structure Row (sz:Nat) (R:View->Value->α->Prop) (V:View) (vs:List Value) (al:List α):Prop where
 at_:∀(i:Nat)(h:i<al.length),∃xs:List Value,xs.length=sz/\R V (.agg xs.toArray) al[i]/\∀j x,xs[j]?=some x->vs[i*sz+j]?=some x
structure cI (sz:Nat) (R:View->Value->α->Prop) (V:View) (p:OA) (n:Nat) (al:List α):Prop where
 len:n=al.length
 at_:∀(i:Nat)(h:i<al.length),∃ad,ah p (i*sz)=some ad/\∃xs:List Value,xs.length=sz/\R V (.agg xs.toArray) al[i]/\∀j x,xs[j]?=some x->V.at (ad.add j) x
theorem Row.nil {vs:List Value}:Row sz R V vs []:=⟨fun i h=>absurd h (Nat.not_lt_zero i)⟩
theorem cI.nil {p:OA}:cI sz R V p 0 []:=⟨rfl,fun i h=>absurd h (Nat.not_lt_zero i)⟩
theorem Row.le {vs:List Value}{al:List α}(h:Row sz R V vs al)(m:∀v a,R V v a->R V' v a):Row sz R V' vs al:=
 ⟨fun i hi=>by obtain ⟨xs,h1,h2,h3⟩:=h.at_ i hi;exact ⟨xs,h1,m _ _ h2,h3⟩⟩
theorem cI.le {p:OA}{n:Nat}{al:List α}(h:cI sz R V p n al)(l:V.Le V')(m:∀v a,R V v a->R V' v a):cI sz R V' p n al:=
 ⟨h.len,fun i hi=>by obtain ⟨ad,h0,xs,h1,h2,h3⟩:=h.at_ i hi;exact ⟨ad,h0,xs,h1,m _ _ h2,fun j x hx=>l.at (h3 j x hx)⟩⟩
theorem Row.jI {vs:List Value}{al:List α}(h:Row sz R V vs al)(hs:0<sz):al.length*sz<=vs.length:=by
 by_cases h0:al.length=0
 ·rw [h0];omega
 ·obtain ⟨xs,h1,-,h3⟩:=h.at_ (al.length-1) (by omega)
  have hx:sz-1<xs.length:=by omega
  have:=(List.getElem?_eq_some_iff.1 (h3 (sz-1) _ (List.getElem?_eq_getElem hx))).1
  have e:al.length*sz=(al.length-1)*sz+sz:=by
   obtain ⟨m,hm⟩:∃m,al.length=m+1:=⟨al.length-1,by omega⟩
   rw [hm,Nat.add_sub_cancel,Nat.succ_mul]
  omega
theorem Row.snoc {vs:List Value}{al:List α}(h:Row sz R V vs al){xs sp:List Value}{a:α}(hx:xs.length=sz)(ha:R V (.agg xs.toArray) a)(hs:0<sz) :
  Row sz R V (vs.take (al.length*sz)++xs++sp) (al++[a]):=by
 have hl:=h.jI hs
 have ht:(vs.take (al.length*sz)).length=al.length*sz:=by rw [List.length_take];omega
 refine ⟨fun i hi=>?_⟩
 rw [List.length_append,List.length_singleton] at hi
 by_cases e:i=al.length
 ·subst e
  refine ⟨xs,hx,by rw [List.getElem_append_right (Nat.le_refl _)];simpa using ha,fun j x hj=>?_⟩
  have hj':=(List.getElem?_eq_some_iff.1 hj).1
  rw [List.append_assoc,List.getElem?_append_right (by rw [ht];omega),ht,Nat.add_sub_cancel_left,List.getElem?_append_left hj']
  exact hj
 ·have hi':i<al.length:=by omega
  obtain ⟨ys,y1,y2,y3⟩:=h.at_ i hi'
  refine ⟨ys,y1,by rw [List.getElem_append_left hi'];exact y2,fun j x hj=>?_⟩
  have hj':=(List.getElem?_eq_some_iff.1 hj).1
  have hlt:i*sz+j<al.length*sz:=by
   have:(i+1)*sz<=al.length*sz:=Nat.mul_le_mul_right _ hi'
   rw [Nat.succ_mul] at this
   omega
  rw [List.append_assoc,List.getElem?_append_left (by rw [ht];exact hlt),List.getElem?_take,if_pos hlt]
  exact y3 j x hj
theorem cI.Kh {bk:Nat}{ty:TypeId}{m:Nat×Nat}{vs:List Value}{al:List α}(hb:V.bI bk (.cells vs.toArray ty m))(h:Row sz R V vs al):cI sz R V (some ⟨bk,0,none⟩) al.length al:=by
 refine ⟨rfl,fun i hi=>?_⟩
 obtain ⟨xs,h1,h2,h3⟩:=h.at_ i hi
 refine ⟨⟨bk,i*sz,none⟩,by simp [ah,add_zero'],xs,h1,h2,fun j x hj=>?_⟩
 have e:(⟨bk,i*sz,none⟩:Addr).add j=⟨bk,i*sz+j,none⟩:=by rw [←add_zero',Ch,add_zero']
 rw [e]
 exact fZ hb (h3 j x hj)
theorem cI.fQ {bk c:Nat}{ty:TypeId}{m:Nat×Nat}{vs:List Value}{al:List α}(hb:vs≠[]->V.bI bk (.cells vs.toArray ty m))(h:Row sz R V vs al)(hs:0<sz)(hc:al.length<=c):cI sz R V (mA bk c) al.length al:=by
 cases al with
 | nil=>exact cI.nil
 | cons a r=>
  have hne:vs≠[]:=fun e=>by
   have:=h.jI hs
   rw [e,List.length_cons,Nat.succ_mul] at this
   simp at this;omega
  have:mA bk c=some ⟨bk,0,none⟩:=by unfold mA;rw [if_neg];rw [List.length_cons] at hc;omega
  rw [this]
  exact cI.Kh (hb hne) h
end Go.bM
namespace Go.bM
open Go.Proofs.Tryz
variable {α:Type} {sz:Nat} {R:View->Value->α->Prop} {V V':View} {d:α}
theorem Row.get {vs:List Value}{al:List α}(h:Row sz R V vs al){i:Nat}(hi:i<al.length)(hs:0<sz) :
  ∃xs:List Value,xs.length=sz/\R V (.agg xs.toArray) (al.getD i d)/\i*sz+sz<=vs.length/\(vs.drop (i*sz)).take sz=xs:=by
 obtain ⟨xs,h1,h2,h3⟩:=h.at_ i hi
 have hl:=h.jI hs
 have:(i+1)*sz<=al.length*sz:=Nat.mul_le_mul_right _ hi
 rw [Nat.succ_mul] at this
 refine ⟨xs,h1,by simpa [List.getD_eq_getElem?_getD,hi] using h2,by omega,?_⟩
 apply List.ext_getElem?
 intro j
 rw [List.getElem?_take]
 split
 ·rename_i hj
  rw [List.getElem?_drop]
  have hx:j<xs.length:=by omega
  rw [h3 j _ (List.getElem?_eq_getElem hx),List.getElem?_eq_getElem hx]
 ·rename_i hj
  rw [List.getElem?_eq_none (by omega)]
theorem Row.put {vs:List Value}{al:List α}(h:Row sz R V vs al){i:Nat}(hi:i<al.length)(hs:0<sz){xs:List Value}{a:α}(hx:xs.length=sz)(ha:R V (.agg xs.toArray) a) :
  Row sz R V (cJ vs (i*sz) xs) (al.set i a):=by
 have hl:=h.jI hs
 have h9:∀k,k<al.length->k*sz+sz<=vs.length:=fun k hk=>by
  have:(k+1)*sz<=al.length*sz:=Nat.mul_le_mul_right _ hk
  rw [Nat.succ_mul] at this
  omega
 have hi9:=h9 i hi
 rw [lB (by omega)]
 have ht:(vs.take (i*sz)).length=i*sz:=by rw [List.length_take];omega
 refine ⟨fun k hk=>?_⟩
 rw [List.length_set] at hk
 by_cases e:k=i
 ·subst e
  refine ⟨xs,hx,by simpa using ha,fun j x hj=>?_⟩
  have hj':=(List.getElem?_eq_some_iff.1 hj).1
  rw [List.append_assoc,List.getElem?_append_right (by omega),ht,Nat.add_sub_cancel_left,List.getElem?_append_left hj']
  exact hj
 ·obtain ⟨ys,y1,y2,y3⟩:=h.at_ k hk
  refine ⟨ys,y1,by rw [List.getElem_set_ne (fun e'=>e e'.symm)];exact y2,fun j x hj=>?_⟩
  have hj':=(List.getElem?_eq_some_iff.1 hj).1
  by_cases lt:k<i
  ·have:(k+1)*sz<=i*sz:=Nat.mul_le_mul_right _ lt
   rw [Nat.succ_mul] at this
   rw [List.append_assoc,List.getElem?_append_left (by omega),List.getElem?_take,if_pos (by omega)]
   exact y3 j x hj
  ·have:(i+1)*sz<=k*sz:=Nat.mul_le_mul_right _ (by omega)
   rw [Nat.succ_mul] at this
   rw [List.getElem?_append_right (by rw [List.length_append];omega),List.length_append,ht,hx,List.getElem?_drop]
   rw [show i*sz+sz+(k*sz+j-(i*sz+sz))=k*sz+j by omega]
   exact y3 j x hj
theorem mw {vs xs:List Value}{o:Nat}(h:o+xs.length<=vs.length):(cJ vs o xs).length=vs.length:=by
 rw [lB h];simp only [List.length_append,List.length_take,List.length_drop];omega
theorem Row.swap {vs:List Value}{al:List α}(h:Row sz R V vs al){i j:Nat}(hi:i<al.length)(hj:j<al.length)(hs:0<sz){xs ys:List Value}(hx:xs.length=sz)(hy:ys.length=sz)(h1:R V (.agg xs.toArray) (al.getD i d))(h2:R V (.agg ys.toArray) (al.getD j d)) :
  Row sz R V (cJ (cJ vs (i*sz) ys) (j*sz) xs) (sw d al i j):=by
 have:=h.put hi hs hy h2
 exact this.put (by simpa using hj) hs hx h1
end Go.bM
namespace Go.Proofs.Tryz
open Go.bM Go.fB
section
variable {α:Type} (e:α->α->Bool)
def AV:α->List α->List α
 | _,[]=>[]
 | p,a::r=>if e a p then AV a r else a::AV a r
def xM:List α->List α
 | []=>[]
 | a::r=>a::AV e a r
variable {e}
theorem uQ:∀{r:List α} {p:α},∀x∈AV e p r,x∈r
 | [],p,x,h=>h
 | b::r,p,x,h=>by
  unfold AV at h
  split at h
  ·exact List.mem_cons_of_mem _ (uQ x h)
  ·rcases List.mem_cons.1 h with rfl|h
   ·exact List.mem_cons_self ..
   ·exact List.mem_cons_of_mem _ (uQ x h)
theorem Je {l:List α}:∀x∈xM e l,x∈l:=by
 cases l with
 | nil=>exact fun x h=>h
 | cons a r=>
  intro x h
  rcases List.mem_cons.1 h with rfl|h
  ·exact List.mem_cons_self ..
  ·exact List.mem_cons_of_mem _ (uQ x h)
end
end Go.Proofs.Tryz
namespace Go.bM
open Go.Proofs.Tryz
section
variable {α:Type} {sz:Nat} {R:View->Value->α->Prop} {V:View} {d:α}
end
end Go.bM
namespace Go.Proofs.Tryz
open Go.bM Go.fB
def RA (V:View)(v:Value)(q:Rat):Prop:=∃p n c p' n' c',v=.agg #[.bool (decide (q.num<0)),.slice p n c,.slice p' n' c']/\RD V p n c (ag q.num.natAbs)/\RD V p' n' c' (ag q.den)
theorem RA.le {V V':View}{v:Value}{q:Rat}(h:RA V v q)(l:V.Le V'):RA V' v q:=by
 obtain ⟨p,n,c,p',n',c',e,h1,h2⟩:=h
 exact ⟨p,n,c,p',n',c',e,h1.le l,h2.le l⟩
theorem nV {V:View}(b:Bool){p q:OA}{n c m e:Nat}{xs ys:List Nat}(hx:RD V p n c xs)(hy:RD V q m e ys)(hm:xs.length<=1099511627776)(hn:ys.length<=1099511627776) :
  ab prog 170 #[.agg #[.bool b,.slice p n c,.slice q m e]] V fun r V'=>RR V' r (mkRat (aY b xs) (val ys)):=by
 refine F0 b p n c q m e V _ fun V1 l1=>(cA b (hx.le l1) (hy.le l1) hm hn).mono ?_
 rintro r V2 l2 h
 obtain ⟨u,v,w,rfl⟩:=h.shape
 exact ⟨_,_,_,rfl,fun V3 l3=>h.le l3⟩
theorem zy {V:View}{v:Value}{q:Rat}(h:RA V v q){k:Nat}(hs:Sz k q)(hk:k<=1099511627776):ab prog 170 #[v] V fun r V'=>RR V' r q:=by
 obtain ⟨p,n,c,p',n',c',rfl,h1,h2⟩:=h
 have q1:=af hs.1
 have q2:=af hs.2
 refine (nV _ h1 h2 (by omega) (by omega)).mono ?_
 rintro r V' _ h
 rw [aG,ae,Rat.mkRat_self] at h
 exact h
theorem AD {V:View}{v:Value}{q:Rat}(h:RR V v q){k:Nat}(hs:Sz k q)(hk:k<=1099511627776):ab prog 83 #[v] V fun r V'=>RA V' r q:=by
 have h0:=h
 obtain ⟨r0,r1,r2,rfl⟩:=h.shape
 refine xZ r0 r1 r2 V _ fun V1 l1=>(fa (h0.le l1) hs hk).mono ?_
 rintro r V2 l2 ⟨p1,n1,c1,rfl,g1⟩
 refine ⟨_,_,_,_,rfl,fun V3 l3=>(eE (h0.le (l1.trans (l2.trans l3))) hs hk).mono ?_⟩
 rintro r V4 l4 ⟨p2,n2,c2,rfl,g2⟩
 exact ⟨_,_,_,rfl,fun V5 l5=>⟨_,_,_,_,_,_,rfl,g1.le (l3.trans (l4.trans l5)),g2.le l5⟩⟩
theorem e_ {V:View}{v w:Value}{x y:Rat}(hx:RR V v x)(hy:RR V w y){k m:Nat}(hk:Sz k x)(hm:Sz m y)(hkm:k+m<1099511627776) :
  ab prog 184 #[v,w] V fun r V'=>RR V' r (x*y):=by
 obtain ⟨r0,r1,r2,rfl⟩:=hx.shape
 obtain ⟨s0,s1,s2,rfl⟩:=hy.shape
 have hxy:x*y=mkRat (x.num*y.num) (x.den*y.den):=Rat.mul_def' x y
 have b1:(x.num*y.num).natAbs<2^(k+m):=by rw [Int.natAbs_mul,Nat.pow_add];exact Nat.mul_lt_mul'' hk.1 hm.1
 have b2:x.den*y.den<2^(k+m):=by rw [Nat.pow_add];exact Nat.mul_lt_mul'' hk.2 hm.2
 have q1:=af hk.1
 have q2:=af hk.2
 have q3:=af hm.1
 have q4:=af hm.2
 have q5:=af b1
 have q6:=af b2
 refine x_ r0 r1 r2 s0 s1 s2 V _ ⟨fun hr=>⟨fun _ _=>True,⟨fun hs=>?_,fun _=>⟨(),by (try dsimp only);and_intros<;>trivial,trivial⟩⟩,fun _ V8 l8 _=>⟨rfl,fun V9 l9'=>?_⟩⟩,fun _ V9 l9=>?_⟩
 ·rcases hx with ⟨ex,wx⟩|⟨a,b,p,n,c,p',n',c',ex,-,-,-,-,-,wx⟩
  ·rcases hy with ⟨ey,wy⟩|⟨a,b,p,n,c,p',n',c',ey,-,-,-,-,-,wy⟩
   ·simp only [Value.agg.injEq,Array.mk.injEq,List.cons.injEq,Value.int.injEq,Value.pointer.injEq,true_and,and_true] at ex ey
    obtain ⟨rfl,rfl,rfl⟩:=ex
    obtain ⟨rfl,rfl,rfl⟩:=ey
    obtain ⟨So,YL⟩:=wx
    obtain ⟨Sq,YM⟩:=wy
    have dx:=x.den_nz
    have dy:=y.den_nz
    have e1:i64.wrap ((x.den:Int)-1+1)=x.den:=by rw [ay (by omega)];omega
    have e2:i64.wrap ((y.den:Int)-1+1)=y.den:=by rw [ay (by omega)];omega
    rw [e1,e2]
    intro V1 l1
    refine (fI _ _ So Sq).mono ?_
    rintro r V2 l2 ⟨z1,rfl,hz1⟩
    refine ⟨_,_,rfl,fun V3 l3=>(fI _ _ (by omega) (by omega)).mono ?_⟩
    rintro r V4 l4 ⟨z2,rfl,hz2⟩
    refine ⟨_,_,rfl,fun t1=>⟨fun t2 V5 l5=>?_,fun _=>⟨(),by (try dsimp only);and_intros<;>trivial,trivial⟩⟩,fun _=>⟨(),by (try dsimp only);and_intros<;>trivial,trivial⟩⟩
    have t1:=of_decide_eq_true t1
    have t2:=of_decide_eq_true t2
    rw [hz1 t1,hz2 t2]
    have hd:((x.den:Int)*(y.den:Int))=((x.den*y.den:Nat):Int):=(Int.natCast_mul ..).symm
    rw [hd] at t2 ⊢
    refine (nF _ _ t1 (by rwa [Int.natAbs_natCast] at t2) (Nat.mul_ne_zero dx dy)).mono ?_
    rintro r V6 l6 h6
    rw [←hxy] at h6
    obtain ⟨n,d,p,rfl⟩:=h6.shape
    exact ⟨_,_,_,rfl,fun V7 l7=>h6.le l7⟩
   ·simp only [Value.agg.injEq,Array.mk.injEq,List.cons.injEq,Value.int.injEq,Value.pointer.injEq,true_and,and_true] at ey
    obtain ⟨rfl,rfl,rfl⟩:=ey
    cases hs
  ·simp only [Value.agg.injEq,Array.mk.injEq,List.cons.injEq,Value.int.injEq,Value.pointer.injEq,true_and,and_true] at ex
   obtain ⟨rfl,rfl,rfl⟩:=ex
   cases hr
 ·have l9:=l8.trans l9'
  refine (fa (hx.le l9) hk (by omega)).mono ?_
  rintro r jk l10 ⟨p1,n1,c1,rfl,g1⟩
  refine ⟨_,_,_,_,rfl,fun jh bK=>(fa (hy.le (l9.trans (l10.trans bK))) hm (by omega)).mono ?_⟩
  rintro r lS cg ⟨p2,n2,c2,rfl,g2⟩
  refine ⟨_,_,_,_,rfl,fun oR cK=>(gI _ _ (g1.le (bK.trans (cg.trans cK))) (g2.le cK) (by omega)).mono ?_⟩
  rintro r mP dN II
  rw [aG,aG] at II
  obtain ⟨p3,n3,c3,rfl,g3⟩:=II
  have IQ:=l9.trans (l10.trans (bK.trans (cg.trans (cK.trans dN))))
  refine ⟨_,_,_,_,rfl,fun lE dF=>(eE (hx.le (IQ.trans dF)) hk (by omega)).mono ?_⟩
  rintro r lT dw ⟨p4,n4,c4,rfl,g4⟩
  refine ⟨_,_,_,rfl,fun nk dj=>(eE (hy.le (IQ.trans (dF.trans (dw.trans dj)))) hm (by omega)).mono ?_⟩
  rintro r qn dB ⟨p5,n5,c5,rfl,g5⟩
  refine ⟨_,_,_,rfl,fun tM dI=>(gi (g4.le (dj.trans (dB.trans dI))) (g5.le dI) (by omega)).mono ?_⟩
  rintro r yW fF ⟨p6,n6,c6,rfl,g6⟩
  rw [ae,ae] at g6
  refine ⟨_,_,_,rfl,fun ug fr=>(cA _ (g3.le (dF.trans (dw.trans (dj.trans (dB.trans (dI.trans (fF.trans fr))))))) (g6.le fr) (by omega) (by omega)).mono ?_⟩
  rintro r tN il h22
  rw [aG,ae,←hxy] at h22
  obtain ⟨n,d,p,rfl⟩:=h22.shape
  exact ⟨_,_,_,rfl,fun xl fX=>h22.le fX⟩
 ·skip
  refine (fa (hx.le l9) hk (by omega)).mono ?_
  rintro r jk l10 ⟨p1,n1,c1,rfl,g1⟩
  refine ⟨_,_,_,_,rfl,fun jh bK=>(fa (hy.le (l9.trans (l10.trans bK))) hm (by omega)).mono ?_⟩
  rintro r lS cg ⟨p2,n2,c2,rfl,g2⟩
  refine ⟨_,_,_,_,rfl,fun oR cK=>(gI _ _ (g1.le (bK.trans (cg.trans cK))) (g2.le cK) (by omega)).mono ?_⟩
  rintro r mP dN II
  rw [aG,aG] at II
  obtain ⟨p3,n3,c3,rfl,g3⟩:=II
  have IQ:=l9.trans (l10.trans (bK.trans (cg.trans (cK.trans dN))))
  refine ⟨_,_,_,_,rfl,fun lE dF=>(eE (hx.le (IQ.trans dF)) hk (by omega)).mono ?_⟩
  rintro r lT dw ⟨p4,n4,c4,rfl,g4⟩
  refine ⟨_,_,_,rfl,fun nk dj=>(eE (hy.le (IQ.trans (dF.trans (dw.trans dj)))) hm (by omega)).mono ?_⟩
  rintro r qn dB ⟨p5,n5,c5,rfl,g5⟩
  refine ⟨_,_,_,rfl,fun tM dI=>(gi (g4.le (dj.trans (dB.trans dI))) (g5.le dI) (by omega)).mono ?_⟩
  rintro r yW fF ⟨p6,n6,c6,rfl,g6⟩
  rw [ae,ae] at g6
  refine ⟨_,_,_,rfl,fun ug fr=>(cA _ (g3.le (dF.trans (dw.trans (dj.trans (dB.trans (dI.trans (fF.trans fr))))))) (g6.le fr) (by omega) (by omega)).mono ?_⟩
  rintro r tN il h22
  rw [aG,ae,←hxy] at h22
  obtain ⟨n,d,p,rfl⟩:=h22.shape
  exact ⟨_,_,_,rfl,fun xl fX=>h22.le fX⟩
theorem inv_neg {q:Rat}(h:q.num<0):(q⁻¹).num=-(q.den:Int)/\(q⁻¹).den=q.num.natAbs:=by
 show (Rat.inv q).num=_/\(Rat.inv q).den=_
 unfold Rat.inv
 rw [dif_pos h]
 exact ⟨rfl,rfl⟩
theorem inv_pos {q:Rat}(h:0<q.num):(q⁻¹).num=(q.den:Int)/\(q⁻¹).den=q.num.natAbs:=by
 show (Rat.inv q).num=_/\(Rat.inv q).den=_
 unfold Rat.inv
 rw [dif_neg (by omega),dif_pos h]
 exact ⟨rfl,rfl⟩
theorem inv_zero {q:Rat}(h:q.num=0):q⁻¹=0:=by
 have:q=0:=Rat.num_eq_zero.1 h
 subst this
 exact Rat.inv_zero
theorem dh {k:Nat}{q:Rat}(h:Sz k q):Sz k q⁻¹:=by
 rcases Int.lt_trichotomy q.num 0 with h0|h0|h0
 ·obtain ⟨e1,e2⟩:=inv_neg h0
  refine ⟨?_,?_⟩
  ·rw [e1,Int.natAbs_neg];exact h.2
  ·rw [e2];exact h.1
 ·rw [inv_zero h0]
  exact ⟨Nat.two_pow_pos _,Nat.lt_of_le_of_lt (Nat.pos_of_ne_zero q.den_nz) h.2⟩
 ·obtain ⟨e1,e2⟩:=inv_pos h0
  exact ⟨by rw [e1];exact h.2,by rw [e2];exact h.1⟩
theorem LD {V:View}{v:Value}{q:Rat}(h:RR V v q){k:Nat}(hs:Sz k q)(hk:k<=1099511627776):ab prog 192 #[v] V fun r V'=>RR V' r q⁻¹:=by
 rcases h with ⟨rfl,hw⟩|⟨a,b,p,n,c,p',n',c',rfl,h1,h2,h3,h4,h5,hw⟩
 ·obtain ⟨w1,w2⟩:=hw
  have hd:=q.den_nz
  refine nQ _ _ _ V _ ⟨(fun h0=>nomatch h0),fun _=>⟨fun g V4 l4=>?_,fun g=>⟨fun g2 V5 l5=>?_,fun g2 V6 l6=>?_⟩⟩⟩
  ·have g:=of_decide_eq_true g
   obtain ⟨e1,e2⟩:=inv_neg g
   refine .inl ⟨?_,?_⟩
   ·rw [e1,e2,ay (x:=(q.den:Int)-1+1) (by omega),ay (x:=0-q.num) (by omega),ay (x:=0-((q.den:Int)-1+1)) (by omega),ay (by omega)]
    congr 4
    ·omega
    ·congr 1;omega
   ·unfold Wd;rw [e1,e2,Int.natAbs_neg];exact ⟨w2,w1⟩
  ·have g2:q.num=0:=by simpa using g2
   rw [inv_zero g2]
   exact .inl ⟨rfl,by decide,by decide⟩
  ·have g:¬q.num<0:=of_decide_eq_false g
   have g2:q.num≠0:=by simpa using g2
   obtain ⟨e1,e2⟩:=inv_pos (q:=q) (by omega)
   refine .inl ⟨?_,?_⟩
   ·rw [e1,e2,ay (x:=(q.den:Int)-1+1) (by omega),ay (by omega)]
    congr 4
    ·omega
    ·congr 1;omega
   ·unfold Wd;rw [e1,e2];exact ⟨w2,w1⟩
 ·obtain ⟨rfl,hn⟩:=h4.inv
  have q1:=af hs.1
  have q2:=af hs.2
  refine nQ _ _ _ V _ ⟨fun _=>⟨rfl,rfl,rfl,decide (q.num<0),⟨a.add 0,by simp [ah,Addr.add],h1⟩,rfl,rfl,p',n',c',⟨a.add 2,rfl,h3⟩,rfl,rfl,rfl,p,n,c,⟨a.add 1,by simp [ah,Addr.add],h2⟩,fun V1 l1=>(cA _ (h5.le l1) (hn.le l1) (by omega) (by omega)).mono ?_⟩,fun h0=>nomatch h0⟩
  rintro r V2 l2 h
  have e:mkRat (aY (decide (q.num<0)) (ag q.den)) (val (ag q.num.natAbs))=q⁻¹:=by
   rw [ae]
   have hv:aY (decide (q.num<0)) (ag q.den)=if q.num<0 then -(q.den:Int) else (q.den:Int):=by
    unfold aY
    rw [ae]
    by_cases g:q.num<0<;>simp [g]
   rw [hv]
   rcases Int.lt_trichotomy q.num 0 with h0|h0|h0
   ·obtain ⟨e1,e2⟩:=inv_neg h0
    rw [if_pos h0,←e1,←e2,Rat.mkRat_self]
   ·rw [inv_zero h0,h0];simp
   ·obtain ⟨e1,e2⟩:=inv_pos h0
    rw [if_neg (by omega),←e1,←e2,Rat.mkRat_self]
  rw [e] at h
  obtain ⟨u,v,w,rfl⟩:=h.shape
  exact ⟨_,_,_,rfl,fun V3 l3=>h.le l3⟩
theorem oW {V:View}{v w:Value}{x y:Rat}(hx:RR V v x)(hy:RR V w y){k m:Nat}(hk:Sz k x)(hm:Sz m y)(hkm:k+m<1099511627776) :
  ab prog 147 #[v,w] V fun r V'=>RR V' r (x*y⁻¹):=by
 have hx0:=hx
 have hy0:=hy
 obtain ⟨r0,r1,r2,rfl⟩:=hx.shape
 obtain ⟨s0,s1,s2,rfl⟩:=hy.shape
 refine yd r0 r1 r2 s0 s1 s2 V _ fun V1 l1=>(LD (hy0.le l1) hm (by omega)).mono ?_
 rintro r V2 l2 h2
 have h20:=h2
 obtain ⟨u,v,w,rfl⟩:=h2.shape
 refine ⟨_,_,_,rfl,fun V3 l3=>(e_ (hx0.le (l1.trans (l2.trans l3))) (h20.le l3) hk (dh hm) hkm).mono ?_⟩
 rintro r V4 l4 h4
 have SR:=h4
 obtain ⟨u,v,w,rfl⟩:=h4.shape
 exact ⟨_,_,_,rfl,fun V5 l5=>SR.le l5⟩
def nE (V:View)(v:Value)(x y:Rat):Prop:=∃(x1 x2:Int)(p:OA)(y1 y2:Int)(q:OA),v=.agg #[.int .i64 x1,.int .i64 x2,.pointer p,.int .i64 y1,.int .i64 y2,.pointer q] /\
 RR V (.agg #[.int .i64 x1,.int .i64 x2,.pointer p]) x/\RR V (.agg #[.int .i64 y1,.int .i64 y2,.pointer q]) y
theorem nE.le {V V':View}{v:Value}{x y:Rat}(h:nE V v x y)(l:V.Le V'):nE V' v x y:=by
 obtain ⟨x1,x2,p,y1,y2,q,e,h1,h2⟩:=h
 exact ⟨x1,x2,p,y1,y2,q,e,h1.le l,h2.le l⟩
theorem AG {V:View}{p:Value}{cZ c_:Rat}{q:Value}{jz jA:Rat}(hp:nE V p cZ c_)(hq:nE V q jz jA){k:Nat}(dC:Sz k cZ)(dD:Sz k c_)(jO:Sz k jz)(jP:Sz k jA)(hk:2*k+1<274877906944) :
  ab prog 149 #[p,q] V fun r V'=>nE V' r ((cZ)+(jz)) ((c_)+(jA)):=by
 have hp0:=hp
 obtain ⟨p0,p1,p2,p3,p4,p5,rfl,qS,qT⟩:=hp
 have hq0:=hq
 obtain ⟨q0,q1,q2,q3,q4,q5,rfl,Ff,Fg⟩:=hq
 refine yv p0 p1 p2 p3 p4 p5 q0 q1 q2 q3 q4 q5 V _ fun V1 l1=>(jm (qS.le (l1)) (Ff.le (l1)) dC jO (by omega)).mono ?_
 rintro r V2 l2 g1
 have g10:=g1
 obtain ⟨Pv,Pw,Px,rfl⟩:=g1.shape
 have aX:Sz (2*k+1) ((cZ)+(jz)):=Sz.mono (Sz.add dC jO) (by omega)
 refine ⟨_,_,_,rfl,fun V3 l3=>(jm (qT.le (l1.trans (l2.trans (l3)))) (Fg.le (l1.trans (l2.trans (l3)))) dD jP (by omega)).mono ?_⟩
 rintro r V4 l4 g2
 have g20:=g2
 obtain ⟨Lo,Lp,Lq,rfl⟩:=g2.shape
 have bH:Sz (2*k+1) ((c_)+(jA)):=Sz.mono (Sz.add dD jP) (by omega)
 exact ⟨_,_,_,rfl,fun V5 l5=>⟨_,_,_,_,_,_,rfl,(g10.le (l3.trans (l4.trans (l5)))),(g20.le (l5))⟩⟩
theorem jd {cZ c_ jz jA:Rat}{k:Nat}(dC:Sz k cZ)(dD:Sz k c_)(jO:Sz k jz)(jP:Sz k jA):Sz (2*k+1) ((cZ)+(jz)):=by
 have aX:Sz (2*k+1) ((cZ)+(jz)):=Sz.mono (Sz.add dC jO) (by omega)
 have bH:Sz (2*k+1) ((c_)+(jA)):=Sz.mono (Sz.add dD jP) (by omega)
 exact Sz.mono aX (by omega)
theorem je {cZ c_ jz jA:Rat}{k:Nat}(dC:Sz k cZ)(dD:Sz k c_)(jO:Sz k jz)(jP:Sz k jA):Sz (2*k+1) ((c_)+(jA)):=by
 have aX:Sz (2*k+1) ((cZ)+(jz)):=Sz.mono (Sz.add dC jO) (by omega)
 have bH:Sz (2*k+1) ((c_)+(jA)):=Sz.mono (Sz.add dD jP) (by omega)
 exact Sz.mono bH (by omega)
theorem lY {V:View}{p:Value}{cZ c_:Rat}{c:Value}{Ex:Rat}(hp:nE V p cZ c_)(hc:RR V c Ex){k:Nat}(dC:Sz k cZ)(dD:Sz k c_)(xW:Sz k Ex)(hk:2*k+1<274877906944) :
  ab prog 150 #[p,c] V fun r V'=>nE V' r ((cZ)*(Ex)) ((c_)*(Ex)):=by
 have hp0:=hp
 obtain ⟨p0,p1,p2,p3,p4,p5,rfl,qS,qT⟩:=hp
 have hc0:=hc
 obtain ⟨c0,c1,c2,rfl⟩:=hc.shape
 refine tq p0 p1 p2 p3 p4 p5 c0 c1 c2 V _ fun V1 l1=>(e_ (qS.le (l1)) (hc0.le (l1)) dC xW (by omega)).mono ?_
 rintro r V2 l2 g1
 have g10:=g1
 obtain ⟨Pv,Pw,Px,rfl⟩:=g1.shape
 have aX:Sz (2*k+1) ((cZ)*(Ex)):=Sz.mono (Sz.mul dC xW) (by omega)
 refine ⟨_,_,_,rfl,fun V3 l3=>(e_ (qT.le (l1.trans (l2.trans (l3)))) (hc0.le (l1.trans (l2.trans (l3)))) dD xW (by omega)).mono ?_⟩
 rintro r V4 l4 g2
 have g20:=g2
 obtain ⟨Lo,Lp,Lq,rfl⟩:=g2.shape
 have bH:Sz (2*k+1) ((c_)*(Ex)):=Sz.mono (Sz.mul dD xW) (by omega)
 exact ⟨_,_,_,rfl,fun V5 l5=>⟨_,_,_,_,_,_,rfl,(g10.le (l3.trans (l4.trans (l5)))),(g20.le (l5))⟩⟩
theorem cD {cZ c_ Ex:Rat}{k:Nat}(dC:Sz k cZ)(dD:Sz k c_)(xW:Sz k Ex):Sz (2*k+1) ((cZ)*(Ex)):=by
 have aX:Sz (2*k+1) ((cZ)*(Ex)):=Sz.mono (Sz.mul dC xW) (by omega)
 have bH:Sz (2*k+1) ((c_)*(Ex)):=Sz.mono (Sz.mul dD xW) (by omega)
 exact Sz.mono aX (by omega)
theorem cE {cZ c_ Ex:Rat}{k:Nat}(dC:Sz k cZ)(dD:Sz k c_)(xW:Sz k Ex):Sz (2*k+1) ((c_)*(Ex)):=by
 have aX:Sz (2*k+1) ((cZ)*(Ex)):=Sz.mono (Sz.mul dC xW) (by omega)
 have bH:Sz (2*k+1) ((c_)*(Ex)):=Sz.mono (Sz.mul dD xW) (by omega)
 exact Sz.mono bH (by omega)
theorem kM {V:View}{p:Value}{cZ c_:Rat}{q:Value}{jz jA:Rat}(hp:nE V p cZ c_)(hq:nE V q jz jA){k:Nat}(dC:Sz k cZ)(dD:Sz k c_)(jO:Sz k jz)(jP:Sz k jA)(hk:4*k+3<274877906944) :
  ab prog 144 #[p,q] V fun r V'=>RR V' r (((cZ)*(jz))+((c_)*(jA))):=by
 have hp0:=hp
 obtain ⟨p0,p1,p2,p3,p4,p5,rfl,qS,qT⟩:=hp
 have hq0:=hq
 obtain ⟨q0,q1,q2,q3,q4,q5,rfl,Ff,Fg⟩:=hq
 refine yw p0 p1 p2 p3 p4 p5 q0 q1 q2 q3 q4 q5 V _ fun V1 l1=>(e_ (qS.le (l1)) (Ff.le (l1)) dC jO (by omega)).mono ?_
 rintro r V2 l2 g1
 have g10:=g1
 obtain ⟨Pv,Pw,Px,rfl⟩:=g1.shape
 have aX:Sz (2*k+1) ((cZ)*(jz)):=Sz.mono (Sz.mul dC jO) (by omega)
 refine ⟨_,_,_,rfl,fun V3 l3=>(e_ (qT.le (l1.trans (l2.trans (l3)))) (Fg.le (l1.trans (l2.trans (l3)))) dD jP (by omega)).mono ?_⟩
 rintro r V4 l4 g2
 have g20:=g2
 obtain ⟨Lo,Lp,Lq,rfl⟩:=g2.shape
 have bH:Sz (2*k+1) ((c_)*(jA)):=Sz.mono (Sz.mul dD jP) (by omega)
 refine ⟨_,_,_,rfl,fun V5 l5=>(jm (g10.le (l3.trans (l4.trans (l5)))) (g20.le (l5)) aX bH (by omega)).mono ?_⟩
 rintro r V6 l6 g3
 have kE:=g3
 obtain ⟨NY,NZ,N0,rfl⟩:=g3.shape
 have cM:Sz (4*k+3) (((cZ)*(jz))+((c_)*(jA))):=Sz.mono (Sz.add aX bH) (by omega)
 exact ⟨_,_,_,rfl,fun V7 l7=>(kE.le (l7))⟩
theorem dq {cZ c_ jz jA:Rat}{k:Nat}(dC:Sz k cZ)(dD:Sz k c_)(jO:Sz k jz)(jP:Sz k jA):Sz (4*k+3) (((cZ)*(jz))+((c_)*(jA))):=by
 have aX:Sz (2*k+1) ((cZ)*(jz)):=Sz.mono (Sz.mul dC jO) (by omega)
 have bH:Sz (2*k+1) ((c_)*(jA)):=Sz.mono (Sz.mul dD jP) (by omega)
 have cM:Sz (4*k+3) (((cZ)*(jz))+((c_)*(jA))):=Sz.mono (Sz.add aX bH) (by omega)
 exact Sz.mono cM (by omega)
theorem fJ {V:View}{p:Value}{cZ c_:Rat}{q:Value}{jz jA:Rat}(hp:nE V p cZ c_)(hq:nE V q jz jA){k:Nat}(dC:Sz k cZ)(dD:Sz k c_)(jO:Sz k jz)(jP:Sz k jA)(hk:4*k+3<274877906944) :
  ab prog 136 #[p,q] V fun r V'=>RR V' r (((cZ)*(jA))-((c_)*(jz))):=by
 have hp0:=hp
 obtain ⟨p0,p1,p2,p3,p4,p5,rfl,qS,qT⟩:=hp
 have hq0:=hq
 obtain ⟨q0,q1,q2,q3,q4,q5,rfl,Ff,Fg⟩:=hq
 refine tm p0 p1 p2 p3 p4 p5 q0 q1 q2 q3 q4 q5 V _ fun V1 l1=>(e_ (qS.le (l1)) (Fg.le (l1)) dC jP (by omega)).mono ?_
 rintro r V2 l2 g1
 have g10:=g1
 obtain ⟨Pv,Pw,Px,rfl⟩:=g1.shape
 have aX:Sz (2*k+1) ((cZ)*(jA)):=Sz.mono (Sz.mul dC jP) (by omega)
 refine ⟨_,_,_,rfl,fun V3 l3=>(e_ (qT.le (l1.trans (l2.trans (l3)))) (Ff.le (l1.trans (l2.trans (l3)))) dD jO (by omega)).mono ?_⟩
 rintro r V4 l4 g2
 have g20:=g2
 obtain ⟨Lo,Lp,Lq,rfl⟩:=g2.shape
 have bH:Sz (2*k+1) ((c_)*(jz)):=Sz.mono (Sz.mul dD jO) (by omega)
 refine ⟨_,_,_,rfl,fun V5 l5=>(oX (g10.le (l3.trans (l4.trans (l5)))) (g20.le (l5)) aX bH (by omega)).mono ?_⟩
 rintro r V6 l6 g3
 have kE:=g3
 obtain ⟨NY,NZ,N0,rfl⟩:=g3.shape
 have cM:Sz (4*k+3) (((cZ)*(jA))-((c_)*(jz))):=Sz.mono (Sz.sub aX bH) (by omega)
 exact ⟨_,_,_,rfl,fun V7 l7=>(kE.le (l7))⟩
theorem kD {cZ c_ jz jA:Rat}{k:Nat}(dC:Sz k cZ)(dD:Sz k c_)(jO:Sz k jz)(jP:Sz k jA):Sz (4*k+3) (((cZ)*(jA))-((c_)*(jz))):=by
 have aX:Sz (2*k+1) ((cZ)*(jA)):=Sz.mono (Sz.mul dC jP) (by omega)
 have bH:Sz (2*k+1) ((c_)*(jz)):=Sz.mono (Sz.mul dD jO) (by omega)
 have cM:Sz (4*k+3) (((cZ)*(jA))-((c_)*(jz))):=Sz.mono (Sz.sub aX bH) (by omega)
 exact Sz.mono cM (by omega)
theorem kL {V:View}{l:Value}{az l_1 bL:Rat}(hl:tK V l az l_1 bL){k:Nat}(bo:Sz k az)(bw:Sz k l_1)(br:Sz k bL)(hk:1*k+1<274877906944) :
  ab prog 135 #[l] V fun r V'=>nE V' r (l_1) (-(az)):=by
 have hl0:=hl
 obtain ⟨l0,l1,l2,l3,l4,l5,l6,l7,l8,rfl,pA,pB,qR⟩:=hl
 refine yo l0 l1 l2 l3 l4 l5 l6 l7 l8 V _ fun V1 l1=>(oV (pA.le (l1)) bo (by omega)).mono ?_
 rintro r V2 l2 g1
 have g10:=g1
 obtain ⟨Pv,Pw,Px,rfl⟩:=g1.shape
 have aX:Sz (1*k+0) (-(az)):=Sz.mono (Sz.neg bo) (by omega)
 exact ⟨_,_,_,rfl,fun V3 l3=>⟨_,_,_,_,_,_,rfl,(pB.le (l1.trans (l2.trans (l3)))),(g10.le (l3))⟩⟩
theorem ja {az l_1 bL:Rat}{k:Nat}(bo:Sz k az)(bw:Sz k l_1)(br:Sz k bL):Sz (1*k+0) (l_1):=by
 have aX:Sz (1*k+0) (-(az)):=Sz.mono (Sz.neg bo) (by omega)
 exact Sz.mono bw (by omega)
theorem jc {az l_1 bL:Rat}{k:Nat}(bo:Sz k az)(bw:Sz k l_1)(br:Sz k bL):Sz (1*k+0) (-(az)):=by
 have aX:Sz (1*k+0) (-(az)):=Sz.mono (Sz.neg bo) (by omega)
 exact Sz.mono aX (by omega)
theorem dH {V:View}{l:Value}{az l_1 bL:Rat}(hl:tK V l az l_1 bL){k:Nat}(bo:Sz k az)(bw:Sz k l_1)(br:Sz k bL)(hk:1*k+1<274877906944) :
  ab prog 142 #[l] V fun r V'=>nE V' r (az) (l_1):=by
 have hl0:=hl
 obtain ⟨l0,l1,l2,l3,l4,l5,l6,l7,l8,rfl,pA,pB,qR⟩:=hl
 exact rC l0 l1 l2 l3 l4 l5 l6 l7 l8 V _ fun V1 l1=>⟨_,_,_,_,_,_,rfl,(pA.le (l1)),(pB.le (l1))⟩
theorem cX {az l_1 bL:Rat}{k:Nat}(bo:Sz k az)(bw:Sz k l_1)(br:Sz k bL):Sz (1*k+0) (az):=by
 exact Sz.mono bo (by omega)
theorem cY {az l_1 bL:Rat}{k:Nat}(bo:Sz k az)(bw:Sz k l_1)(br:Sz k bL):Sz (1*k+0) (l_1):=by
 exact Sz.mono bw (by omega)
theorem lX {V:View}{l:Value}{az l_1 bL:Rat}{p:Value}{cZ c_:Rat}(hl:tK V l az l_1 bL)(hp:nE V p cZ c_){k:Nat}(bo:Sz k az)(bw:Sz k l_1)(br:Sz k bL)(dC:Sz k cZ)(dD:Sz k c_)(hk:5*k+4<274877906944) :
  ab prog 146 #[l,p] V fun r V'=>RR V' r ((((az)*(cZ))+((l_1)*(c_)))+(bL)):=by
 have hl0:=hl
 obtain ⟨l0,l1,l2,l3,l4,l5,l6,l7,l8,rfl,pA,pB,qR⟩:=hl
 have hp0:=hp
 obtain ⟨p0,p1,p2,p3,p4,p5,rfl,qS,qT⟩:=hp
 refine tj l0 l1 l2 l3 l4 l5 l6 l7 l8 p0 p1 p2 p3 p4 p5 V _ fun V1 l1=>(dH (hl0.le (l1)) (Sz.mono bo (by omega):Sz (1*k+0) _) (Sz.mono bw (by omega):Sz (1*k+0) _) (Sz.mono br (by omega):Sz (1*k+0) _) (by omega)).mono ?_
 rintro r V2 l2 g1
 have g10:=g1
 obtain ⟨K7,K8,K9,K_,La,Lb,rfl,Jq,Jr⟩:=g1
 have aX:Sz (1*k+0) (az):=Sz.mono ((cX (Sz.mono bo (by omega):Sz (1*k+0) _) (Sz.mono bw (by omega):Sz (1*k+0) _) (Sz.mono br (by omega):Sz (1*k+0) _))) (by omega)
 have b_:Sz (1*k+0) (l_1):=Sz.mono ((cY (Sz.mono bo (by omega):Sz (1*k+0) _) (Sz.mono bw (by omega):Sz (1*k+0) _) (Sz.mono br (by omega):Sz (1*k+0) _))) (by omega)
 refine ⟨_,_,_,_,_,_,rfl,fun V3 l3=>(kM (g10.le (l3)) (hp0.le (l1.trans (l2.trans (l3)))) (Sz.mono aX (by omega):Sz (1*k+0) _) (Sz.mono b_ (by omega):Sz (1*k+0) _) (Sz.mono dC (by omega):Sz (1*k+0) _) (Sz.mono dD (by omega):Sz (1*k+0) _) (by omega)).mono ?_⟩
 rintro r V4 l4 g2
 have g20:=g2
 obtain ⟨Lo,Lp,Lq,rfl⟩:=g2.shape
 have bH:Sz (4*k+3) (((az)*(cZ))+((l_1)*(c_))):=Sz.mono ((dq (Sz.mono aX (by omega):Sz (1*k+0) _) (Sz.mono b_ (by omega):Sz (1*k+0) _) (Sz.mono dC (by omega):Sz (1*k+0) _) (Sz.mono dD (by omega):Sz (1*k+0) _))) (by omega)
 refine ⟨_,_,_,rfl,fun V5 l5=>(jm (g20.le (l5)) (qR.le (l1.trans (l2.trans (l3.trans (l4.trans (l5)))))) bH br (by omega)).mono ?_⟩
 rintro r V6 l6 g3
 have kE:=g3
 obtain ⟨NY,NZ,N0,rfl⟩:=g3.shape
 have cM:Sz (5*k+4) ((((az)*(cZ))+((l_1)*(c_)))+(bL)):=Sz.mono (Sz.add bH br) (by omega)
 exact ⟨_,_,_,rfl,fun V7 l7=>(kE.le (l7))⟩
theorem kC {az l_1 bL cZ c_:Rat}{k:Nat}(bo:Sz k az)(bw:Sz k l_1)(br:Sz k bL)(dC:Sz k cZ)(dD:Sz k c_):Sz (5*k+4) ((((az)*(cZ))+((l_1)*(c_)))+(bL)):=by
 have aX:Sz (1*k+0) (az):=Sz.mono ((cX (Sz.mono bo (by omega):Sz (1*k+0) _) (Sz.mono bw (by omega):Sz (1*k+0) _) (Sz.mono br (by omega):Sz (1*k+0) _))) (by omega)
 have b_:Sz (1*k+0) (l_1):=Sz.mono ((cY (Sz.mono bo (by omega):Sz (1*k+0) _) (Sz.mono bw (by omega):Sz (1*k+0) _) (Sz.mono br (by omega):Sz (1*k+0) _))) (by omega)
 have bH:Sz (4*k+3) (((az)*(cZ))+((l_1)*(c_))):=Sz.mono ((dq (Sz.mono aX (by omega):Sz (1*k+0) _) (Sz.mono b_ (by omega):Sz (1*k+0) _) (Sz.mono dC (by omega):Sz (1*k+0) _) (Sz.mono dD (by omega):Sz (1*k+0) _))) (by omega)
 have cM:Sz (5*k+4) ((((az)*(cZ))+((l_1)*(c_)))+(bL)):=Sz.mono (Sz.add bH br) (by omega)
 exact Sz.mono cM (by omega)
theorem nG {V:View}{l:Value}{az l_1 bL:Rat}(hl:tK V l az l_1 bL){k:Nat}(bo:Sz k az)(bw:Sz k l_1)(br:Sz k bL)(hk:10*k+9<274877906944) :
  ab prog 180 #[l] V fun r V'=>nE V' r ((az)*(((-(bL))*(((az)*(az))+((l_1)*(l_1)))⁻¹))) ((l_1)*(((-(bL))*(((az)*(az))+((l_1)*(l_1)))⁻¹))):=by
 have hl0:=hl
 obtain ⟨l0,l1,l2,l3,l4,l5,l6,l7,l8,rfl,pA,pB,qR⟩:=hl
 refine wE l0 l1 l2 l3 l4 l5 l6 l7 l8 V _ fun V1 l1=>(dH (hl0.le (l1)) (Sz.mono bo (by omega):Sz (1*k+0) _) (Sz.mono bw (by omega):Sz (1*k+0) _) (Sz.mono br (by omega):Sz (1*k+0) _) (by omega)).mono ?_
 rintro r V2 l2 g1
 have g10:=g1
 obtain ⟨K7,K8,K9,K_,La,Lb,rfl,Jq,Jr⟩:=g1
 have aX:Sz (1*k+0) (az):=Sz.mono ((cX (Sz.mono bo (by omega):Sz (1*k+0) _) (Sz.mono bw (by omega):Sz (1*k+0) _) (Sz.mono br (by omega):Sz (1*k+0) _))) (by omega)
 have b_:Sz (1*k+0) (l_1):=Sz.mono ((cY (Sz.mono bo (by omega):Sz (1*k+0) _) (Sz.mono bw (by omega):Sz (1*k+0) _) (Sz.mono br (by omega):Sz (1*k+0) _))) (by omega)
 refine ⟨_,_,_,_,_,_,rfl,fun V3 l3=>(oV (qR.le (l1.trans (l2.trans (l3)))) br (by omega)).mono ?_⟩
 rintro r V4 l4 g2
 have g20:=g2
 obtain ⟨Lo,Lp,Lq,rfl⟩:=g2.shape
 have bH:Sz (1*k+0) (-(bL)):=Sz.mono (Sz.neg br) (by omega)
 refine ⟨_,_,_,rfl,fun V5 l5=>(kM (g10.le (l3.trans (l4.trans (l5)))) (g10.le (l3.trans (l4.trans (l5)))) (Sz.mono aX (by omega):Sz (1*k+0) _) (Sz.mono b_ (by omega):Sz (1*k+0) _) (Sz.mono aX (by omega):Sz (1*k+0) _) (Sz.mono b_ (by omega):Sz (1*k+0) _) (by omega)).mono ?_⟩
 rintro r V6 l6 g3
 have kE:=g3
 obtain ⟨NY,NZ,N0,rfl⟩:=g3.shape
 have cM:Sz (4*k+3) (((az)*(az))+((l_1)*(l_1))):=Sz.mono ((dq (Sz.mono aX (by omega):Sz (1*k+0) _) (Sz.mono b_ (by omega):Sz (1*k+0) _) (Sz.mono aX (by omega):Sz (1*k+0) _) (Sz.mono b_ (by omega):Sz (1*k+0) _))) (by omega)
 refine ⟨_,_,_,rfl,fun V7 l7=>(oW (g20.le (l5.trans (l6.trans (l7)))) (kE.le (l7)) bH cM (by omega)).mono ?_⟩
 rintro r V8 l8 g4
 have E7:=g4
 obtain ⟨WG,WH,WI,rfl⟩:=g4.shape
 have iz:Sz (5*k+4) ((-(bL))*(((az)*(az))+((l_1)*(l_1)))⁻¹):=Sz.mono (Sz.mul bH (dh cM)) (by omega)
 refine ⟨_,_,_,rfl,fun V9 l9=>(lY (g10.le (l3.trans (l4.trans (l5.trans (l6.trans (l7.trans (l8.trans (l9)))))))) (E7.le (l9)) (Sz.mono aX (by omega):Sz (5*k+4) _) (Sz.mono b_ (by omega):Sz (5*k+4) _) (Sz.mono iz (by omega):Sz (5*k+4) _) (by omega)).mono ?_⟩
 rintro r jk l10 g5
 have Js:=g5
 obtain ⟨w4_0,w4_1,w4_2,w4_3,w4_4,w4_5,rfl,T3,T4⟩:=g5
 have mN:Sz (10*k+9) ((az)*(((-(bL))*(((az)*(az))+((l_1)*(l_1)))⁻¹))):=Sz.mono ((cD (Sz.mono aX (by omega):Sz (5*k+4) _) (Sz.mono b_ (by omega):Sz (5*k+4) _) (Sz.mono iz (by omega):Sz (5*k+4) _))) (by omega)
 have PC:Sz (10*k+9) ((l_1)*(((-(bL))*(((az)*(az))+((l_1)*(l_1)))⁻¹))):=Sz.mono ((cE (Sz.mono aX (by omega):Sz (5*k+4) _) (Sz.mono b_ (by omega):Sz (5*k+4) _) (Sz.mono iz (by omega):Sz (5*k+4) _))) (by omega)
 exact ⟨_,_,_,_,_,_,rfl,fun jh bK=>⟨_,_,_,_,_,_,rfl,(T3.le (bK)),(T4.le (bK))⟩⟩
theorem dL {az l_1 bL:Rat}{k:Nat}(bo:Sz k az)(bw:Sz k l_1)(br:Sz k bL):Sz (10*k+9) ((az)*(((-(bL))*(((az)*(az))+((l_1)*(l_1)))⁻¹))):=by
 have aX:Sz (1*k+0) (az):=Sz.mono ((cX (Sz.mono bo (by omega):Sz (1*k+0) _) (Sz.mono bw (by omega):Sz (1*k+0) _) (Sz.mono br (by omega):Sz (1*k+0) _))) (by omega)
 have b_:Sz (1*k+0) (l_1):=Sz.mono ((cY (Sz.mono bo (by omega):Sz (1*k+0) _) (Sz.mono bw (by omega):Sz (1*k+0) _) (Sz.mono br (by omega):Sz (1*k+0) _))) (by omega)
 have bH:Sz (1*k+0) (-(bL)):=Sz.mono (Sz.neg br) (by omega)
 have cM:Sz (4*k+3) (((az)*(az))+((l_1)*(l_1))):=Sz.mono ((dq (Sz.mono aX (by omega):Sz (1*k+0) _) (Sz.mono b_ (by omega):Sz (1*k+0) _) (Sz.mono aX (by omega):Sz (1*k+0) _) (Sz.mono b_ (by omega):Sz (1*k+0) _))) (by omega)
 have iz:Sz (5*k+4) ((-(bL))*(((az)*(az))+((l_1)*(l_1)))⁻¹):=Sz.mono (Sz.mul bH (dh cM)) (by omega)
 have mN:Sz (10*k+9) ((az)*(((-(bL))*(((az)*(az))+((l_1)*(l_1)))⁻¹))):=Sz.mono ((cD (Sz.mono aX (by omega):Sz (5*k+4) _) (Sz.mono b_ (by omega):Sz (5*k+4) _) (Sz.mono iz (by omega):Sz (5*k+4) _))) (by omega)
 have PC:Sz (10*k+9) ((l_1)*(((-(bL))*(((az)*(az))+((l_1)*(l_1)))⁻¹))):=Sz.mono ((cE (Sz.mono aX (by omega):Sz (5*k+4) _) (Sz.mono b_ (by omega):Sz (5*k+4) _) (Sz.mono iz (by omega):Sz (5*k+4) _))) (by omega)
 exact Sz.mono mN (by omega)
theorem dM {az l_1 bL:Rat}{k:Nat}(bo:Sz k az)(bw:Sz k l_1)(br:Sz k bL):Sz (10*k+9) ((l_1)*(((-(bL))*(((az)*(az))+((l_1)*(l_1)))⁻¹))):=by
 have aX:Sz (1*k+0) (az):=Sz.mono ((cX (Sz.mono bo (by omega):Sz (1*k+0) _) (Sz.mono bw (by omega):Sz (1*k+0) _) (Sz.mono br (by omega):Sz (1*k+0) _))) (by omega)
 have b_:Sz (1*k+0) (l_1):=Sz.mono ((cY (Sz.mono bo (by omega):Sz (1*k+0) _) (Sz.mono bw (by omega):Sz (1*k+0) _) (Sz.mono br (by omega):Sz (1*k+0) _))) (by omega)
 have bH:Sz (1*k+0) (-(bL)):=Sz.mono (Sz.neg br) (by omega)
 have cM:Sz (4*k+3) (((az)*(az))+((l_1)*(l_1))):=Sz.mono ((dq (Sz.mono aX (by omega):Sz (1*k+0) _) (Sz.mono b_ (by omega):Sz (1*k+0) _) (Sz.mono aX (by omega):Sz (1*k+0) _) (Sz.mono b_ (by omega):Sz (1*k+0) _))) (by omega)
 have iz:Sz (5*k+4) ((-(bL))*(((az)*(az))+((l_1)*(l_1)))⁻¹):=Sz.mono (Sz.mul bH (dh cM)) (by omega)
 have mN:Sz (10*k+9) ((az)*(((-(bL))*(((az)*(az))+((l_1)*(l_1)))⁻¹))):=Sz.mono ((cD (Sz.mono aX (by omega):Sz (5*k+4) _) (Sz.mono b_ (by omega):Sz (5*k+4) _) (Sz.mono iz (by omega):Sz (5*k+4) _))) (by omega)
 have PC:Sz (10*k+9) ((l_1)*(((-(bL))*(((az)*(az))+((l_1)*(l_1)))⁻¹))):=Sz.mono ((cE (Sz.mono aX (by omega):Sz (5*k+4) _) (Sz.mono b_ (by omega):Sz (5*k+4) _) (Sz.mono iz (by omega):Sz (5*k+4) _))) (by omega)
 exact Sz.mono PC (by omega)
theorem Cy {V:View}{l:Value}{az l_1 bL:Rat}{t:Value}{pZ:Rat}(hl:tK V l az l_1 bL)(ht:RR V t pZ){k:Nat}(bo:Sz k az)(bw:Sz k l_1)(br:Sz k bL)(rf:Sz k pZ)(hk:20*k+19<274877906944) :
  ab prog 132 #[l,t] V fun r V'=>nE V' r ((((az)*(((-(bL))*(((az)*(az))+((l_1)*(l_1)))⁻¹))))+(((l_1)*(pZ)))) ((((l_1)*(((-(bL))*(((az)*(az))+((l_1)*(l_1)))⁻¹))))+((((-(az)))*(pZ)))):=by
 have hl0:=hl
 obtain ⟨l0,l1,l2,l3,l4,l5,l6,l7,l8,rfl,pA,pB,qR⟩:=hl
 have ht0:=ht
 obtain ⟨t0,t1,t2,rfl⟩:=ht.shape
 refine BN l0 l1 l2 l3 l4 l5 l6 l7 l8 t0 t1 t2 V _ fun V1 l1=>(nG (hl0.le (l1)) (Sz.mono bo (by omega):Sz (1*k+0) _) (Sz.mono bw (by omega):Sz (1*k+0) _) (Sz.mono br (by omega):Sz (1*k+0) _) (by omega)).mono ?_
 rintro r V2 l2 g1
 have g10:=g1
 obtain ⟨K7,K8,K9,K_,La,Lb,rfl,Jq,Jr⟩:=g1
 have aX:Sz (10*k+9) ((az)*(((-(bL))*(((az)*(az))+((l_1)*(l_1)))⁻¹))):=Sz.mono ((dL (Sz.mono bo (by omega):Sz (1*k+0) _) (Sz.mono bw (by omega):Sz (1*k+0) _) (Sz.mono br (by omega):Sz (1*k+0) _))) (by omega)
 have b_:Sz (10*k+9) ((l_1)*(((-(bL))*(((az)*(az))+((l_1)*(l_1)))⁻¹))):=Sz.mono ((dM (Sz.mono bo (by omega):Sz (1*k+0) _) (Sz.mono bw (by omega):Sz (1*k+0) _) (Sz.mono br (by omega):Sz (1*k+0) _))) (by omega)
 refine ⟨_,_,_,_,_,_,rfl,fun V3 l3=>(kL (hl0.le (l1.trans (l2.trans (l3)))) (Sz.mono bo (by omega):Sz (1*k+0) _) (Sz.mono bw (by omega):Sz (1*k+0) _) (Sz.mono br (by omega):Sz (1*k+0) _) (by omega)).mono ?_⟩
 rintro r V4 l4 g2
 have g20:=g2
 obtain ⟨Wt,Wu,Wv,Ww,Wx,Wy,rfl,TZ,T0⟩:=g2
 have bH:Sz (1*k+0) (l_1):=Sz.mono ((ja (Sz.mono bo (by omega):Sz (1*k+0) _) (Sz.mono bw (by omega):Sz (1*k+0) _) (Sz.mono br (by omega):Sz (1*k+0) _))) (by omega)
 have tJ:Sz (1*k+0) (-(az)):=Sz.mono ((jc (Sz.mono bo (by omega):Sz (1*k+0) _) (Sz.mono bw (by omega):Sz (1*k+0) _) (Sz.mono br (by omega):Sz (1*k+0) _))) (by omega)
 refine ⟨_,_,_,_,_,_,rfl,fun V5 l5=>(lY (g20.le (l5)) (ht0.le (l1.trans (l2.trans (l3.trans (l4.trans (l5)))))) (Sz.mono bH (by omega):Sz (1*k+0) _) (Sz.mono tJ (by omega):Sz (1*k+0) _) (Sz.mono rf (by omega):Sz (1*k+0) _) (by omega)).mono ?_⟩
 rintro r V6 l6 g3
 have kE:=g3
 obtain ⟨Wz,WA,WB,WC,WD,WE,rfl,Qv,Qw⟩:=g3
 have cM:Sz (2*k+1) ((l_1)*(pZ)):=Sz.mono ((cD (Sz.mono bH (by omega):Sz (1*k+0) _) (Sz.mono tJ (by omega):Sz (1*k+0) _) (Sz.mono rf (by omega):Sz (1*k+0) _))) (by omega)
 have yQ:Sz (2*k+1) (((-(az)))*(pZ)):=Sz.mono ((cE (Sz.mono bH (by omega):Sz (1*k+0) _) (Sz.mono tJ (by omega):Sz (1*k+0) _) (Sz.mono rf (by omega):Sz (1*k+0) _))) (by omega)
 refine ⟨_,_,_,_,_,_,rfl,fun V7 l7=>(AG (g10.le (l3.trans (l4.trans (l5.trans (l6.trans (l7)))))) (kE.le (l7)) (Sz.mono aX (by omega):Sz (10*k+9) _) (Sz.mono b_ (by omega):Sz (10*k+9) _) (Sz.mono cM (by omega):Sz (10*k+9) _) (Sz.mono yQ (by omega):Sz (10*k+9) _) (by omega)).mono ?_⟩
 rintro r V8 l8 g4
 have E7:=g4
 obtain ⟨w3_0,w3_1,w3_2,w3_3,w3_4,w3_5,rfl,T1,T2⟩:=g4
 have iz:Sz (20*k+19) ((((az)*(((-(bL))*(((az)*(az))+((l_1)*(l_1)))⁻¹))))+(((l_1)*(pZ)))):=Sz.mono ((jd (Sz.mono aX (by omega):Sz (10*k+9) _) (Sz.mono b_ (by omega):Sz (10*k+9) _) (Sz.mono cM (by omega):Sz (10*k+9) _) (Sz.mono yQ (by omega):Sz (10*k+9) _))) (by omega)
 have PB:Sz (20*k+19) ((((l_1)*(((-(bL))*(((az)*(az))+((l_1)*(l_1)))⁻¹))))+((((-(az)))*(pZ)))):=Sz.mono ((je (Sz.mono aX (by omega):Sz (10*k+9) _) (Sz.mono b_ (by omega):Sz (10*k+9) _) (Sz.mono cM (by omega):Sz (10*k+9) _) (Sz.mono yQ (by omega):Sz (10*k+9) _))) (by omega)
 exact ⟨_,_,_,_,_,_,rfl,fun V9 l9=>⟨_,_,_,_,_,_,rfl,(T1.le (l9)),(T2.le (l9))⟩⟩
theorem yR {az l_1 bL pZ:Rat}{k:Nat}(bo:Sz k az)(bw:Sz k l_1)(br:Sz k bL)(rf:Sz k pZ):Sz (20*k+19) ((((az)*(((-(bL))*(((az)*(az))+((l_1)*(l_1)))⁻¹))))+(((l_1)*(pZ)))):=by
 have aX:Sz (10*k+9) ((az)*(((-(bL))*(((az)*(az))+((l_1)*(l_1)))⁻¹))):=Sz.mono ((dL (Sz.mono bo (by omega):Sz (1*k+0) _) (Sz.mono bw (by omega):Sz (1*k+0) _) (Sz.mono br (by omega):Sz (1*k+0) _))) (by omega)
 have b_:Sz (10*k+9) ((l_1)*(((-(bL))*(((az)*(az))+((l_1)*(l_1)))⁻¹))):=Sz.mono ((dM (Sz.mono bo (by omega):Sz (1*k+0) _) (Sz.mono bw (by omega):Sz (1*k+0) _) (Sz.mono br (by omega):Sz (1*k+0) _))) (by omega)
 have bH:Sz (1*k+0) (l_1):=Sz.mono ((ja (Sz.mono bo (by omega):Sz (1*k+0) _) (Sz.mono bw (by omega):Sz (1*k+0) _) (Sz.mono br (by omega):Sz (1*k+0) _))) (by omega)
 have tJ:Sz (1*k+0) (-(az)):=Sz.mono ((jc (Sz.mono bo (by omega):Sz (1*k+0) _) (Sz.mono bw (by omega):Sz (1*k+0) _) (Sz.mono br (by omega):Sz (1*k+0) _))) (by omega)
 have cM:Sz (2*k+1) ((l_1)*(pZ)):=Sz.mono ((cD (Sz.mono bH (by omega):Sz (1*k+0) _) (Sz.mono tJ (by omega):Sz (1*k+0) _) (Sz.mono rf (by omega):Sz (1*k+0) _))) (by omega)
 have yQ:Sz (2*k+1) (((-(az)))*(pZ)):=Sz.mono ((cE (Sz.mono bH (by omega):Sz (1*k+0) _) (Sz.mono tJ (by omega):Sz (1*k+0) _) (Sz.mono rf (by omega):Sz (1*k+0) _))) (by omega)
 have iz:Sz (20*k+19) ((((az)*(((-(bL))*(((az)*(az))+((l_1)*(l_1)))⁻¹))))+(((l_1)*(pZ)))):=Sz.mono ((jd (Sz.mono aX (by omega):Sz (10*k+9) _) (Sz.mono b_ (by omega):Sz (10*k+9) _) (Sz.mono cM (by omega):Sz (10*k+9) _) (Sz.mono yQ (by omega):Sz (10*k+9) _))) (by omega)
 have PB:Sz (20*k+19) ((((l_1)*(((-(bL))*(((az)*(az))+((l_1)*(l_1)))⁻¹))))+((((-(az)))*(pZ)))):=Sz.mono ((je (Sz.mono aX (by omega):Sz (10*k+9) _) (Sz.mono b_ (by omega):Sz (10*k+9) _) (Sz.mono cM (by omega):Sz (10*k+9) _) (Sz.mono yQ (by omega):Sz (10*k+9) _))) (by omega)
 exact Sz.mono iz (by omega)
theorem yS {az l_1 bL pZ:Rat}{k:Nat}(bo:Sz k az)(bw:Sz k l_1)(br:Sz k bL)(rf:Sz k pZ):Sz (20*k+19) ((((l_1)*(((-(bL))*(((az)*(az))+((l_1)*(l_1)))⁻¹))))+((((-(az)))*(pZ)))):=by
 have aX:Sz (10*k+9) ((az)*(((-(bL))*(((az)*(az))+((l_1)*(l_1)))⁻¹))):=Sz.mono ((dL (Sz.mono bo (by omega):Sz (1*k+0) _) (Sz.mono bw (by omega):Sz (1*k+0) _) (Sz.mono br (by omega):Sz (1*k+0) _))) (by omega)
 have b_:Sz (10*k+9) ((l_1)*(((-(bL))*(((az)*(az))+((l_1)*(l_1)))⁻¹))):=Sz.mono ((dM (Sz.mono bo (by omega):Sz (1*k+0) _) (Sz.mono bw (by omega):Sz (1*k+0) _) (Sz.mono br (by omega):Sz (1*k+0) _))) (by omega)
 have bH:Sz (1*k+0) (l_1):=Sz.mono ((ja (Sz.mono bo (by omega):Sz (1*k+0) _) (Sz.mono bw (by omega):Sz (1*k+0) _) (Sz.mono br (by omega):Sz (1*k+0) _))) (by omega)
 have tJ:Sz (1*k+0) (-(az)):=Sz.mono ((jc (Sz.mono bo (by omega):Sz (1*k+0) _) (Sz.mono bw (by omega):Sz (1*k+0) _) (Sz.mono br (by omega):Sz (1*k+0) _))) (by omega)
 have cM:Sz (2*k+1) ((l_1)*(pZ)):=Sz.mono ((cD (Sz.mono bH (by omega):Sz (1*k+0) _) (Sz.mono tJ (by omega):Sz (1*k+0) _) (Sz.mono rf (by omega):Sz (1*k+0) _))) (by omega)
 have yQ:Sz (2*k+1) (((-(az)))*(pZ)):=Sz.mono ((cE (Sz.mono bH (by omega):Sz (1*k+0) _) (Sz.mono tJ (by omega):Sz (1*k+0) _) (Sz.mono rf (by omega):Sz (1*k+0) _))) (by omega)
 have iz:Sz (20*k+19) ((((az)*(((-(bL))*(((az)*(az))+((l_1)*(l_1)))⁻¹))))+(((l_1)*(pZ)))):=Sz.mono ((jd (Sz.mono aX (by omega):Sz (10*k+9) _) (Sz.mono b_ (by omega):Sz (10*k+9) _) (Sz.mono cM (by omega):Sz (10*k+9) _) (Sz.mono yQ (by omega):Sz (10*k+9) _))) (by omega)
 have PB:Sz (20*k+19) ((((l_1)*(((-(bL))*(((az)*(az))+((l_1)*(l_1)))⁻¹))))+((((-(az)))*(pZ)))):=Sz.mono ((je (Sz.mono aX (by omega):Sz (10*k+9) _) (Sz.mono b_ (by omega):Sz (10*k+9) _) (Sz.mono cM (by omega):Sz (10*k+9) _) (Sz.mono yQ (by omega):Sz (10*k+9) _))) (by omega)
 exact Sz.mono PB (by omega)
theorem gj {V:View}{v w:Value}{x y:Rat}(hx:RQ V v x)(hy:RQ V w y)(hy0:y.num≠0){k m:Nat}(hk:Sz k x)(hm:Sz m y)(hkm:k+m<274877906944) :
  ab prog 158 #[v,w] V fun r V'=>RQ V' r (x*y⁻¹):=by
 obtain ⟨p,n,c,p',n',c',rfl,hx1,hx2⟩:=hx
 obtain ⟨q,i,e,q',i',e',rfl,hy1,hy2⟩:=hy
 have UO:=dh hm
 have q1:=af hk.1
 have q2:=af hk.2
 have q3:=af hm.1
 have q4:=af UO.1
 have iv:(y⁻¹).num=(if decide (y.num<0)=true then -((y.den:Nat):Int) else ((y.den:Nat):Int))/\(y⁻¹).den=y.num.natAbs:=by
  rcases Int.lt_or_gt_of_ne hy0 with h|h
  ·rw [if_pos (decide_eq_true h)];exact inv_neg h
  ·rw [if_neg (fun hh=>by have:=of_decide_eq_true hh;omega)];exact inv_pos h
 have hxy:x*y⁻¹=mkRat (x.num*(y⁻¹).num) (x.den*(y⁻¹).den):=Rat.mul_def' x y⁻¹
 have b1:(x.num*(y⁻¹).num).natAbs<2^(k+m):=by rw [Int.natAbs_mul];exact bN hk.1 UO.1
 have b2:x.den*(y⁻¹).den<2^(k+m):=bN hk.2 UO.2
 refine Eh _ p n c p' n' c' _ q i e q' i' e' V _ fun V1 l1=>(cQ y _ (hy2.le l1)).mono ?_
 rintro r V2 l2 ⟨p1,n1,c1,rfl,g1⟩
 refine ⟨_,_,_,rfl,fun V3 l3=>(dX _ (g1.le l3)).mono ?_⟩
 rw [←iv.1]
 rintro r V4 l4 ⟨p4,n4,c4,rfl,g4⟩
 refine ⟨_,_,_,_,rfl,fun V5 l5=>(kb x.num (y⁻¹).num (hx1.le (l1.trans (l2.trans (l3.trans (l4.trans l5))))) (g4.le l5) (by omega)).mono ?_⟩
 rintro r V6 l6 ⟨p6,n6,c6,rfl,g6⟩
 have Nx:=l1.trans (l2.trans (l3.trans (l4.trans (l5.trans l6))))
 refine ⟨_,_,_,_,rfl,fun V7 l7=>(cQ x _ (hx2.le (Nx.trans l7))).mono ?_⟩
 rintro r V8 l8 ⟨p8,n8,c8,rfl,g8⟩
 refine ⟨_,_,_,rfl,fun V9 l9=>(cB (g8.le l9) (hy1.le (Nx.trans (l7.trans (l8.trans l9)))) (by omega)).mono ?_⟩
 rintro r jk l10 ⟨G6,n10,c10,rfl,g10⟩
 rw [ae,ae,←iv.2] at g10
 refine ⟨_,_,_,rfl,fun jh bK=>(iN _ (g6.le (l7.trans (l8.trans (l9.trans (l10.trans bK))))) (g10.le bK) (Nat.le_trans (af b1) (by omega)) (Nat.le_trans (af b2) (by omega)) (Nat.mul_ne_zero x.den_nz (y⁻¹).den_nz)).mono ?_⟩
 rw [hxy]
 rintro r tN il ⟨Yr,n21,c21,Ys,n22,Xi,rfl,g21,g22⟩
 exact ⟨_,_,_,_,_,_,_,rfl,fun xl fX=>⟨_,_,_,_,_,_,rfl,g21.le fX,g22.le fX⟩⟩
theorem HJ {V:View}(z:Int){p:OA}{n c:Nat}(h:RD V p n c (ag z.natAbs)) :
  ab prog 156 #[.agg #[.bool (decide (z<0)),.slice p n c]] V fun r V'=>RQ V' r (z:Rat):=
 Gm _ p n c V _ fun V1 l1=>nN (z:=z) (d:=1) rfl rfl (h.le l1) RD.nil rfl
theorem nY {V:View}{v:Value}{q:Rat}(h:RQ V v q){k:Nat}(_s:Sz k q)(_hk:k<=1099511627776):ab prog 57 #[v] V fun r V'=>RQ V' r (-q):=by
 obtain ⟨p,n,c,p',n',c',rfl,h1,h2⟩:=h
 exact kc q h1 h2
theorem bf {V:View}{z:Int}{p:OA}{n c:Nat}(h:RD V p n c (ag z.natAbs)){k:Nat}(_s:Sz k (z:Rat))(_hk:k<=1099511627776) :
  ab prog 156 #[.agg #[.bool (decide (z<0)),.slice p n c]] V fun r V'=>RQ V' r (z:Rat):=HJ z h
theorem fo {V:View}{l:Value}{az l_1 bL:Int}(hl:RL V l az l_1 bL){k:Nat}(bo:Sz k ((az:Int):Rat))(bw:Sz k ((l_1:Int):Rat))(br:Sz k ((bL:Int):Rat))(hk:1*k+1<274877906944) :
  ab prog 87 #[l] V fun r V'=>RP V' r (((l_1:Int):Rat)) (-(((az:Int):Rat))):=by
 have hl0:=hl
 obtain ⟨l0,l1,l2,l3,l4,l5,l6,l7,l8,rfl,pA,pB,qR⟩:=hl
 refine BX _ l0 l1 l2 _ l3 l4 l5 _ l6 l7 l8 V _ fun V1 l1=>(bf (pB.le (l1)) bw (by omega)).mono ?_
 rintro r V2 l2 g1
 have g10:=g1
 obtain ⟨Pv,Pw,Px,YA,YB,YC,rfl⟩:=g1.shape
 have aX:Sz (1*k+0) (((l_1:Int):Rat)):=Sz.mono (bw) (by omega)
 refine ⟨_,_,_,_,_,_,_,rfl,fun V3 l3=>(bf (pA.le (l1.trans (l2.trans (l3)))) bo (by omega)).mono ?_⟩
 rintro r V4 l4 g2
 have g20:=g2
 obtain ⟨Lo,Lp,Lq,Tc,Td,Te,rfl⟩:=g2.shape
 have bH:Sz (1*k+0) (((az:Int):Rat)):=Sz.mono (bo) (by omega)
 refine ⟨_,_,_,_,_,_,_,rfl,fun V5 l5=>(nY (g20.le (l5)) bH (by omega)).mono ?_⟩
 rintro r V6 l6 g3
 have kE:=g3
 obtain ⟨NY,NZ,N0,Tf,Tg,Th,rfl⟩:=g3.shape
 have cM:Sz (1*k+0) (-(((az:Int):Rat))):=Sz.mono (Sz.neg bH) (by omega)
 exact ⟨_,_,_,_,_,_,_,rfl,fun V7 l7=>⟨_,_,_,_,_,_,_,_,_,_,_,_,rfl,(g10.le (l3.trans (l4.trans (l5.trans (l6.trans (l7)))))),(kE.le (l7))⟩⟩
theorem eX {az:Int}{l_1:Int}{bL:Int}{k:Nat}(bo:Sz k ((az:Int):Rat))(bw:Sz k ((l_1:Int):Rat))(br:Sz k ((bL:Int):Rat)):Sz (1*k+0) (((l_1:Int):Rat)):=by
 have aX:Sz (1*k+0) (((l_1:Int):Rat)):=Sz.mono (bw) (by omega)
 have bH:Sz (1*k+0) (((az:Int):Rat)):=Sz.mono (bo) (by omega)
 have cM:Sz (1*k+0) (-(((az:Int):Rat))):=Sz.mono (Sz.neg bH) (by omega)
 exact Sz.mono aX (by omega)
theorem eY {az:Int}{l_1:Int}{bL:Int}{k:Nat}(bo:Sz k ((az:Int):Rat))(bw:Sz k ((l_1:Int):Rat))(br:Sz k ((bL:Int):Rat)):Sz (1*k+0) (-(((az:Int):Rat))):=by
 have aX:Sz (1*k+0) (((l_1:Int):Rat)):=Sz.mono (bw) (by omega)
 have bH:Sz (1*k+0) (((az:Int):Rat)):=Sz.mono (bo) (by omega)
 have cM:Sz (1*k+0) (-(((az:Int):Rat))):=Sz.mono (Sz.neg bH) (by omega)
 exact Sz.mono cM (by omega)
theorem ma {V:View}{p:Value}{cZ c_:Rat}{q:Value}{jz jA:Rat}(hp:RP V p cZ c_)(hq:RP V q jz jA){k:Nat}(dC:Sz k cZ)(dD:Sz k c_)(jO:Sz k jz)(jP:Sz k jA)(hk:4*k+3<274877906944) :
  ab prog 194 #[p,q] V fun r V'=>RQ V' r (((cZ)*(jz))+((c_)*(jA))):=by
 have hp0:=hp
 obtain ⟨p0,p1,p2,p3,p4,p5,p6,p7,p8,p9,G6,Mu,rfl,qS,qT⟩:=hp
 have hq0:=hq
 obtain ⟨q0,q1,q2,q3,q4,q5,q6,q7,q8,q9,Mx,q11,rfl,Ff,Fg⟩:=hq
 refine BZ _ p0 p1 p2 p3 p4 p5 _ p6 p7 p8 p9 G6 Mu _ q0 q1 q2 q3 q4 q5 _ q6 q7 q8 q9 Mx q11 V _ fun V1 l1=>(aN (qS.le (l1)) (Ff.le (l1)) dC jO (by omega)).mono ?_
 rintro r V2 l2 g1
 have g10:=g1
 obtain ⟨Pv,Pw,Px,YA,YB,YC,rfl⟩:=g1.shape
 have aX:Sz (2*k+1) ((cZ)*(jz)):=Sz.mono (Sz.mul dC jO) (by omega)
 refine ⟨_,_,_,_,_,_,_,rfl,fun V3 l3=>(aN (qT.le (l1.trans (l2.trans (l3)))) (Fg.le (l1.trans (l2.trans (l3)))) dD jP (by omega)).mono ?_⟩
 rintro r V4 l4 g2
 have g20:=g2
 obtain ⟨Lo,Lp,Lq,Tc,Td,Te,rfl⟩:=g2.shape
 have bH:Sz (2*k+1) ((c_)*(jA)):=Sz.mono (Sz.mul dD jP) (by omega)
 refine ⟨_,_,_,_,_,_,_,rfl,fun V5 l5=>(cF (g10.le (l3.trans (l4.trans (l5)))) (g20.le (l5)) aX bH (by omega)).mono ?_⟩
 rintro r V6 l6 g3
 have kE:=g3
 obtain ⟨NY,NZ,N0,Tf,Tg,Th,rfl⟩:=g3.shape
 have cM:Sz (4*k+3) (((cZ)*(jz))+((c_)*(jA))):=Sz.mono (Sz.add aX bH) (by omega)
 exact ⟨_,_,_,_,_,_,_,rfl,fun V7 l7=>(kE.le (l7))⟩
theorem eZ {cZ:Rat}{c_:Rat}{jz:Rat}{jA:Rat}{k:Nat}(dC:Sz k cZ)(dD:Sz k c_)(jO:Sz k jz)(jP:Sz k jA):Sz (4*k+3) (((cZ)*(jz))+((c_)*(jA))):=by
 have aX:Sz (2*k+1) ((cZ)*(jz)):=Sz.mono (Sz.mul dC jO) (by omega)
 have bH:Sz (2*k+1) ((c_)*(jA)):=Sz.mono (Sz.mul dD jP) (by omega)
 have cM:Sz (4*k+3) (((cZ)*(jz))+((c_)*(jA))):=Sz.mono (Sz.add aX bH) (by omega)
 exact Sz.mono cM (by omega)
theorem gK {V:View}{l:Value}{az l_1 bL:Int}{p:Value}{cZ c_:Rat}(hl:RL V l az l_1 bL)(hp:RP V p cZ c_){k:Nat}(bo:Sz k ((az:Int):Rat))(bw:Sz k ((l_1:Int):Rat))(br:Sz k ((bL:Int):Rat))(dC:Sz k cZ)(dD:Sz k c_)(hk:5*k+4<274877906944) :
  ab prog 129 #[l,p] V fun r V'=>RQ V' r ((((((az:Int):Rat))*(cZ))+((((l_1:Int):Rat))*(c_)))+(((bL:Int):Rat))):=by
 have hl0:=hl
 obtain ⟨l0,l1,l2,l3,l4,l5,l6,l7,l8,rfl,pA,pB,qR⟩:=hl
 have hp0:=hp
 obtain ⟨p0,p1,p2,p3,p4,p5,p6,p7,p8,p9,G6,Mu,rfl,qS,qT⟩:=hp
 refine wW _ l0 l1 l2 _ l3 l4 l5 _ l6 l7 l8 _ p0 p1 p2 p3 p4 p5 _ p6 p7 p8 p9 G6 Mu V _ fun V1 l1=>(bf (pA.le (l1)) bo (by omega)).mono ?_
 rintro r V2 l2 g1
 have g10:=g1
 obtain ⟨Pv,Pw,Px,YA,YB,YC,rfl⟩:=g1.shape
 have aX:Sz (1*k+0) (((az:Int):Rat)):=Sz.mono (bo) (by omega)
 refine ⟨_,_,_,_,_,_,_,rfl,fun V3 l3=>(aN (g10.le (l3)) (qS.le (l1.trans (l2.trans (l3)))) aX dC (by omega)).mono ?_⟩
 rintro r V4 l4 g2
 have g20:=g2
 obtain ⟨Lo,Lp,Lq,Tc,Td,Te,rfl⟩:=g2.shape
 have bH:Sz (2*k+1) ((((az:Int):Rat))*(cZ)):=Sz.mono (Sz.mul aX dC) (by omega)
 refine ⟨_,_,_,_,_,_,_,rfl,fun V5 l5=>(bf (pB.le (l1.trans (l2.trans (l3.trans (l4.trans (l5)))))) bw (by omega)).mono ?_⟩
 rintro r V6 l6 g3
 have kE:=g3
 obtain ⟨NY,NZ,N0,Tf,Tg,Th,rfl⟩:=g3.shape
 have cM:Sz (1*k+0) (((l_1:Int):Rat)):=Sz.mono (bw) (by omega)
 refine ⟨_,_,_,_,_,_,_,rfl,fun V7 l7=>(aN (kE.le (l7)) (qT.le (l1.trans (l2.trans (l3.trans (l4.trans (l5.trans (l6.trans (l7)))))))) cM dD (by omega)).mono ?_⟩
 rintro r V8 l8 g4
 have E7:=g4
 obtain ⟨WG,WH,WI,YI,YJ,YK,rfl⟩:=g4.shape
 have iz:Sz (2*k+1) ((((l_1:Int):Rat))*(c_)):=Sz.mono (Sz.mul cM dD) (by omega)
 refine ⟨_,_,_,_,_,_,_,rfl,fun V9 l9=>(cF (g20.le (l5.trans (l6.trans (l7.trans (l8.trans (l9)))))) (E7.le (l9)) bH iz (by omega)).mono ?_⟩
 rintro r jk l10 g5
 have Js:=g5
 obtain ⟨w4a,w4b,w4c,w4d,w4e,w4f,rfl⟩:=g5.shape
 have mN:Sz (4*k+3) (((((az:Int):Rat))*(cZ))+((((l_1:Int):Rat))*(c_))):=Sz.mono (Sz.add bH iz) (by omega)
 refine ⟨_,_,_,_,_,_,_,rfl,fun jh bK=>(bf (qR.le (l1.trans (l2.trans (l3.trans (l4.trans (l5.trans (l6.trans (l7.trans (l8.trans (l9.trans (l10.trans (bK)))))))))))) br (by omega)).mono ?_⟩
 rintro r lS cg g6
 have Ox:=g6
 obtain ⟨w5a,w5b,w5c,w5d,w5e,w5f,rfl⟩:=g6.shape
 have B9:Sz (1*k+0) (((bL:Int):Rat)):=Sz.mono (br) (by omega)
 refine ⟨_,_,_,_,_,_,_,rfl,fun oR cK=>(cF (Js.le (bK.trans (cg.trans (cK)))) (Ox.le (cK)) mN B9 (by omega)).mono ?_⟩
 rintro r mP dN g7
 have Jt:=g7
 obtain ⟨w6a,w6b,w6c,w6d,w6e,w6f,rfl⟩:=g7.shape
 have M7:Sz (5*k+4) ((((((az:Int):Rat))*(cZ))+((((l_1:Int):Rat))*(c_)))+(((bL:Int):Rat))):=Sz.mono (Sz.add mN B9) (by omega)
 exact ⟨_,_,_,_,_,_,_,rfl,fun lE dF=>(Jt.le (dF))⟩
theorem xF {V:View}{l:Value}{az l_1 bL:Int}{p:Value}{cZ c_:Rat}(hl:RL V l az l_1 bL)(hp:RP V p cZ c_)(hd0:((((((l_1:Int):Rat)))*((((l_1:Int):Rat))))+(((-(((az:Int):Rat))))*((-(((az:Int):Rat)))))).num≠0){k:Nat}(bo:Sz k ((az:Int):Rat))(bw:Sz k ((l_1:Int):Rat))(br:Sz k ((bL:Int):Rat))(dC:Sz k cZ)(dD:Sz k c_)(hk:8*k+7<274877906944) :
  ab prog 154 #[l,p] V fun r V'=>RQ V' r ((((cZ)*((((l_1:Int):Rat))))+((c_)*((-(((az:Int):Rat))))))*((((((l_1:Int):Rat)))*((((l_1:Int):Rat))))+(((-(((az:Int):Rat))))*((-(((az:Int):Rat))))))⁻¹):=by
 have hl0:=hl
 obtain ⟨l0,l1,l2,l3,l4,l5,l6,l7,l8,rfl,pA,pB,qR⟩:=hl
 have hp0:=hp
 obtain ⟨p0,p1,p2,p3,p4,p5,p6,p7,p8,p9,G6,Mu,rfl,qS,qT⟩:=hp
 refine wT _ l0 l1 l2 _ l3 l4 l5 _ l6 l7 l8 _ p0 p1 p2 p3 p4 p5 _ p6 p7 p8 p9 G6 Mu V _ fun V1 l1=>(fo (hl0.le (l1)) (Sz.mono bo (by omega):Sz (1*k+0) _) (Sz.mono bw (by omega):Sz (1*k+0) _) (Sz.mono br (by omega):Sz (1*k+0) _) (by omega)).mono ?_
 rintro r V2 l2 g1
 have g10:=g1
 obtain ⟨K7,K8,K9,K_,La,Lb,Sk,Sl,Sm,Sn,NW,NX,rfl,Jq,Jr⟩:=g1
 have aX:Sz (1*k+0) (((l_1:Int):Rat)):=Sz.mono ((eX (Sz.mono bo (by omega):Sz (1*k+0) _) (Sz.mono bw (by omega):Sz (1*k+0) _) (Sz.mono br (by omega):Sz (1*k+0) _))) (by omega)
 have b_:Sz (1*k+0) (-(((az:Int):Rat))):=Sz.mono ((eY (Sz.mono bo (by omega):Sz (1*k+0) _) (Sz.mono bw (by omega):Sz (1*k+0) _) (Sz.mono br (by omega):Sz (1*k+0) _))) (by omega)
 refine ⟨_,_,_,_,_,_,_,_,_,_,_,_,_,_,rfl,fun V3 l3=>(ma (hp0.le (l1.trans (l2.trans (l3)))) (g10.le (l3)) (Sz.mono dC (by omega):Sz (1*k+0) _) (Sz.mono dD (by omega):Sz (1*k+0) _) (Sz.mono aX (by omega):Sz (1*k+0) _) (Sz.mono b_ (by omega):Sz (1*k+0) _) (by omega)).mono ?_⟩
 rintro r V4 l4 g2
 have g20:=g2
 obtain ⟨Lo,Lp,Lq,Tc,Td,Te,rfl⟩:=g2.shape
 have bH:Sz (4*k+3) (((cZ)*((((l_1:Int):Rat))))+((c_)*((-(((az:Int):Rat)))))):=Sz.mono ((eZ (Sz.mono dC (by omega):Sz (1*k+0) _) (Sz.mono dD (by omega):Sz (1*k+0) _) (Sz.mono aX (by omega):Sz (1*k+0) _) (Sz.mono b_ (by omega):Sz (1*k+0) _))) (by omega)
 refine ⟨_,_,_,_,_,_,_,rfl,fun V5 l5=>(ma (g10.le (l3.trans (l4.trans (l5)))) (g10.le (l3.trans (l4.trans (l5)))) (Sz.mono aX (by omega):Sz (1*k+0) _) (Sz.mono b_ (by omega):Sz (1*k+0) _) (Sz.mono aX (by omega):Sz (1*k+0) _) (Sz.mono b_ (by omega):Sz (1*k+0) _) (by omega)).mono ?_⟩
 rintro r V6 l6 g3
 have kE:=g3
 obtain ⟨NY,NZ,N0,Tf,Tg,Th,rfl⟩:=g3.shape
 have cM:Sz (4*k+3) ((((((l_1:Int):Rat)))*((((l_1:Int):Rat))))+(((-(((az:Int):Rat))))*((-(((az:Int):Rat)))))):=Sz.mono ((eZ (Sz.mono aX (by omega):Sz (1*k+0) _) (Sz.mono b_ (by omega):Sz (1*k+0) _) (Sz.mono aX (by omega):Sz (1*k+0) _) (Sz.mono b_ (by omega):Sz (1*k+0) _))) (by omega)
 refine ⟨_,_,_,_,_,_,_,rfl,fun V7 l7=>(gj (g20.le (l5.trans (l6.trans (l7)))) (kE.le (l7)) hd0 bH cM (by omega)).mono ?_⟩
 rintro r V8 l8 g4
 have E7:=g4
 obtain ⟨WG,WH,WI,YI,YJ,YK,rfl⟩:=g4.shape
 have iz:Sz (8*k+7) ((((cZ)*((((l_1:Int):Rat))))+((c_)*((-(((az:Int):Rat))))))*((((((l_1:Int):Rat)))*((((l_1:Int):Rat))))+(((-(((az:Int):Rat))))*((-(((az:Int):Rat))))))⁻¹):=Sz.mono (Sz.mul bH (dh cM)) (by omega)
 exact ⟨_,_,_,_,_,_,_,rfl,fun V9 l9=>(E7.le (l9))⟩
theorem o_ {V:View}{l:Value}{az l_1 bL:Int}(hl:RL V l az l_1 bL)(hd0:((((((l_1:Int):Rat)))*((((l_1:Int):Rat))))+(((-(((az:Int):Rat))))*((-(((az:Int):Rat)))))).num≠0){k:Nat}(bo:Sz k ((az:Int):Rat))(bw:Sz k ((l_1:Int):Rat))(br:Sz k ((bL:Int):Rat))(hk:6*k+5<274877906944) :
  ab prog 153 #[l] V fun r V'=>RP V' r ((-((((bL:Int):Rat))*((((((l_1:Int):Rat)))*((((l_1:Int):Rat))))+(((-(((az:Int):Rat))))*((-(((az:Int):Rat))))))⁻¹))*(((az:Int):Rat))) ((-((((bL:Int):Rat))*((((((l_1:Int):Rat)))*((((l_1:Int):Rat))))+(((-(((az:Int):Rat))))*((-(((az:Int):Rat))))))⁻¹))*(((l_1:Int):Rat))):=by
 have hl0:=hl
 obtain ⟨l0,l1,l2,l3,l4,l5,l6,l7,l8,rfl,pA,pB,qR⟩:=hl
 refine yD _ l0 l1 l2 _ l3 l4 l5 _ l6 l7 l8 V _ fun V1 l1=>(fo (hl0.le (l1)) (Sz.mono bo (by omega):Sz (1*k+0) _) (Sz.mono bw (by omega):Sz (1*k+0) _) (Sz.mono br (by omega):Sz (1*k+0) _) (by omega)).mono ?_
 rintro r V2 l2 g1
 have g10:=g1
 obtain ⟨K7,K8,K9,K_,La,Lb,Sk,Sl,Sm,Sn,NW,NX,rfl,Jq,Jr⟩:=g1
 have aX:Sz (1*k+0) (((l_1:Int):Rat)):=Sz.mono ((eX (Sz.mono bo (by omega):Sz (1*k+0) _) (Sz.mono bw (by omega):Sz (1*k+0) _) (Sz.mono br (by omega):Sz (1*k+0) _))) (by omega)
 have b_:Sz (1*k+0) (-(((az:Int):Rat))):=Sz.mono ((eY (Sz.mono bo (by omega):Sz (1*k+0) _) (Sz.mono bw (by omega):Sz (1*k+0) _) (Sz.mono br (by omega):Sz (1*k+0) _))) (by omega)
 refine ⟨_,_,_,_,_,_,_,_,_,_,_,_,_,_,rfl,fun V3 l3=>(bf (qR.le (l1.trans (l2.trans (l3)))) br (by omega)).mono ?_⟩
 rintro r V4 l4 g2
 have g20:=g2
 obtain ⟨Lo,Lp,Lq,Tc,Td,Te,rfl⟩:=g2.shape
 have bH:Sz (1*k+0) (((bL:Int):Rat)):=Sz.mono (br) (by omega)
 refine ⟨_,_,_,_,_,_,_,rfl,fun V5 l5=>(ma (g10.le (l3.trans (l4.trans (l5)))) (g10.le (l3.trans (l4.trans (l5)))) (Sz.mono aX (by omega):Sz (1*k+0) _) (Sz.mono b_ (by omega):Sz (1*k+0) _) (Sz.mono aX (by omega):Sz (1*k+0) _) (Sz.mono b_ (by omega):Sz (1*k+0) _) (by omega)).mono ?_⟩
 rintro r V6 l6 g3
 have kE:=g3
 obtain ⟨NY,NZ,N0,Tf,Tg,Th,rfl⟩:=g3.shape
 have cM:Sz (4*k+3) ((((((l_1:Int):Rat)))*((((l_1:Int):Rat))))+(((-(((az:Int):Rat))))*((-(((az:Int):Rat)))))):=Sz.mono ((eZ (Sz.mono aX (by omega):Sz (1*k+0) _) (Sz.mono b_ (by omega):Sz (1*k+0) _) (Sz.mono aX (by omega):Sz (1*k+0) _) (Sz.mono b_ (by omega):Sz (1*k+0) _))) (by omega)
 refine ⟨_,_,_,_,_,_,_,rfl,fun V7 l7=>(gj (g20.le (l5.trans (l6.trans (l7)))) (kE.le (l7)) hd0 bH cM (by omega)).mono ?_⟩
 rintro r V8 l8 g4
 have E7:=g4
 obtain ⟨WG,WH,WI,YI,YJ,YK,rfl⟩:=g4.shape
 have iz:Sz (5*k+4) ((((bL:Int):Rat))*((((((l_1:Int):Rat)))*((((l_1:Int):Rat))))+(((-(((az:Int):Rat))))*((-(((az:Int):Rat))))))⁻¹):=Sz.mono (Sz.mul bH (dh cM)) (by omega)
 refine ⟨_,_,_,_,_,_,_,rfl,fun V9 l9=>(nY (E7.le (l9)) iz (by omega)).mono ?_⟩
 rintro r jk l10 g5
 have Js:=g5
 obtain ⟨w4a,w4b,w4c,w4d,w4e,w4f,rfl⟩:=g5.shape
 have mN:Sz (5*k+4) (-((((bL:Int):Rat))*((((((l_1:Int):Rat)))*((((l_1:Int):Rat))))+(((-(((az:Int):Rat))))*((-(((az:Int):Rat))))))⁻¹)):=Sz.mono (Sz.neg iz) (by omega)
 refine ⟨_,_,_,_,_,_,_,rfl,fun jh bK=>(bf (pA.le (l1.trans (l2.trans (l3.trans (l4.trans (l5.trans (l6.trans (l7.trans (l8.trans (l9.trans (l10.trans (bK)))))))))))) bo (by omega)).mono ?_⟩
 rintro r lS cg g6
 have Ox:=g6
 obtain ⟨w5a,w5b,w5c,w5d,w5e,w5f,rfl⟩:=g6.shape
 have B9:Sz (1*k+0) (((az:Int):Rat)):=Sz.mono (bo) (by omega)
 refine ⟨_,_,_,_,_,_,_,rfl,fun oR cK=>(aN (Js.le (bK.trans (cg.trans (cK)))) (Ox.le (cK)) mN B9 (by omega)).mono ?_⟩
 rintro r mP dN g7
 have Jt:=g7
 obtain ⟨w6a,w6b,w6c,w6d,w6e,w6f,rfl⟩:=g7.shape
 have M7:Sz (6*k+5) ((-((((bL:Int):Rat))*((((((l_1:Int):Rat)))*((((l_1:Int):Rat))))+(((-(((az:Int):Rat))))*((-(((az:Int):Rat))))))⁻¹))*(((az:Int):Rat))):=Sz.mono (Sz.mul mN B9) (by omega)
 refine ⟨_,_,_,_,_,_,_,rfl,fun lE dF=>(bf (pB.le (l1.trans (l2.trans (l3.trans (l4.trans (l5.trans (l6.trans (l7.trans (l8.trans (l9.trans (l10.trans (bK.trans (cg.trans (cK.trans (dN.trans (dF)))))))))))))))) bw (by omega)).mono ?_⟩
 rintro r lT dw g8
 have Qx:=g8
 obtain ⟨w7a,w7b,w7c,w7d,w7e,w7f,rfl⟩:=g8.shape
 have ID:Sz (1*k+0) (((l_1:Int):Rat)):=Sz.mono (bw) (by omega)
 refine ⟨_,_,_,_,_,_,_,rfl,fun nk dj=>(aN (Js.le (bK.trans (cg.trans (cK.trans (dN.trans (dF.trans (dw.trans (dj)))))))) (Qx.le (dj)) mN ID (by omega)).mono ?_⟩
 rintro r qn dB g9
 have T5:=g9
 obtain ⟨w8a,w8b,w8c,w8d,w8e,w8f,rfl⟩:=g9.shape
 have PD:Sz (6*k+5) ((-((((bL:Int):Rat))*((((((l_1:Int):Rat)))*((((l_1:Int):Rat))))+(((-(((az:Int):Rat))))*((-(((az:Int):Rat))))))⁻¹))*(((l_1:Int):Rat))):=Sz.mono (Sz.mul mN ID) (by omega)
 exact ⟨_,_,_,_,_,_,_,rfl,fun tM dI=>⟨_,_,_,_,_,_,_,_,_,_,_,_,rfl,(Jt.le (dF.trans (dw.trans (dj.trans (dB.trans (dI)))))),(T5.le (dI))⟩⟩
theorem xf {az:Int}{l_1:Int}{bL:Int}{k:Nat}(bo:Sz k ((az:Int):Rat))(bw:Sz k ((l_1:Int):Rat))(br:Sz k ((bL:Int):Rat)):Sz (6*k+5) ((-((((bL:Int):Rat))*((((((l_1:Int):Rat)))*((((l_1:Int):Rat))))+(((-(((az:Int):Rat))))*((-(((az:Int):Rat))))))⁻¹))*(((az:Int):Rat))):=by
 have aX:Sz (1*k+0) (((l_1:Int):Rat)):=Sz.mono ((eX (Sz.mono bo (by omega):Sz (1*k+0) _) (Sz.mono bw (by omega):Sz (1*k+0) _) (Sz.mono br (by omega):Sz (1*k+0) _))) (by omega)
 have b_:Sz (1*k+0) (-(((az:Int):Rat))):=Sz.mono ((eY (Sz.mono bo (by omega):Sz (1*k+0) _) (Sz.mono bw (by omega):Sz (1*k+0) _) (Sz.mono br (by omega):Sz (1*k+0) _))) (by omega)
 have bH:Sz (1*k+0) (((bL:Int):Rat)):=Sz.mono (br) (by omega)
 have cM:Sz (4*k+3) ((((((l_1:Int):Rat)))*((((l_1:Int):Rat))))+(((-(((az:Int):Rat))))*((-(((az:Int):Rat)))))):=Sz.mono ((eZ (Sz.mono aX (by omega):Sz (1*k+0) _) (Sz.mono b_ (by omega):Sz (1*k+0) _) (Sz.mono aX (by omega):Sz (1*k+0) _) (Sz.mono b_ (by omega):Sz (1*k+0) _))) (by omega)
 have iz:Sz (5*k+4) ((((bL:Int):Rat))*((((((l_1:Int):Rat)))*((((l_1:Int):Rat))))+(((-(((az:Int):Rat))))*((-(((az:Int):Rat))))))⁻¹):=Sz.mono (Sz.mul bH (dh cM)) (by omega)
 have mN:Sz (5*k+4) (-((((bL:Int):Rat))*((((((l_1:Int):Rat)))*((((l_1:Int):Rat))))+(((-(((az:Int):Rat))))*((-(((az:Int):Rat))))))⁻¹)):=Sz.mono (Sz.neg iz) (by omega)
 have B9:Sz (1*k+0) (((az:Int):Rat)):=Sz.mono (bo) (by omega)
 have M7:Sz (6*k+5) ((-((((bL:Int):Rat))*((((((l_1:Int):Rat)))*((((l_1:Int):Rat))))+(((-(((az:Int):Rat))))*((-(((az:Int):Rat))))))⁻¹))*(((az:Int):Rat))):=Sz.mono (Sz.mul mN B9) (by omega)
 have ID:Sz (1*k+0) (((l_1:Int):Rat)):=Sz.mono (bw) (by omega)
 have PD:Sz (6*k+5) ((-((((bL:Int):Rat))*((((((l_1:Int):Rat)))*((((l_1:Int):Rat))))+(((-(((az:Int):Rat))))*((-(((az:Int):Rat))))))⁻¹))*(((l_1:Int):Rat))):=Sz.mono (Sz.mul mN ID) (by omega)
 exact Sz.mono M7 (by omega)
theorem xg {az:Int}{l_1:Int}{bL:Int}{k:Nat}(bo:Sz k ((az:Int):Rat))(bw:Sz k ((l_1:Int):Rat))(br:Sz k ((bL:Int):Rat)):Sz (6*k+5) ((-((((bL:Int):Rat))*((((((l_1:Int):Rat)))*((((l_1:Int):Rat))))+(((-(((az:Int):Rat))))*((-(((az:Int):Rat))))))⁻¹))*(((l_1:Int):Rat))):=by
 have aX:Sz (1*k+0) (((l_1:Int):Rat)):=Sz.mono ((eX (Sz.mono bo (by omega):Sz (1*k+0) _) (Sz.mono bw (by omega):Sz (1*k+0) _) (Sz.mono br (by omega):Sz (1*k+0) _))) (by omega)
 have b_:Sz (1*k+0) (-(((az:Int):Rat))):=Sz.mono ((eY (Sz.mono bo (by omega):Sz (1*k+0) _) (Sz.mono bw (by omega):Sz (1*k+0) _) (Sz.mono br (by omega):Sz (1*k+0) _))) (by omega)
 have bH:Sz (1*k+0) (((bL:Int):Rat)):=Sz.mono (br) (by omega)
 have cM:Sz (4*k+3) ((((((l_1:Int):Rat)))*((((l_1:Int):Rat))))+(((-(((az:Int):Rat))))*((-(((az:Int):Rat)))))):=Sz.mono ((eZ (Sz.mono aX (by omega):Sz (1*k+0) _) (Sz.mono b_ (by omega):Sz (1*k+0) _) (Sz.mono aX (by omega):Sz (1*k+0) _) (Sz.mono b_ (by omega):Sz (1*k+0) _))) (by omega)
 have iz:Sz (5*k+4) ((((bL:Int):Rat))*((((((l_1:Int):Rat)))*((((l_1:Int):Rat))))+(((-(((az:Int):Rat))))*((-(((az:Int):Rat))))))⁻¹):=Sz.mono (Sz.mul bH (dh cM)) (by omega)
 have mN:Sz (5*k+4) (-((((bL:Int):Rat))*((((((l_1:Int):Rat)))*((((l_1:Int):Rat))))+(((-(((az:Int):Rat))))*((-(((az:Int):Rat))))))⁻¹)):=Sz.mono (Sz.neg iz) (by omega)
 have B9:Sz (1*k+0) (((az:Int):Rat)):=Sz.mono (bo) (by omega)
 have M7:Sz (6*k+5) ((-((((bL:Int):Rat))*((((((l_1:Int):Rat)))*((((l_1:Int):Rat))))+(((-(((az:Int):Rat))))*((-(((az:Int):Rat))))))⁻¹))*(((az:Int):Rat))):=Sz.mono (Sz.mul mN B9) (by omega)
 have ID:Sz (1*k+0) (((l_1:Int):Rat)):=Sz.mono (bw) (by omega)
 have PD:Sz (6*k+5) ((-((((bL:Int):Rat))*((((((l_1:Int):Rat)))*((((l_1:Int):Rat))))+(((-(((az:Int):Rat))))*((-(((az:Int):Rat))))))⁻¹))*(((l_1:Int):Rat))):=Sz.mono (Sz.mul mN ID) (by omega)
 exact Sz.mono PD (by omega)
theorem EX {V:View}{l:Value}{az l_1 bL:Int}{t:Value}{pZ:Rat}(hl:RL V l az l_1 bL)(ht:RQ V t pZ)(hd0:((((((l_1:Int):Rat)))*((((l_1:Int):Rat))))+(((-(((az:Int):Rat))))*((-(((az:Int):Rat)))))).num≠0){k:Nat}(bo:Sz k ((az:Int):Rat))(bw:Sz k ((l_1:Int):Rat))(br:Sz k ((bL:Int):Rat))(rf:Sz k pZ)(hk:18*k+16<274877906944) :
  ab prog 119 #[l,t] V fun r V'=>RP V' r (((-((((bL:Int):Rat))*((((((l_1:Int):Rat)))*((((l_1:Int):Rat))))+(((-(((az:Int):Rat))))*((-(((az:Int):Rat))))))⁻¹))*(((az:Int):Rat)))+(pZ)*(((l_1:Int):Rat))) (((-((((bL:Int):Rat))*((((((l_1:Int):Rat)))*((((l_1:Int):Rat))))+(((-(((az:Int):Rat))))*((-(((az:Int):Rat))))))⁻¹))*(((l_1:Int):Rat)))+(pZ)*(-(((az:Int):Rat)))):=by
 have hl0:=hl
 obtain ⟨l0,l1,l2,l3,l4,l5,l6,l7,l8,rfl,pA,pB,qR⟩:=hl
 have ht0:=ht
 obtain ⟨t0,t1,t2,t3,t4,t5,rfl⟩:=ht.shape
 refine Et _ l0 l1 l2 _ l3 l4 l5 _ l6 l7 l8 _ t0 t1 t2 t3 t4 t5 V _ fun V1 l1=>(o_ (hl0.le (l1)) hd0 (Sz.mono bo (by omega):Sz (1*k+0) _) (Sz.mono bw (by omega):Sz (1*k+0) _) (Sz.mono br (by omega):Sz (1*k+0) _) (by omega)).mono ?_
 rintro r V2 l2 g1
 have g10:=g1
 obtain ⟨K7,K8,K9,K_,La,Lb,Sk,Sl,Sm,Sn,NW,NX,rfl,Jq,Jr⟩:=g1
 have aX:Sz (6*k+5) ((-((((bL:Int):Rat))*((((((l_1:Int):Rat)))*((((l_1:Int):Rat))))+(((-(((az:Int):Rat))))*((-(((az:Int):Rat))))))⁻¹))*(((az:Int):Rat))):=Sz.mono ((xf (Sz.mono bo (by omega):Sz (1*k+0) _) (Sz.mono bw (by omega):Sz (1*k+0) _) (Sz.mono br (by omega):Sz (1*k+0) _))) (by omega)
 have b_:Sz (6*k+5) ((-((((bL:Int):Rat))*((((((l_1:Int):Rat)))*((((l_1:Int):Rat))))+(((-(((az:Int):Rat))))*((-(((az:Int):Rat))))))⁻¹))*(((l_1:Int):Rat))):=Sz.mono ((xg (Sz.mono bo (by omega):Sz (1*k+0) _) (Sz.mono bw (by omega):Sz (1*k+0) _) (Sz.mono br (by omega):Sz (1*k+0) _))) (by omega)
 refine ⟨_,_,_,_,_,_,_,_,_,_,_,_,_,_,rfl,fun V3 l3=>(fo (hl0.le (l1.trans (l2.trans (l3)))) (Sz.mono bo (by omega):Sz (1*k+0) _) (Sz.mono bw (by omega):Sz (1*k+0) _) (Sz.mono br (by omega):Sz (1*k+0) _) (by omega)).mono ?_⟩
 rintro r V4 l4 g2
 have g20:=g2
 obtain ⟨Wt,Wu,Wv,Ww,Wx,Wy,w1_6,w1_7,w1_8,w1_9,YE,YF,rfl,TZ,T0⟩:=g2
 have bH:Sz (1*k+0) (((l_1:Int):Rat)):=Sz.mono ((eX (Sz.mono bo (by omega):Sz (1*k+0) _) (Sz.mono bw (by omega):Sz (1*k+0) _) (Sz.mono br (by omega):Sz (1*k+0) _))) (by omega)
 have tJ:Sz (1*k+0) (-(((az:Int):Rat))):=Sz.mono ((eY (Sz.mono bo (by omega):Sz (1*k+0) _) (Sz.mono bw (by omega):Sz (1*k+0) _) (Sz.mono br (by omega):Sz (1*k+0) _))) (by omega)
 refine ⟨_,_,_,_,_,_,_,_,_,_,_,_,_,_,rfl,fun V5 l5=>(gQ (g10.le (l3.trans (l4.trans (l5)))) (ht0.le (l1.trans (l2.trans (l3.trans (l4.trans (l5)))))) (g20.le (l5)) (Sz.mono aX (by omega):Sz (6*k+5) _) (Sz.mono b_ (by omega):Sz (6*k+5) _) (Sz.mono rf (by omega):Sz (6*k+5) _) (Sz.mono bH (by omega):Sz (6*k+5) _) (Sz.mono tJ (by omega):Sz (6*k+5) _) (by omega)).mono ?_⟩
 rintro r V6 l6 g3
 have kE:=g3
 obtain ⟨Wz,WA,WB,WC,WD,WE,w2_6,w2_7,w2_8,w2_9,YG,YH,rfl,Qv,Qw⟩:=g3
 have cM:Sz (18*k+17) (((-((((bL:Int):Rat))*((((((l_1:Int):Rat)))*((((l_1:Int):Rat))))+(((-(((az:Int):Rat))))*((-(((az:Int):Rat))))))⁻¹))*(((az:Int):Rat)))+(pZ)*(((l_1:Int):Rat))):=Sz.mono (Sz.add (Sz.mono aX (by omega):Sz (6*k+5) _) (Sz.mul (Sz.mono rf (by omega):Sz (6*k+5) _) (Sz.mono bH (by omega):Sz (6*k+5) _))) (by omega)
 have yQ:Sz (18*k+17) (((-((((bL:Int):Rat))*((((((l_1:Int):Rat)))*((((l_1:Int):Rat))))+(((-(((az:Int):Rat))))*((-(((az:Int):Rat))))))⁻¹))*(((l_1:Int):Rat)))+(pZ)*(-(((az:Int):Rat)))):=Sz.mono (Sz.add (Sz.mono b_ (by omega):Sz (6*k+5) _) (Sz.mul (Sz.mono rf (by omega):Sz (6*k+5) _) (Sz.mono tJ (by omega):Sz (6*k+5) _))) (by omega)
 exact ⟨_,_,_,_,_,_,_,_,_,_,_,_,_,_,rfl,fun V7 l7=>⟨_,_,_,_,_,_,_,_,_,_,_,_,rfl,(Qv.le (l7)),(Qw.le (l7))⟩⟩
theorem RA.shape {V:View}{v:Value}{q:Rat}(h:RA V v q):∃b p n c p' n' c',v=.agg #[.bool b,.slice p n c,.slice p' n' c']:=by
 obtain ⟨p,n,c,p',n',c',e,-⟩:=h;exact ⟨_,_,_,_,_,_,_,e⟩
def IU (V:View)(v:Value)(x y:Rat):Prop:=∃b p n c p' n' c' d q m e q' m' e',v=.agg #[.bool b,.slice p n c,.slice p' n' c',.bool d,.slice q m e,.slice q' m' e'] /\
 RA V (.agg #[.bool b,.slice p n c,.slice p' n' c']) x/\RA V (.agg #[.bool d,.slice q m e,.slice q' m' e']) y
theorem IU.le {V V':View}{v:Value}{x y:Rat}(h:IU V v x y)(l:V.Le V'):IU V' v x y:=by
 obtain ⟨b,p,n,c,p',n',c',d,q,m,e,q',m',e',rfl,h1,h2⟩:=h
 exact ⟨_,_,_,_,_,_,_,_,_,_,_,_,_,_,rfl,h1.le l,h2.le l⟩
theorem ER {V:View}{v:Value}{x y:Rat}(h:IU V v x y){k:Nat}(s1:Sz k x)(s2:Sz k y)(hk:k<=1099511627776) :
  ab prog 115 #[v] V fun r V'=>nE V' r x y:=by
 obtain ⟨b,p,n,c,p',n',c',d,q,m,e,q',m',e',rfl,h1,h2⟩:=h
 refine sI b p n c p' n' c' d q m e q' m' e' V _ fun V1 l1=>(zy (h1.le l1) s1 hk).mono ?_
 rintro r V2 l2 g1
 have g10:=g1
 obtain ⟨u,v,w,rfl⟩:=g1.shape
 refine ⟨_,_,_,rfl,fun V3 l3=>(zy (h2.le (l1.trans (l2.trans l3))) s2 hk).mono ?_⟩
 rintro r V4 l4 g2
 have g20:=g2
 obtain ⟨u,v,w,rfl⟩:=g2.shape
 exact ⟨_,_,_,rfl,fun V5 l5=>⟨_,_,_,_,_,_,rfl,g10.le (l3.trans (l4.trans l5)),g20.le l5⟩⟩
theorem AF {V:View}{v:Value}{x y:Rat}(h:nE V v x y){k:Nat}(s1:Sz k x)(s2:Sz k y)(hk:k<=1099511627776) :
  ab prog 80 #[v] V fun r V'=>IU V' r x y:=by
 obtain ⟨p0,p1,p2,p3,p4,p5,rfl,h1,h2⟩:=h
 refine yr p0 p1 p2 p3 p4 p5 V _ fun V1 l1=>(AD (h1.le l1) s1 hk).mono ?_
 rintro r V2 l2 g1
 have g10:=g1
 obtain ⟨_,_,_,_,_,_,_,rfl⟩:=g1.shape
 refine ⟨_,_,_,_,_,_,_,rfl,fun V3 l3=>(AD (h2.le (l1.trans (l2.trans l3))) s2 hk).mono ?_⟩
 rintro r V4 l4 g2
 have g20:=g2
 obtain ⟨_,_,_,_,_,_,_,rfl⟩:=g2.shape
 exact ⟨_,_,_,_,_,_,_,rfl,fun V5 l5=>⟨_,_,_,_,_,_,_,_,_,_,_,_,_,_,rfl,g10.le (l3.trans (l4.trans l5)),g20.le l5⟩⟩
theorem xw {V:View}{l p:Value}{az l_1 bL cZ c_:Rat}(hl:tK V l az l_1 bL)(hp:nE V p cZ c_){k:Nat}(s0:Sz k az)(s1:Sz k l_1)(s2:Sz k bL)(s3:Sz k cZ)(s4:Sz k c_)(hk:16*k+16<274877906944) :
  ab prog 131 #[l,p] V fun r V'=>r=.int .i64 (az*cZ+l_1*c_+bL).num.sign:=by
 have hl0:=hl
 have hp0:=hp
 obtain ⟨a0,a1,a2,a3,a4,a5,a6,a7,a8,rfl,-,-,-⟩:=hl
 obtain ⟨p0,p1,p2,p3,p4,p5,rfl,-,-⟩:=hp
 refine wG a0 a1 a2 a3 a4 a5 a6 a7 a8 p0 p1 p2 p3 p4 p5 V _ fun V1 l1=>(lX (hl0.le l1) (hp0.le l1) s0 s1 s2 s3 s4 (by omega)).mono ?_
 rintro r V2 l2 g
 have g0:=g
 obtain ⟨u,v,w,rfl⟩:=g.shape
 refine ⟨_,_,_,rfl,fun V3 l3=>(eQ (g0.le l3) (kC s0 s1 s2 s3 s4) (by omega)).mono ?_⟩
 rintro r V4 l4 rfl
 exact ⟨_,rfl,fun V5 l5=>rfl⟩
theorem rO {V:View}{v:Value}{q:Rat}(h:RQ V v q){k:Nat}(s:Sz k q)(hk:k<=1099511627776):ab prog 36 #[v] V fun r V'=>RA V' r q:=by
 obtain ⟨p,n,c,p',n',c',rfl,h1,h2⟩:=h
 have q1:=af s.1
 have q2:=af s.2
 refine BU _ p n c p' n' c' V _ fun V1 l1=>(jo ⟨_,_,_,rfl,h1.le l1⟩ (by omega)).mono ?_
 rintro r V2 l2 ⟨p1,n1,c1,rfl,g1⟩
 refine ⟨_,_,_,_,rfl,fun V3 l3=>(cQ q _ (h2.le (l1.trans (l2.trans l3)))).mono ?_⟩
 rintro r V4 l4 ⟨p2,n2,c2,rfl,g2⟩
 refine ⟨_,_,_,rfl,fun V5 l5=>(rN (g2.le l5) (by omega)).mono ?_⟩
 rintro r V6 l6 ⟨p3,n3,c3,rfl,g3⟩
 exact ⟨_,_,_,rfl,fun V7 l7=>⟨_,_,_,_,_,_,rfl,g1.le (l3.trans (l4.trans (l5.trans (l6.trans l7)))),g3.le l7⟩⟩
theorem rR {V:View}{v:Value}{x y:Rat}(h:RP V v x y){k:Nat}(s1:Sz k x)(s2:Sz k y)(hk:k<=1099511627776):ab prog 53 #[v] V fun r V'=>IU V' r x y:=by
 obtain ⟨p1,n1,c1,p2,n2,c2,p3,n3,c3,p4,n4,c4,rfl,h1,h2⟩:=h
 refine B6 _ p1 n1 c1 p2 n2 c2 _ p3 n3 c3 p4 n4 c4 V _ fun V1 l1=>(rO (h1.le l1) s1 hk).mono ?_
 rintro r V2 l2 g1
 have g10:=g1
 obtain ⟨_,_,_,_,_,_,_,rfl⟩:=g1.shape
 refine ⟨_,_,_,_,_,_,_,rfl,fun V3 l3=>(rO (h2.le (l1.trans (l2.trans l3))) s2 hk).mono ?_⟩
 rintro r V4 l4 g2
 have g20:=g2
 obtain ⟨_,_,_,_,_,_,_,rfl⟩:=g2.shape
 exact ⟨_,_,_,_,_,_,_,rfl,fun V5 l5=>⟨_,_,_,_,_,_,_,_,_,_,_,_,_,_,rfl,g10.le (l3.trans (l4.trans l5)),g20.le l5⟩⟩
theorem nJ {V:View}{v w:Value}{x y:Rat}(hx:RA V v x)(hy:RA V w y){k:Nat}(s:Sz k x)(hk:k<=1099511627776) :
  ab prog 35 #[v,w] V fun r V'=>r=.bool (decide (x=y)):=by
 obtain ⟨p,n,c,p',n',c',rfl,h1,h2⟩:=hx
 obtain ⟨q,m,e,q',m',e',rfl,h3,h4⟩:=hy
 have q1:=af s.1
 have q2:=af s.2
 refine wQ _ p n c p' n' c' _ q m e q' m' e' V _ fun V1 l1=>(gJ (h1.le l1) (h3.le l1) (by omega)).mono ?_
 rintro r V2 l2 rfl
 refine ⟨_,rfl,fun g V3 l3=>(nI (h2.le (l1.trans (l2.trans l3))) (h4.le (l1.trans (l2.trans l3))) (by omega)).mono ?_,fun g V6 l6=>?_⟩
 ·have g:=of_decide_eq_true g
  rintro r V4 l4 rfl
  refine ⟨_,rfl,fun V5 l5=>?_⟩
  have e:ag x.den=ag y.den↔x=y:=⟨fun h=>Rat.ext g (by have:=congrArg val h;rwa [ae,ae] at this),fun h=>by rw [h]⟩
  rw [show decide (ag x.den=ag y.den)=decide (x=y) from by rw [decide_eq_decide];exact e]
 ·have g:=of_decide_eq_false g
  rw [decide_eq_false (fun h=>g (by rw [h]))]
theorem xH {V:View}{v w:Value}{x y x' y':Rat}(h:IU V v x y)(h':IU V w x' y'){k:Nat}(s1:Sz k x)(s2:Sz k y)(hk:k<=1099511627776) :
  ab prog 89 #[v,w] V fun r V'=>r=.bool (decide (x=x'/\y=y')):=by
 obtain ⟨b,p,n,c,p',n',c',d,q,m,e,q',m',e',rfl,h1,h2⟩:=h
 obtain ⟨b1,p1,n1,c1,RH,n1',c1',d1,q1,m1,e1,q1',m1',SM,rfl,h3,h4⟩:=h'
 refine wV b p n c p' n' c' d q m e q' m' e' b1 p1 n1 c1 RH n1' c1' d1 q1 m1 e1 q1' m1' SM V _ fun V1 l1=>(nJ (h1.le l1) (h3.le l1) s1 hk).mono ?_
 rintro r V2 l2 rfl
 refine ⟨_,rfl,fun g V3 l3=>(nJ (h2.le (l1.trans (l2.trans l3))) (h4.le (l1.trans (l2.trans l3))) s2 hk).mono ?_,fun g V6 l6=>?_⟩
 ·have g:=of_decide_eq_true g
  rintro r V4 l4 rfl
  exact ⟨_,rfl,fun V5 l5=>by simp [g]⟩
 ·have g:=of_decide_eq_false g
  simp [g]
def Rk (a b c:Rat):L3:=
 let f:Nat:=a.den*b.den*c.den
 Be (a*((f:Int):Rat)).num (b*((f:Int):Rat)).num (c*((f:Int):Rat)).num
theorem kS {V:View}(n:Int)(d:Nat)(h0:-1000<=n)(h1:n<=1000)(hd0:d≠0)(hd:d<=1000) :
  ab prog 75 #[.int .i64 n,.int .i64 (d:Int)] V fun r V'=>RQ V' r (mkRat n d):=by
 refine Ei n d V _ fun V1 l1=>(zG n (by omega) (by omega)).mono ?_
 rintro r V2 l2 ⟨p,m,c,rfl,g⟩
 rw [aM (by omega)]
 refine ⟨_,_,_,_,rfl,fun V3 l3=>(dA d (by omega)).mono ?_⟩
 rintro r V4 l4 ⟨p2,m2,c2,rfl,g2⟩
 refine ⟨_,_,_,rfl,fun V5 l5=>(iN n (g.le (l3.trans (l4.trans l5))) (g2.le l5) (Nat.le_trans (af (k:=10) (by omega)) (by omega)) (Nat.le_trans (af (k:=10) (by omega)) (by omega)) hd0).mono ?_⟩
 rintro r V6 l6 h
 have h':=h
 obtain ⟨_,_,_,_,_,_,rfl⟩:=h.shape
 exact ⟨_,_,_,_,_,_,_,rfl,fun V7 l7=>h'.le l7⟩
theorem MS:∀x:Fin 9,Sz 10 (mkRat (2*((x.1:Int)-4)+1) 2)/\Sz 10 (mkRat (3*((x.1:Int)-4)+1) 3):=by unfold Sz;decide +kernel
theorem SL {V:View}{tb:Nat}{p:OA}{n c:Nat}{at_:Int}(hr:Hs V p n)(hn:n<=400)(hw:nj V tb p n c at_)(hx:V.X tb)(h0:0<=at_) :
  ab prog 74 #[.pointer (some ⟨tb,0,none⟩)] V fun r V'=>∃(q:Rat)(at':Int),RQ V' r q/\Sz 10 q/\0<=at'/\nj V' tb p n c at':=by
 refine tG tb p n c at_ V _ hw hx fun V1 l1 bk1 e1 h1=>(qA (V:=V1.aV [bk1]) 9 (hr.le fun b o h=>l1 b o h) hn e1 ⟨by simp,h1⟩ h0 (by omega) (by omega)).mono ?_
 rintro r V2 l2 ⟨x,IG,rfl,x0,x1,t1,hw1⟩
 refine ⟨_,rfl,_,_,_,_,hw1,fun V3 l3 TO e3 h3=>(qA (V:=V3.aV [TO]) 6 (hr.le fun b o h=>l3 b o (l2 b o (l1 b o h))) hn e3 ⟨by simp,h3⟩ t1 (by omega) (by omega)).mono ?_⟩
 rintro r V4 l4 ⟨y,at2,rfl,y0,y1,t2,hw2⟩
 obtain ⟨i,rfl⟩:∃i:Nat,x=i:=⟨x.toNat,by omega⟩
 obtain ⟨z1,z2⟩:=MS ⟨i,by omega⟩
 dsimp only at z1 z2
 have w1:i64.wrap ((i:Int)-4)=(i:Int)-4:=ay (by omega)
 have w2:i64.wrap (i64.wrap (2*((i:Int)-4))+1)=2*((i:Int)-4)+1:=by rw [ay (x:=2*((i:Int)-4)) (by omega),ay (by omega)]
 have w3:i64.wrap (i64.wrap (3*((i:Int)-4))+1)=3*((i:Int)-4)+1:=by rw [ay (x:=3*((i:Int)-4)) (by omega),ay (by omega)]
 rw [w1,w2,w3]
 refine ⟨_,rfl,_,_,_,_,hw2,fun _ V5 l5=>(kS (2*((i:Int)-4)+1) 2 (by omega) (by omega) (by omega) (by omega)).mono ?_,fun _=>⟨fun _ V8 l8=>(kS (3*((i:Int)-4)+1) 3 (by omega) (by omega) (by omega) (by omega)).mono ?_,fun _ jh bK=>(dY ((i:Int)-4) (by omega) (by omega)).mono ?_⟩⟩
 ·rintro r V6 l6 h
  have h':=h
  obtain ⟨_,_,_,_,_,_,rfl⟩:=h.shape
  exact ⟨_,_,_,_,_,_,_,rfl,fun V7 l7 e7=>⟨_,at2,h'.le l7,z1,t2,e7⟩⟩
 ·rintro r V6 l6 h
  have h':=h
  obtain ⟨_,_,_,_,_,_,rfl⟩:=h.shape
  exact ⟨_,_,_,_,_,_,_,rfl,fun V7 l7 e7=>⟨_,at2,h'.le l7,z2,t2,e7⟩⟩
 ·rintro r V6 l6 h
  have h':=h
  obtain ⟨_,_,_,_,_,_,rfl⟩:=h.shape
  exact ⟨_,_,_,_,_,_,_,rfl,fun V7 l7 e7=>⟨_,at2,h'.le l7,Ez (by omega),t2,e7⟩⟩
theorem LC {V:View}{tb:Nat}{p:OA}{n c:Nat}{at_:Int}(hr:Hs V p n)(hn:n<=400)(hw:nj V tb p n c at_)(hx:V.X tb)(h0:0<=at_) :
  ab prog 52 #[.pointer (some ⟨tb,0,none⟩)] V fun r V'=>∃(x y:Rat)(at':Int),RP V' r x y/\Sz 10 x/\Sz 10 y/\0<=at'/\nj V' tb p n c at':=by
 refine nC tb p n c at_ V _ hw hx fun V1 l1 bk1 e1 h1=>(SL (V:=V1.aV [bk1]) (hr.le fun b o h=>l1 b o h) hn e1 ⟨by simp,h1⟩ h0).mono ?_
 rintro r V2 l2 ⟨x,IG,hq,sx,t1,hw1⟩
 obtain ⟨p1,n1,c1,p2,n2,c2,rfl,hq1,hq2⟩:=hq
 refine ⟨_,_,_,_,_,_,_,rfl,_,_,_,_,hw1,fun V3 l3 TP e3 h3=>(SL (V:=V3.aV [TP]) (hr.le fun b o h=>l3 b o (l2 b o (l1 b o h))) hn e3 ⟨by simp,h3⟩ t1).mono ?_⟩
 rintro r V4 l4 ⟨y,at2,hq',sy,t2,hw2⟩
 obtain ⟨p3,n3,c3,p4,n4,c4,rfl,hq3,hq4⟩:=hq'
 have kh:∀{V5:View},V4.shut.Le V5->V2.Le V5:=fun l5 b o h=>l5 b o (l4 b o (l3 b o h))
 exact ⟨_,_,_,_,_,_,_,rfl,_,_,_,_,hw2,fun V5 l5 e5=>⟨x,y,at2,⟨_,_,_,_,_,_,_,_,_,_,_,_,rfl,⟨_,_,_,_,_,_,rfl,hq1.le (kh l5),hq2.le (kh l5)⟩,⟨_,_,_,_,_,_,rfl,hq3.le fun b o h=>l5 b o h,hq4.le fun b o h=>l5 b o h⟩⟩,sx,sy,t2,e5⟩⟩
theorem AK {V:View}{l p:Value}{az l_1 bL:Int}{cZ c_:Rat}(hl:RL V l az l_1 bL)(hp:RP V p cZ c_){k:Nat}(s0:Sz k ((az:Int):Rat))(s1:Sz k ((l_1:Int):Rat))(s2:Sz k ((bL:Int):Rat))(s3:Sz k cZ)(s4:Sz k c_)(hk:16*k+16<274877906944) :
  ab prog 76 #[l,p] V fun r V'=>r=.int .i64 ((az:Rat)*cZ+(l_1:Rat)*c_+(bL:Rat)).num.sign:=by
 have hl0:=hl
 have hp0:=hp
 obtain ⟨a0,a1,a2,a3,a4,a5,a6,a7,a8,rfl,-,-,-⟩:=hl
 obtain ⟨p0,p1,p2,p3,p4,p5,p6,p7,p8,p9,G6,Mu,rfl,-,-⟩:=hp
 refine yI _ a0 a1 a2 _ a3 a4 a5 _ a6 a7 a8 _ p0 p1 p2 p3 p4 p5 _ p6 p7 p8 p9 G6 Mu V _ fun V1 l1=>(gK (hl0.le l1) (hp0.le l1) s0 s1 s2 s3 s4 (by omega)).mono ?_
 rintro r V2 l2 ⟨u0,u1,u2,u3,u4,u5,rfl,g1,g2⟩
 refine ⟨_,_,_,_,_,_,_,rfl,fun V3 l3=>(tP _ (g1.le l3)).mono ?_⟩
 rintro r V4 l4 rfl
 exact ⟨_,rfl,fun V5 l5=>rfl⟩
theorem rP {V:View}{l:Value}{a b c:Int}(hl:RL V l a b c):ab prog 41 #[l] V fun r V'=>RL V' r (-a) (-b) (-c):=by
 obtain ⟨a0,a1,a2,a3,a4,a5,a6,a7,a8,rfl,h1,h2,h3⟩:=hl
 refine B0 _ a0 a1 a2 _ a3 a4 a5 _ a6 a7 a8 V _ fun V1 l1=>(gP a (h1.le l1)).mono ?_
 rintro r V2 l2 ⟨p1,n1,c1,rfl,g1⟩
 refine ⟨_,_,_,_,rfl,fun V3 l3=>(gP b (h2.le (l1.trans (l2.trans l3)))).mono ?_⟩
 rintro r V4 l4 ⟨p2,n2,c2,rfl,g2⟩
 refine ⟨_,_,_,_,rfl,fun V5 l5=>(gP c (h3.le (l1.trans (l2.trans (l3.trans (l4.trans l5)))))).mono ?_⟩
 rintro r V6 l6 ⟨p3,n3,c3,rfl,g3⟩
 exact ⟨_,_,_,_,rfl,fun V7 l7=>⟨_,_,_,_,_,_,_,_,_,rfl,g1.le (l3.trans (l4.trans (l5.trans (l6.trans l7)))),g2.le (l5.trans (l6.trans l7)),g3.le l7⟩⟩
end Go.Proofs.Tryz
