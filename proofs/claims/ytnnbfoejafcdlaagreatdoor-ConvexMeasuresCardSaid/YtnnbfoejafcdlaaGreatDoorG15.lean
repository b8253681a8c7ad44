import Derived.Test.YtnnbfoejafcdlaaGreatDoorG14
import Derived.Test.YtnnbfoejafcdlaaGreatDoorG13
import Derived.Test.YtnnbfoejafcdlaaGreatDoorG7
import Derived.Test.YtnnbfoejafcdlaaGreatDoorG5
import Derived.Test.YtnnbfoejafcdlaaGreatDoorG9
import Derived.Laws.IdiomCopy
import Derived.Lib.Overlaps
import Derived.Lib.JoinLaws
import Derived.Lib.AppendZerosOnto
set_option linter.unusedVariables false
open Go.IntKind (i64 u64 u32)
namespace Go.Proofs.Tryz
open Go.bM Go.fR
def Sp.ny (s:Sp)(t:Rat):Prop:=(s.a=true\/s.lo<t)/\(s.b=true\/t<s.hi)
def I6 (ss:List Sp)(t:Rat):Prop:=∃s∈ss,s.ny t
def Sp.jW (s:Sp):Prop:=s.can/\s.emp=false
def Sp.Q5 (s t:Sp):Prop:=s.b=false/\t.a=false/\s.hi<t.lo
def JH (ss:List Sp):Prop:=(∀s∈ss,s.jW)/\ss.Pairwise Sp.Q5
theorem pick (E:List Rat):∀l u:Rat,l<u->∃t,l<t/\t<u/\t∉E:=by
 induction E with
 | nil=>exact fun l u h=>⟨(l+u) / 2,by grind,by grind,by simp⟩
 | cons e r ih=>
  intro l u h
  by_cases c:l<e/\e<u
  ·obtain ⟨t,a,b,d⟩:=ih l e c.1
   refine ⟨t,a,by grind,fun hm=>?_⟩
   rcases List.mem_cons.1 hm with rfl|hm
   ·grind
   ·exact d hm
  ·obtain ⟨t,a,b,d⟩:=ih l u h
   refine ⟨t,a,b,fun hm=>?_⟩
   rcases List.mem_cons.1 hm with rfl|hm
   ·exact c ⟨a,b⟩
   ·exact d hm
theorem D_ {s:Sp}(h:s.emp=false)(ha:s.a=false)(hb:s.b=false):s.lo<s.hi:=by
 rcases Sp.mg.1 h with h|h|h
 ·rw [ha] at h;cases h
 ·rw [hb] at h;cases h
 ·exact h
theorem JH.tail {s:Sp}{r:List Sp}(h:JH (s::r)):JH r:=⟨fun x a=>h.1 x (by simp [a]),(List.pairwise_cons.1 h.2).2⟩
theorem JH.Q5 {s:Sp}{r:List Sp}(h:JH (s::r)){x:Sp}(hx:x∈r):s.Q5 x:=(List.pairwise_cons.1 h.2).1 x hx
set_option linter.unusedSectionVars false
section
variable {s s':Sp} {r r':List Sp} {E:List Rat} (h:JH (s :: r)) (h':JH (s' :: r')) (e:∀t,t ∉ E->I6 (s :: r) t->I6 (s' :: r') t)
include h h' e
end
theorem Sp.ext' {s t:Sp}(h1:s.a=t.a)(h2:s.b=t.b)(h3:s.lo=t.lo)(h4:s.hi=t.hi):s=t:=by
 cases s;cases t;simp at *;exact ⟨h3,h4,h1,h2⟩
end Go.Proofs.Tryz
namespace Go.Proofs.Tryz
open Go.bM Go.fR
theorem row_one {α:Type}{sz:Nat}{R:View->Value->α->Prop}{V:View}{xs:List Value}{a:α}(hx:xs.length=sz)(ha:R V (.agg xs.toArray) a):Row sz R V xs [a]:=by
 refine ⟨fun i b=>?_⟩
 obtain rfl:i=0:=by simpa using b
 exact ⟨xs,hx,ha,fun j x c=>by rw [Nat.zero_mul,Nat.zero_add];exact c⟩
theorem xd {α:Type}{sz:Nat}{R:View->Value->α->Prop}{V:View}{vs:List Value}{ls:List α}(h:Row sz R V vs ls){k:Nat}(hk:k<=ls.length){xs sp:List Value}{a:α}(hx:xs.length=sz)(ha:R V (.agg xs.toArray) a)(hs:0<sz) :
  Row sz R V (vs.take (k*sz)++(xs++(vs.take (ls.length*sz)).drop (k*sz))++sp) (ls.take k++a::ls.drop k):=by
 have v:=h.iM hs
 have q:k*sz<=ls.length*sz:=Nat.mul_le_mul_right _ hk
 have t1:(vs.take (k*sz)).length=k*sz:=by rw [List.length_take];omega
 have t2:((vs.take (ls.length*sz)).drop (k*sz)).length=ls.length*sz-k*sz:=by rw [List.length_drop,List.length_take];omega
 have g:(ls.take k).length=k:=by rw [List.length_take];omega
 refine ⟨fun i r=>?_⟩
 rw [List.append_assoc]
 by_cases s:i<k
 ·have c:i<ls.length:=by omega
  obtain ⟨l,n,o,p⟩:=h.at_ i c
  have e:(ls.take k++a::ls.drop k)[i]=ls[i]:=by rw [List.getElem_append_left (by omega),List.getElem_take]
  refine ⟨l,n,by rw [e];exact o,fun j x b=>?_⟩
  have d:=(List.getElem?_eq_some_iff.1 b).1
  have f:i*sz+j<k*sz:=by
   have:(i+1)*sz<=k*sz:=Nat.mul_le_mul_right _ s
   rw [Nat.succ_mul] at this
   omega
  rw [List.getElem?_append_left (by omega),List.getElem?_take,if_pos f]
  exact p j x b
 ·by_cases t:i=k
  ·subst t
   have e:(ls.take i++a::ls.drop i)[i]=a:=by
    rw [List.getElem_append_right (by omega)]
    simp [g]
   refine ⟨xs,hx,by rw [e];exact ha,fun j x b=>?_⟩
   have d:=(List.getElem?_eq_some_iff.1 b).1
   rw [List.getElem?_append_right (by omega),t1,Nat.add_sub_cancel_left,List.append_assoc,List.getElem?_append_left d]
   exact b
  ·have c:i-1<ls.length:=by
    rw [List.length_append,g,List.length_cons,List.length_drop] at r
    omega
   obtain ⟨l,n,o,p⟩:=h.at_ (i-1) c
   have e:(ls.take k++a::ls.drop k)[i]=ls[i-1]:=by
    rw [List.getElem_append_right (by omega)]
    obtain ⟨m,hm⟩:∃m,i=k+(m+1):=⟨i-k-1,by omega⟩
    subst hm
    simp only [g,Nat.add_sub_cancel_left,List.getElem_cons_succ,List.getElem_drop]
    congr 1
   refine ⟨l,n,by rw [e];exact o,fun j x b=>?_⟩
   have d:=(List.getElem?_eq_some_iff.1 b).1
   obtain ⟨m,hm⟩:∃m,i=k+1+m:=⟨i-k-1,by omega⟩
   subst hm
   have w:(k+1+m)*sz=k*sz+sz+m*sz:=by rw [Nat.add_mul,Nat.add_mul,Nat.one_mul]
   have u:(k+1+m-1)*sz=k*sz+m*sz:=by rw [show k+1+m-1=k+m by omega,Nat.add_mul]
   have:=p j x b
   rw [u] at this
   have f:k*sz+m*sz+j<ls.length*sz:=by
    have:(k+m+1)*sz<=ls.length*sz:=Nat.mul_le_mul_right _ (by omega)
    rw [Nat.add_mul,Nat.add_mul,Nat.one_mul] at this
    omega
   rw [List.getElem?_append_right (by omega),t1,List.append_assoc,List.getElem?_append_right (by omega),hx,List.getElem?_append_left (by omega),List.getElem?_drop,List.getElem?_take,if_pos (by omega)]
   rw [show k*sz+((k+1+m)*sz+j-k*sz-sz)=k*sz+m*sz+j by omega]
   exact this
theorem jK {α:Type}{sz:Nat}{R:View->Value->α->Prop}{V:View}{vs xs sp:List Value}{ls ms:List α}(h:Row sz R V vs ls)(h':Row sz R V xs ms)(hs:0<sz):Row sz R V (vs.take (ls.length*sz)++xs++sp) (ls++ms):=by
 have q:=h.iM hs
 have o:=h'.iM hs
 have n:(vs.take (ls.length*sz)).length=ls.length*sz:=by rw [List.length_take];omega
 refine ⟨fun i p=>?_⟩
 by_cases c:i<ls.length
 ·obtain ⟨d,f,g,k⟩:=h.at_ i c
  refine ⟨d,f,by rw [List.getElem_append_left c];exact g,fun j x a=>?_⟩
  have l:=(List.getElem?_eq_some_iff.1 a).1
  have b:i*sz+j<ls.length*sz:=by
   have:(i+1)*sz<=ls.length*sz:=Nat.mul_le_mul_right _ c
   rw [Nat.succ_mul] at this
   omega
  rw [List.append_assoc,List.getElem?_append_left (by omega),List.getElem?_take,if_pos b]
  exact k j x a
 ·rw [List.length_append] at p
  obtain ⟨m,rfl⟩:∃m,i=ls.length+m:=⟨i-ls.length,by omega⟩
  have hm:m<ms.length:=by omega
  obtain ⟨d,f,g,k⟩:=h'.at_ m hm
  refine ⟨d,f,?_,fun j x a=>?_⟩
  ·have e:(ls++ms)[ls.length+m]=ms[m]:=by rw [List.getElem_append_right (by omega)];simp
   rw [e];exact g
  ·have l:=(List.getElem?_eq_some_iff.1 a).1
   have b:m*sz+j<xs.length:=by
    have:(m+1)*sz<=ms.length*sz:=Nat.mul_le_mul_right _ hm
    rw [Nat.succ_mul] at this
    omega
   rw [List.append_assoc,List.getElem?_append_right (by rw [n,Nat.add_mul];omega),n,Nat.add_mul,List.getElem?_append_left (by omega)]
   rw [show ls.length*sz+m*sz+j-ls.length*sz=m*sz+j by omega]
   exact k j x a
theorem qN {α:Type}{sz:Nat}{R:View->Value->α->Prop}{V:View}{vs:List Value}{al:List α}(h:Row sz R V vs al)(hs:0<sz)(hc:∀xs a,R V (.agg (List.toArray xs)) a->∀v∈xs,v.oneCell'=true){m:Nat}(hm:m<al.length*sz){v:Value}(hv:vs[m]?=some v):v.oneCell'=true:=by
 have d:m / sz<al.length:=Nat.div_lt_of_lt_mul (by rw [Nat.mul_comm];exact hm)
 obtain ⟨xs,e,f,c⟩:=h.at_ (m / sz) d
 have b:m%sz<xs.length:=by rw [e];exact Nat.mod_lt _ hs
 have g:m=m / sz*sz+m%sz:=by rw [Nat.mul_comm];exact (Nat.div_add_mod m sz).symm
 have:=c (m%sz) _ (List.getElem?_eq_getElem b)
 rw [←g,hv] at this
 obtain rfl:=Option.some.inj this
 exact hc xs _ f _ (List.getElem_mem b)
theorem qV:Sz 2 (((2:Int):Rat)):=⟨by show (2:Int).natAbs<_;decide,by show (1:Nat)<_;decide⟩
theorem fO:Sz 2 (((1:Int):Rat)):=⟨by show (1:Int).natAbs<_;decide,by show (1:Nat)<_;decide⟩
theorem lZ {V:View}{v:Value}{x:Rat}(h:RQ V v x){k:Nat}(sx:Sz k x)(hk:k+2<274877906944) :
  ab prog 97 #[v] V fun r V'=>RQ V' r (x*((2:Int):Rat)⁻¹):=by
 have b:=h
 obtain ⟨_,_,_,_,_,_,rfl⟩:=h.shape
 refine E_ _ _ _ _ _ _ _ V _ fun j c=>(eI 2 (by decide) (by decide)).mono ?_
 rintro r V2 d g
 have e:=g
 obtain ⟨_,_,_,_,_,_,rfl⟩:=g.shape
 refine ⟨_,_,_,_,_,_,_,rfl,fun l a=>(hE (b.le (c.trans (d.trans a))) (e.le a) (by show (2:Int)≠0;decide) sx qV hk).mono ?_⟩
 rintro r m n q
 have f:=q
 obtain ⟨_,_,_,_,_,_,rfl⟩:=q.shape
 exact ⟨_,_,_,_,_,_,_,rfl,fun o i=>f.le i⟩
theorem Iy {V:View}{v w:Value}{x y:Rat}(h:RQ V v x)(h':RQ V w y){k:Nat}(sx:Sz k x)(sy:Sz k y)(hk:4*k+4<274877906944) :
  ab prog 55 #[v,w] V fun r V'=>RQ V' r ((x+y)*((2:Int):Rat)⁻¹):=by
 have c:=h
 have a:=h'
 obtain ⟨_,_,_,_,_,_,rfl⟩:=h.shape
 obtain ⟨_,_,_,_,_,_,rfl⟩:=h'.shape
 refine Ha _ _ _ _ _ _ _ _ _ _ _ _ _ _ V _ fun j b=>(cw (c.le b) (a.le b) sx sy (by omega)).mono ?_
 rintro r V2 l g
 have d:=g
 obtain ⟨_,_,_,_,_,_,rfl⟩:=g.shape
 refine ⟨_,_,_,_,_,_,_,rfl,fun m e=>(lZ (d.le e) (sx.add sy) (by omega)).mono ?_⟩
 rintro r n o q
 have f:=q
 obtain ⟨_,_,_,_,_,_,rfl⟩:=q.shape
 exact ⟨_,_,_,_,_,_,_,rfl,fun p i=>f.le i⟩
theorem CD {s:Sp}{k:Nat}(ss:s.sz k):Sz (2*k+10) s.bG:=by
 have z:Sz (2*k+10) (0:Rat):=⟨by show (0:Int).natAbs<_;exact Nat.lt_of_lt_of_le (by decide) (Nat.one_le_two_pow),Nat.one_lt_two_pow (by omega)⟩
 unfold Sp.bG
 split
 ·split
  ·exact z
  ·exact (ss.2.sub fO).mono (by omega)
 ·split
  ·exact (ss.1.add fO).mono (by omega)
  ·exact ((ss.1.add ss.2).mul (cP qV)).mono (by omega)
theorem vJ {V:View}{v:Value}{s:Sp}(h:Fz V v s){k:Nat}(ss:s.sz k)(hk:4*k+4<274877906944) :
  ab prog 120 #[v] V fun r V'=>RQ V' r s.bG:=by
 obtain ⟨b,p,n,c,D,E,F,d,q,m,e,G,H,I,rfl,u,w⟩:=h
 have J:s.a=true->s.b=true->s.bG=0:=fun x y=>by simp [Sp.bG,x,y]
 have K:s.a=true->s.b=false->s.bG=s.hi-((1:Int):Rat):=fun x y=>by simp [Sp.bG,x,y]
 have L:s.a=false->s.b=true->s.bG=s.lo+((1:Int):Rat):=fun x y=>by simp [Sp.bG,x,y]
 have M:s.a=false->s.b=false->s.bG=(s.lo+s.hi)*((2:Int):Rat)⁻¹:=fun x y=>by simp [Sp.bG,x,y]
 have no:∀{P:Prop},s.a=true->s.a=false->P:=fun x y=>by rw [x] at y;cases y
 refine uA b p n c D E F d q m e G H I s.a s.b V _ ⟨fun f=>⟨fun hb N T=>?_,fun hb=>⟨fun _ V2 O=>(eI 1 (by decide) (by decide)).mono ?_,fun e=>no f e⟩⟩,fun f=>⟨fun e=>no e f,fun _=>⟨fun hb U Q=>(eI 1 (by decide) (by decide)).mono ?_,fun hb W z=>(Iy (u.le z) (w.le z) ss.1 ss.2 hk).mono ?_⟩⟩⟩
 ·rw [J f hb]
  have:=RQ.zero (V:=N)
  simpa using this
 ·rw [K f hb]
  rintro r R o g
  have t:=g
  obtain ⟨_,_,_,_,_,_,rfl⟩:=g.shape
  refine ⟨_,_,_,_,_,_,_,rfl,fun S i=>(hJ (w.le (O.trans (o.trans i))) (t.le i) ss.2 fO (by omega)).mono ?_⟩
  rintro r A B q
  have j:=q
  obtain ⟨_,_,_,_,_,_,rfl⟩:=q.shape
  exact ⟨_,_,_,_,_,_,_,rfl,fun C l=>j.le l⟩
 ·rw [L f hb]
  rintro r R o g
  have t:=g
  obtain ⟨_,_,_,_,_,_,rfl⟩:=g.shape
  refine ⟨_,_,_,_,_,_,_,rfl,fun S i=>(cw (u.le (Q.trans (o.trans i))) (t.le i) ss.1 fO (by omega)).mono ?_⟩
  rintro r A B q
  have j:=q
  obtain ⟨_,_,_,_,_,_,rfl⟩:=q.shape
  exact ⟨_,_,_,_,_,_,_,rfl,fun C l=>j.le l⟩
 ·rw [M f hb]
  rintro r A B q
  have j:=q
  obtain ⟨_,_,_,_,_,_,rfl⟩:=q.shape
  exact ⟨_,_,_,_,_,_,_,rfl,fun C l=>j.le l⟩
theorem fy {V:View}{v w:Value}{x y x' y':Rat}(h:RP V v x y)(h':RP V w x' y'){k:Nat}(s1:Sz k x)(s2:Sz k y)(s3:Sz k x')(s4:Sz k y')(hk:4*k+4<274877906944) :
  ab prog 90 #[v,w] V fun r V'=>RQ V' r (x*y'-y*x'):=by
 obtain ⟨_,_,_,_,_,_,_,_,_,_,_,_,rfl,i,j⟩:=h
 obtain ⟨_,_,_,_,_,_,_,_,_,_,_,_,rfl,l,m⟩:=h'
 refine xW _ _ _ _ _ _ _ _ _ _ _ _ _ _ _ _ _ _ _ _ _ _ _ _ _ _ _ _ V _ fun t a=>(aN (i.le a) (m.le a) s1 s4 (by omega)).mono ?_
 rintro r V2 d g
 have n:=g
 obtain ⟨_,_,_,_,_,_,rfl⟩:=g.shape
 refine ⟨_,_,_,_,_,_,_,rfl,fun u b=>(aN (j.le (a.trans (d.trans b))) (l.le (a.trans (d.trans b))) s2 s3 (by omega)).mono ?_⟩
 rintro r z o e
 have c:=e
 obtain ⟨_,_,_,_,_,_,rfl⟩:=e.shape
 refine ⟨_,_,_,_,_,_,_,rfl,fun A f=>(hJ (n.le (b.trans (o.trans f))) (c.le f) (s1.mul s4) (s2.mul s3) (by omega)).mono ?_⟩
 rintro r B C q
 have p:=q
 obtain ⟨_,_,_,_,_,_,rfl⟩:=q.shape
 exact ⟨_,_,_,_,_,_,_,rfl,fun D s=>p.le s⟩
theorem QZ.raw {V:View}{v:Value}{l:L3}{s:Sp}(h:QZ V v l s)(ho:FOk l s){k:Nat}(sl:kN k l)(ss:s.sz k)(hk:k<=1000000):∃f:FW,Ub V v f/\f.ok=true/\f.ln=l/\f.sp=s/\f.short:=by
 obtain ⟨b1,I,J,K,b2,L,M,N,b3,O,P,Q,b,p,n,c,R,S,T,d,q,m,e,U,W,X,rfl,u,w⟩:=h
 obtain ⟨_,_,_,_,_,_,_,_,_,el,x,y,A⟩:=u
 have el:=congrArg Array.toList (Value.agg.inj el)
 simp only [List.cons.injEq,Value.bool.injEq,Value.slice.injEq,and_true] at el
 obtain ⟨rfl,⟨rfl,rfl,rfl⟩,rfl,⟨rfl,rfl,rfl⟩,rfl,rfl,rfl,rfl⟩:=el
 obtain ⟨_,_,_,_,_,_,_,_,_,_,_,_,_,_,es,B,C⟩:=w
 have es:=congrArg Array.toList (Value.agg.inj es)
 simp only [List.cons.injEq,Value.bool.injEq,Value.slice.injEq,and_true] at es
 obtain ⟨rfl,⟨rfl,rfl,rfl⟩,⟨rfl,rfl,rfl⟩,rfl,⟨rfl,rfl,rfl⟩,⟨rfl,rfl,rfl⟩⟩:=es
 obtain ⟨ok,can,emp⟩:=ho
 obtain ⟨Y,us,g,i,D,j,E⟩:=B.raw can.1
 obtain ⟨Z,ws,o,r,F,t,G⟩:=C.raw can.2
 have i1:=i
 have i2:=r
 obtain ⟨_,_,_,_,_,_,f1,-,-⟩:=i1
 obtain ⟨_,_,_,_,_,_,f2,-,-⟩:=i2
 have f1:=congrArg Array.toList (Value.agg.inj f1)
 have f2:=congrArg Array.toList (Value.agg.inj f2)
 simp only [List.cons.injEq,Value.bool.injEq,Value.slice.injEq,and_true] at f1 f2
 obtain ⟨rfl,-⟩:=f1
 obtain ⟨rfl,-⟩:=f2
 have len:∀{z:Int},Sz k (z:Rat)->(ah z.natAbs).length<=1000000:=fun h=>Nat.le_trans (af h.1) hk
 have d1:=E k ss.1
 have d2:=G k ss.2
 refine ⟨⟨decide (l.1<0),ah l.1.natAbs,decide (l.2.1<0),ah l.2.1.natAbs,decide (l.2.2<0),ah l.2.2.natAbs,b,us,g,d,ws,o,s.a,s.b⟩,⟨_,_,_,_,_,_,_,_,_,_,_,_,_,_,_,_,_,_,_,_,_,rfl,⟨_,_,_,_,_,_,_,_,_,rfl,x,y,A⟩,⟨_,_,_,_,_,_,_,_,_,_,_,_,rfl,i,r⟩⟩,?_,?_,?_,⟨len sl.1,len sl.2.1,len sl.2.2,Nat.le_trans d1.1 hk,Nat.le_trans d1.2 hk,Nat.le_trans d2.1 hk,Nat.le_trans d2.2 hk⟩⟩
 ·have H:TQ b us g d ws o s.a s.b=s:=by unfold TQ;rw [j,t]
  unfold FW.ok okW
  dsimp only
  rw [Em,D,F,H,emp]
  show dH l&&true=true
  rw [ok];rfl
 ·unfold FW.ln Z_
  dsimp only
  rw [aG,aG,aG]
 ·unfold FW.sp TQ
  dsimp only
  rw [j,t]
theorem B5 {c:List Rat}{i:Nat}(h:i<c.length):c.getD i 0=c[i]:=by rw [List.getD_eq_getElem?_getD,List.getElem?_eq_getElem h];rfl
def iZ (cuts:List Rat)(i:Nat):Sp:=⟨if 0<i then cuts.getD (i-1) 0 else 0,if i<cuts.length then cuts.getD i 0 else 0,decide (i=0),decide (i=cuts.length)⟩
def KV (out:List Sp)(s:Sp):List Sp:=out.dropLast++[⟨(out.getLastD Sp.zero).lo,s.hi,(out.getLastD Sp.zero).a,s.b⟩]
def gM (cuts:List Rat)(marks:List Bool):Nat->List Sp
 | 0=>[]
 | i+1=>if marks.getD i false=true then (if 0<i/\marks.getD (i-1) false=true/\0<(gM cuts marks i).length then KV (gM cuts marks i) (iZ cuts i) else gM cuts marks i++[iZ cuts i]) else gM cuts marks i
end Go.Proofs.Tryz
namespace Go.Proofs.Tryz
open Go.bM Go.fR
set_option linter.unusedSectionVars false
def rM (c:List Rat):Prop:=c.Pairwise (·< ·)
section
variable {c:List Rat} (h:rM c)
include h
theorem Bw {i j:Nat}(Nh:i<j)(hj:j<c.length):c.getD i 0<c.getD j 0:=by
 rw [B5 (by omega),B5 hj]
 exact List.pairwise_iff_getElem.1 h i j (by omega) hj Nh
omit h
include h
theorem Kl {i:Nat}(hi:i<=c.length):(iZ c i).jW:=by
 refine ⟨⟨fun e=>?_,fun e=>?_⟩,Sp.mg.2 ?_⟩
 ·have e:i=0:=of_decide_eq_true e
  subst e;rfl
 ·have e:i=c.length:=of_decide_eq_true e
  subst e
  exact if_neg (Nat.lt_irrefl _)
 ·by_cases a:i=0
  ·exact .inl (decide_eq_true a)
  ·by_cases b:i=c.length
   ·exact .inr (.inl (decide_eq_true b))
   ·refine .inr (.inr ?_)
    show (if 0<i then c.getD (i-1) 0 else 0)<(if i<c.length then c.getD i 0 else 0)
    rw [if_pos (by omega),if_pos (by omega)]
    exact Bw h (by omega) (by omega)
omit h
end
section
variable {c:List Rat} {ms:List Bool}
structure FI (c:List Rat) (ms:List Bool) (i:Nat):Prop where
 r:JH (gM c ms i)
 mem:∀t,t∉c->(I6 (gM c ms i) t↔∃j,j<i/\ms.getD j false=true/\(iZ c j).ny t)
 top:0<i->i<=c.length->∀s∈gM c ms i,s.b=false/\s.hi<=c.getD (i-1) 0
 str:0<i->i<=c.length->ms.getD (i-1) false=false->∀s∈gM c ms i,s.hi<c.getD (i-1) 0
 last:0<i->i<=c.length->ms.getD (i-1) false=true->∃l0 l,gM c ms i=l0++[l]/\l.hi=c.getD (i-1) 0
theorem sI {ss:List Sp}{s:Sp}{t:Rat}:I6 (ss++[s]) t↔I6 ss t\/s.ny t:=by
 unfold I6
 constructor
 ·rintro ⟨x,a,b⟩
  rcases List.mem_append.1 a with a|a
  ·exact .inl ⟨x,a,b⟩
  ·obtain rfl:x=s:=by simpa using a
   exact .inr b
 ·rintro (⟨x,a,b⟩|b)
  ·exact ⟨x,by simp [a],b⟩
  ·exact ⟨s,by simp,b⟩
theorem EF {ss:List Sp}{s:Sp}(h:JH ss)(hs:s.jW)(hb:∀x∈ss,x.Q5 s):JH (ss++[s]):=by
 refine ⟨fun x a=>?_,List.pairwise_append.2 ⟨h.2,by simp,fun x a y b=>?_⟩⟩
 ·rcases List.mem_append.1 a with a|a
  ·exact h.1 x a
  ·obtain rfl:x=s:=by simpa using a
   exact hs
 ·obtain rfl:y=s:=by simpa using b
  exact hb x a
theorem LM {ss:List Sp}{s:Sp}(h:JH (ss++[s])):JH ss/\s.jW/\∀x∈ss,x.Q5 s:=by
 obtain ⟨b,-,c⟩:=List.pairwise_append.1 h.2
 exact ⟨⟨fun x a=>h.1 x (by simp [a]),b⟩,h.1 s (by simp),fun x a=>c x a s (by simp)⟩
theorem B0 {P:Nat->Prop}{i:Nat}:(∃j,j<i+1/\P j)↔(∃j,j<i/\P j)\/P i:=by
 constructor
 ·rintro ⟨j,b,a⟩
  rcases Nat.lt_or_ge j i with h|h
  ·exact .inl ⟨j,h,a⟩
  ·obtain rfl:j=i:=by omega
   exact .inr a
 ·rintro (⟨j,b,a⟩|a)
  ·exact ⟨j,by omega,a⟩
  ·exact ⟨i,by omega,a⟩
theorem M7 (h:rM c){i:Nat}(hi:i<=c.length)(F:FI c ms i):FI c ms (i+1):=by
 have z:=Kl h hi
 have A:i<c.length->(iZ c i).hi=c.getD i 0:=fun j=>if_pos j
 have B:0<i->(iZ c i).lo=c.getD (i-1) 0:=fun j=>if_pos j
 have C:0<i->(iZ c i).a=false:=fun j=>decide_eq_false (by omega)
 have H:i<c.length->(iZ c i).b=false:=fun j=>decide_eq_false (by omega)
 by_cases hm:ms.getD i false=true
 ·have w:¬ms.getD i false=false:=by rw [hm];decide
  by_cases j:0<i/\ms.getD (i-1) false=true
  ·obtain ⟨I,l,el,E⟩:=F.last j.1 hi j.2
   have e:gM c ms (i+1)=I++[⟨l.lo,(iZ c i).hi,l.a,(iZ c i).b⟩]:=by
    rw [gM,if_pos hm,if_pos ⟨j.1,j.2,by rw [el];simp⟩,el]
    simp [KV]
   have J:=F.r
   rw [el] at J
   obtain ⟨f1,f2,f3⟩:=LM J
   have m:l.b=false:=(F.top j.1 hi l (by rw [el];simp)).1
   have u:(⟨l.lo,(iZ c i).hi,l.a,(iZ c i).b⟩:Sp).jW:=by
    refine ⟨⟨f2.1.1,z.1.2⟩,Sp.mg.2 ?_⟩
    dsimp only
    cases ha:l.a with
    | true=>exact .inl rfl
    | false=>
     cases hb:(iZ c i).b with
     | true=>exact .inr (.inl rfl)
     | false=>
      have n:=D_ f2.2 ha m
      have q:=D_ z.2 (C j.1) hb
      rw [B j.1] at q
      exact .inr (.inr (by grind))
   refine ⟨?_,fun t v=>?_,fun _ d s f=>?_,fun _ d k=>?_,fun _ d _=>?_⟩
   ·rw [e]
    exact EF f1 u fun x k=>⟨(f3 x k).1,(f3 x k).2.1,(f3 x k).2.2⟩
   ·rw [e,B0,←F.mem t v,sI,el,sI,or_assoc]
    refine or_congr Iff.rfl ?_
    have hk:(iZ c i).ny t↔c.getD (i-1) 0<t/\((iZ c i).b=true\/t<(iZ c i).hi):=by
     unfold Sp.ny;rw [C j.1,B j.1];simp
    have K:t≠c.getD (i-1) 0:=by
     rintro rfl
     rw [B5 (by omega)] at v
     exact v (List.getElem_mem _)
    rw [hk]
    show (l.a=true\/l.lo<t)/\((iZ c i).b=true\/t<(iZ c i).hi)↔((l.a=true\/l.lo<t)/\(l.b=true\/t<l.hi))\/_
    rw [E,m]
    have n:l.a=true\/l.lo<c.getD (i-1) 0:=by
     cases ha:l.a with
     | true=>exact .inl rfl
     | false=>have:=D_ f2.2 ha m;rw [E] at this;exact .inr this
    have q:(iZ c i).b=true\/c.getD (i-1) 0<(iZ c i).hi:=by
     cases hb:(iZ c i).b with
     | true=>exact .inl rfl
     | false=>have:=D_ z.2 (C j.1) hb;rw [B j.1] at this;exact .inr this
    constructor
    ·rintro ⟨D,o⟩
     by_cases g:t<c.getD (i-1) 0
     ·exact .inl ⟨D,.inr g⟩
     ·exact .inr ⟨hm,by grind,o⟩
    ·rintro (⟨D,o⟩|⟨-,D,o⟩)
     ·have L:t<c.getD (i-1) 0:=by
       rcases o with o|o
       ·cases o
       ·exact o
      exact ⟨D,q.imp_right fun q=>by grind⟩
     ·exact ⟨n.imp_right fun n=>by grind,o⟩
   ·rw [e] at f
    rw [Nat.add_sub_cancel]
    rcases List.mem_append.1 f with f|f
    ·have b:=f3 s f
     refine ⟨b.1,?_⟩
     have n:l.lo<c.getD (i-1) 0:=by have:=D_ f2.2 b.2.1 m;rwa [E] at this
     have q:=Bw h (show i-1<i by omega) d
     have:=b.2.2
     grind
    ·obtain rfl:s=_:=by simpa using f
     refine ⟨H d,?_⟩
     show (iZ c i).hi<=_
     rw [A d];grind
   ·rw [Nat.add_sub_cancel] at k;exact absurd k w
   ·rw [Nat.add_sub_cancel]
    exact ⟨I,_,e,A d⟩
  ·have e:gM c ms (i+1)=gM c ms i++[iZ c i]:=by
    rw [gM,if_pos hm,if_neg (fun g=>j ⟨g.1,g.2.1⟩)]
   have hb:∀x∈gM c ms i,x.Q5 (iZ c i):=fun x k=>by
    by_cases p:0<i
    ·have G:ms.getD (i-1) false=false:=by
      cases hq:ms.getD (i-1) false with
      | false=>rfl
      | true=>exact absurd ⟨p,hq⟩ j
     exact ⟨(F.top p hi x k).1,C p,by rw [B p];exact F.str p hi G x k⟩
    ·obtain rfl:i=0:=by omega
     cases k
   refine ⟨?_,fun t v=>?_,fun _ d s f=>?_,fun _ d k=>?_,fun _ d _=>?_⟩
   ·rw [e];exact EF F.r z hb
   ·rw [e,B0,←F.mem t v,sI]
    exact or_congr Iff.rfl ⟨fun g=>⟨hm,g⟩,fun g=>g.2⟩
   ·rw [e] at f
    rw [Nat.add_sub_cancel]
    rcases List.mem_append.1 f with f|f
    ·refine ⟨(hb s f).1,?_⟩
     by_cases p:0<i
     ·have n:=(F.top p hi s f).2
      have q:=Bw h (show i-1<i by omega) d
      grind
     ·obtain rfl:i=0:=by omega
      cases f
    ·obtain rfl:s=_:=by simpa using f
     refine ⟨H d,?_⟩
     rw [A d];grind
   ·rw [Nat.add_sub_cancel] at k;exact absurd k w
   ·rw [Nat.add_sub_cancel]
    exact ⟨_,_,e,A d⟩
 ·have e:gM c ms (i+1)=gM c ms i:=by rw [gM,if_neg hm]
  have y:i<c.length->∀s∈gM c ms i,s.b=false/\s.hi<c.getD i 0:=fun d s f=>by
   by_cases p:0<i
   ·obtain ⟨n,q⟩:=F.top p hi s f
    have M:=Bw h (show i-1<i by omega) d
    exact ⟨n,by grind⟩
   ·obtain rfl:i=0:=by omega
    cases f
  refine ⟨by rw [e];exact F.r,fun t v=>?_,fun _ d s f=>?_,fun _ d k s f=>?_,fun _ d k=>?_⟩
  ·rw [e,B0,F.mem t v]
   exact ⟨.inl,fun g=>g.elim id fun g=>absurd g.1 hm⟩
  ·rw [e] at f
   rw [Nat.add_sub_cancel]
   obtain ⟨n,q⟩:=y d s f
   exact ⟨n,by grind⟩
  ·rw [e] at f
   rw [Nat.add_sub_cancel]
   exact (y d s f).2
  ·rw [Nat.add_sub_cancel] at k;exact absurd k hm
theorem fi (h:rM c):∀{i:Nat},i<=c.length+1->FI c ms i:=by
 intro i
 induction i with
 | zero=>exact fun _=>⟨⟨(fun _ h=>by cases h),List.Pairwise.nil⟩,(fun t _=>⟨(fun ⟨_,h,_⟩=>by cases h),(fun ⟨_,h,_⟩=>absurd h (Nat.not_lt_zero _))⟩),(fun h=>absurd h (Nat.lt_irrefl _)),(fun h=>absurd h (Nat.lt_irrefl _)),(fun h=>absurd h (Nat.lt_irrefl _))⟩
 | succ i ih=>exact fun a=>M7 h (by omega) (ih (by omega))
end
end Go.Proofs.Tryz
namespace Go.Proofs.Tryz
open Go.bM Go.fR
theorem Eg {s u:Sp}{t:Rat}:(s.meet u).ny t↔s.ny t/\u.ny t:=by
 have c:Ec s.lo u.lo<t↔s.lo<t/\u.lo<t:=by
  unfold Ec
  rcases me u.lo s.lo with ⟨h,e⟩|⟨h,e⟩|⟨h,e⟩<;>rw [e]<;>simp<;>grind
 have d:t<mq s.hi u.hi↔t<s.hi/\t<u.hi:=by
  unfold mq
  rcases me u.hi s.hi with ⟨h,e⟩|⟨h,e⟩|⟨h,e⟩<;>rw [e]<;>simp<;>grind
 unfold Sp.ny Sp.meet
 cases s.a<;>cases s.b<;>cases u.a<;>cases u.b<;>simp [c,d]<;>grind
theorem lO {l:L3}(h:Nz l)(t:Rat):ar l (fm l t) (fu l t)=0/\Cm l (fm l t) (fu l t)=t:=by
 have a:=h.norm
 have b:=Rat.mul_inv_cancel _ a
 unfold ar Cm fm fu
 unfold fZ at *
 constructor<;>grind
theorem QN {l m:L3}(h:aP l m≠0):ar l (Ed l m) (Ee l m)=0/\ar m (Ed l m) (Ee l m)=0:=by
 have a:=Rat.mul_inv_cancel _ h
 unfold ar Ed Ee
 constructor
 ·have e:(l.1:Rat)*(((l.2.1:Rat)*(m.2.2:Rat)-(l.2.2:Rat)*(m.2.1:Rat))*(aP l m)⁻¹)+(l.2.1:Rat)*(((l.2.2:Rat)*(m.1:Rat)-(l.1:Rat)*(m.2.2:Rat))*(aP l m)⁻¹)+(l.2.2:Rat)=(l.2.2:Rat)*(1-aP l m*(aP l m)⁻¹):=by
   generalize hc:(aP l m)⁻¹=c
   unfold aP
   grind
  rw [e,a];grind
 ·have e:(m.1:Rat)*(((l.2.1:Rat)*(m.2.2:Rat)-(l.2.2:Rat)*(m.2.1:Rat))*(aP l m)⁻¹)+(m.2.1:Rat)*(((l.2.2:Rat)*(m.1:Rat)-(l.1:Rat)*(m.2.2:Rat))*(aP l m)⁻¹)+(m.2.2:Rat)=(m.2.2:Rat)*(1-aP l m*(aP l m)⁻¹):=by
   generalize hc:(aP l m)⁻¹=c
   unfold aP
   grind
  rw [e,a];grind
theorem Hy (l:L3):mV (mV l)=mV l:=by
 unfold mV
 by_cases h:l.1<0\/l.1=0/\l.2.1<0
 ·rw [if_pos h,if_neg]
  unfold jJ
  dsimp only
  omega
 ·rw [if_neg h,if_neg h]
theorem Lk {l:L3}(h:dH l=true):dH (mV l)=true:=by
 unfold mV
 split
 ·unfold dH jJ iE at *
  simp only [Int.natAbs_neg]
  rw [Bool.and_eq_true,decide_eq_true_iff,decide_eq_true_iff] at h ⊢
  exact ⟨fun e=>h.1 ⟨by omega,by omega⟩,h.2⟩
 ·exact h
theorem lx {l:L3}(h:dH l=true):¬(l.1=0/\l.2.1=0):=by
 unfold dH at h
 rw [Bool.and_eq_true,decide_eq_true_iff] at h
 exact h.1
theorem mh {s:Sp}:s.emp=false↔∃t,s.ny t:=by
 constructor
 ·intro h
  obtain ⟨c,d⟩:=Sp.H5 h
  refine ⟨s.bG,?_,?_⟩
  ·cases ha:s.a
   ·exact .inr (c ha)
   ·exact .inl rfl
  ·cases hb:s.b
   ·exact .inr (d hb)
   ·exact .inl rfl
 ·rintro ⟨t,c,d⟩
  rw [Sp.mg]
  rcases c with c|c
  ·exact .inl c
  ·rcases d with d|d
   ·exact .inr (.inl d)
   ·exact .inr (.inr (by grind))
theorem kb {l:L3}{s:Sp}{m:L3} :
  (eA l s m=true->∀t,(dM l s m).ny t↔s.ny t/\0<ar m (fm l t) (fu l t))/\(s.emp=false->eA l s m=false->∀t,s.ny t->¬0<ar m (fm l t) (fu l t)):=by
 have key:cZ m l≠0->∀t,(dM l s m).ny t↔s.ny t/\0<iT m l+cZ m l*t:=fun a t=>by
  have j:=Rat.mul_inv_cancel _ a
  unfold dM
  rcases ko (cZ m l) with ⟨h,e⟩|⟨h,e⟩|⟨h,e⟩
  ·exact absurd h a
  ·rw [e]
   show (s.meet ⟨eJ m l,0,false,true⟩).ny t↔_
   rw [Eg]
   have f:cZ m l*(t-eJ m l)=iT m l+cZ m l*t:=by unfold eJ;grind
   have:(⟨eJ m l,0,false,true⟩:Sp).ny t↔eJ m l<t:=by unfold Sp.ny;simp
   rw [this,←f]
   refine and_congr_right fun _=>⟨fun h'=>Rat.mul_pos h (by grind),fun h'=>?_⟩
   by_cases c:eJ m l<t
   ·exact c
   ·have:=Rat.mul_nonneg (show 0<=cZ m l by grind) (show 0<=eJ m l-t by grind)
    grind
  ·rw [e]
   show (s.meet ⟨0,eJ m l,true,false⟩).ny t↔_
   rw [Eg]
   have f:-cZ m l*(eJ m l-t)=iT m l+cZ m l*t:=by unfold eJ;grind
   have:(⟨0,eJ m l,true,false⟩:Sp).ny t↔t<eJ m l:=by unfold Sp.ny;simp
   rw [this,←f]
   refine and_congr_right fun _=>⟨fun h'=>Rat.mul_pos (by grind) (by grind),fun h'=>?_⟩
   by_cases c:t<eJ m l
   ·exact c
   ·have:=Rat.mul_nonneg (show 0<=-cZ m l by grind) (show 0<=t-eJ m l by grind)
    grind
 by_cases a:cZ m l=0
 ·have g:dM l s m=s:=by unfold dM;rw [a];rfl
  have b:eA l s m=decide ((iT m l).num.sign>0):=by unfold eA;rw [a];rfl
  constructor
  ·intro hb t
   rw [g,eQ,a]
   rw [b] at hb
   have hb:(iT m l).num.sign>0:=by simpa using hb
   have:0<iT m l:=by
    rcases ko (iT m l) with ⟨h,e⟩|⟨h,e⟩|⟨h,e⟩
    ·omega
    ·exact h
    ·omega
   exact ⟨fun h=>⟨h,by grind⟩,fun h=>h.1⟩
  ·intro _ hb t _ d
   rw [eQ,a] at d
   rw [b] at hb
   have hb:¬(iT m l).num.sign>0:=by simpa using hb
   rcases ko (iT m l) with ⟨h,e⟩|⟨h,e⟩|⟨h,e⟩
   ·grind
   ·omega
   ·grind
 ·have b:eA l s m=!(dM l s m).emp:=by
   unfold eA
   rcases ko (cZ m l) with ⟨h,e⟩|⟨h,e⟩|⟨h,e⟩
   ·exact absurd h a
   ·rw [e];rfl
   ·rw [e];rfl
  constructor
  ·intro _ t
   rw [eQ];exact key a t
  ·intro _ hb t i d
   rw [eQ] at d
   rw [b] at hb
   have:=mh.2 ⟨t,(key a t).2 ⟨i,d⟩⟩
   rw [this] at hb;cases hb
theorem lf {l:L3}{s:Sp}{m:L3}(hs:s.jW)(hb:eA l s m=true):(dM l s m).jW:=⟨J9 hs.1,J8 hs.2 hb⟩
abbrev Sd:=L3×Sp
def dI:List Sd->L3->Sp->Option Sp
 | [],_,v=>some v
 | s::c,l,v=>if eA l v s.1 then dI c l (dM l v s.1) else none
theorem A_:∀{c:List Sd} {l:L3} {v w:Sp},v.jW->dI c l v=some w->w.jW/\∀t,w.ny t↔v.ny t/\∀s∈c,0<ar s.1 (fm l t) (fu l t)
 | [],_,v,w,h,e=>by cases e;exact ⟨h,fun t=>⟨fun g=>⟨g,fun s hs=>by cases hs⟩,fun g=>g.1⟩⟩
 | s::c,l,v,w,h,e=>by
  unfold dI at e
  split at e
  ·rename_i hb
   obtain ⟨g1,g2⟩:=A_ (lf h hb) e
   refine ⟨g1,fun t=>?_⟩
   rw [g2,(kb.1 hb t)]
   simp only [List.forall_mem_cons,and_assoc]
  ·cases e
theorem A9:∀{c:List Sd} {l:L3} {v:Sp},v.jW->dI c l v=none->∀t,v.ny t->¬∀s∈c,0<ar s.1 (fm l t) (fu l t)
 | [],_,v,h,e=>by cases e
 | s::c,l,v,h,e=>by
  intro t ht hall
  unfold dI at e
  split at e
  ·rename_i hb
   exact A9 (lf h hb) e t ((kb.1 hb t).2 ⟨ht,hall s (List.mem_cons_self ..)⟩) fun u hu=>hall u (List.mem_cons_of_mem _ hu)
  ·rename_i hb
   exact kb.2 h.2 (by simpa using hb) t ht (hall s (List.mem_cons_self ..))
theorem vL (l:L3):mV l=l\/mV l=jJ l:=by unfold mV;split;exact .inr rfl;exact .inl rfl
theorem rev_rev (l:L3):jJ (jJ l)=l:=by unfold jJ;simp
theorem HD (l:L3):ai.au (jJ l)=(-(ai.au l).1,-(ai.au l).2):=by unfold ai.au jJ;simp only [Rat.intCast_neg]
theorem wR {l:L3}(h:dH l=true):(ai.au l).1≠0\/(ai.au l).2≠0:=by
 have:=lx h
 unfold ai.au
 by_cases e:l.2.1=0
 ·right;intro a
  have:(l.1:Rat)=0:=by grind
  exact lx h ⟨by exact_mod_cast this,e⟩
 ·left;show (l.2.1:Rat)≠0;exact_mod_cast e
theorem O2 {l m:L3}(ol:dH l=true)(om:dH m=true){p:ai.V2}(h1:ar l p.1 p.2=0)(h2:ar m p.1 p.2=0)(hc:ai.cr (ai.au l) (ai.au m)=0):l=m\/l=jJ m:=by
 have a:∀{x:L3},ar x p.1 p.2=0->ar (mV x) p.1 p.2=0:=fun {x} h=>by
  rcases vL x with e|e<;>rw [e]
  ·exact h
  ·rw [val_rev];grind
 have b:ai.cr (ai.au (mV l)) (ai.au (mV m))=0:=by
  unfold ai.cr at *
  rcases vL l with e|e<;>rcases vL m with e'|e'<;>rw [e,e']<;>(try rw [HD l])<;>(try rw [HD m])<;>(try dsimp only)<;>grind
 have:=ai.Jm (Lk ol) (Lk om) (Hy l) (Hy m) (a h1) (a h2) b
 rcases vL l with e|e<;>rcases vL m with e'|e'<;>rw [e,e'] at this
 ·exact .inl this
 ·exact .inr this
 ·right;rw [←this,rev_rev]
 ·left;have:=congrArg jJ this;rwa [rev_rev,rev_rev] at this
theorem BU {M:List L3}(hk:∀m∈M,dH m=true){q:ai.V2}(hq:ai.pos M q):ai.UO M:=by
 intro l d m hm c p f g h
 rcases O2 (hk l d) (hk m hm) f g h with e|e
 ·exact c e
 ·have a:=hq l d
  have b:=hq m hm
  rw [e,val_rev] at a
  grind
theorem uU {l:L3}(h:Nz l){x y:Rat}(hp:ar l x y=0):∃t,x=fm l t/\y=fu l t:=by
 have a:=Rat.mul_inv_cancel _ h.norm
 unfold ar at hp
 refine ⟨Cm l x y,?_,?_⟩
 ·unfold fm Cm fZ at *;grind
 ·unfold fu Cm fZ at *;grind
def bD:Sp:=⟨0,0,true,true⟩
theorem lg:bD.jW:=⟨⟨fun _=>rfl,fun _=>rfl⟩,rfl⟩
theorem wc (t:Rat):bD.ny t:=⟨.inl rfl,.inl rfl⟩
structure gV (M:List L3) (c:List Sd):Prop where
 pos:∃q,ai.pos M q
 mem:∀s∈c,s.1∈M/\s.2.jW/\∀t,s.2.ny t↔∀m∈M,m≠s.1->0<ar m (fm s.1 t) (fu s.1 t)
 all:∀l∈M,ai.Es M l->∃v,(l,v)∈c
 rM:c.Pairwise fun s u=>ai.cS (ai.au s.1) (ai.au u.1)<0
def nA (x:Sd):List Sd->List Sd
 | []=>[x]
 | s::r=>if ai.cS (ai.au s.1) (ai.au x.1)<0 then s::nA x r else x::s::r
def mW (c:List Sd)(l:L3):List Sd:=c.filterMap fun s=>if eA s.1 s.2 l then some (s.1,dM s.1 s.2 l) else none
def fk:List Sd->L3->Int
 | [],_=>-1
 | s::c,l=>if (ar l (fm s.1 s.2.bG) (fu s.1 s.2.bG)).num.sign≠0 then (ar l (fm s.1 s.2.bG) (fu s.1 s.2.bG)).num.sign else if s.1=l then 1 else fk c l
def gU (c:List Sd)(l:L3):Option (List Sd):=
 match dI c l bD with
 | some v=>some (nA (l,v) (mW c l))
 | none=>if 0<fk c l then some c else none
theorem nB {x y:Sd}:∀{r:List Sd},y∈nA x r↔y=x\/y∈r
 | []=>by simp [nA]
 | s::r=>by
  unfold nA
  split
  ·rw [List.mem_cons,nB,List.mem_cons];exact or_left_comm
  ·rw [List.mem_cons]
theorem Bt {a b d:ai.V2}(h:ai.cS a b<0)(h':ai.cS b d<0):ai.cS a d<0:=by
 by_cases q:ai.cS a d<0
 ·exact q
 ·exact absurd h (ai.vk _ _ _ q (ai.pY _ _ h'))
theorem D3 {x:Sd}:∀{r:List Sd},(r.Pairwise fun s u=>ai.cS (ai.au s.1) (ai.au u.1)<0)->(∀s∈r,ai.cS (ai.au s.1) (ai.au x.1)≠0)->(nA x r).Pairwise fun s u=>ai.cS (ai.au s.1) (ai.au u.1)<0
 | [],_,_=>List.pairwise_singleton ..
 | s::r,h,hn=>by
  obtain ⟨h1,h2⟩:=List.pairwise_cons.1 h
  unfold nA
  split
  ·rename_i b
   refine List.pairwise_cons.2 ⟨fun y a=>?_,D3 h2 fun u hu=>hn u (List.mem_cons_of_mem _ hu)⟩
   rcases nB.1 a with rfl|a
   ·exact b
   ·exact h1 y a
  ·rename_i b
   have c:ai.cS (ai.au x.1) (ai.au s.1)<0:=by
    rcases ai.vi (ai.au s.1) (ai.au x.1) with g|g|g
    ·exact absurd g b
    ·exact absurd g (hn s (List.mem_cons_self ..))
    ·exact g
   refine List.pairwise_cons.2 ⟨fun y a=>?_,h⟩
   rcases List.mem_cons.1 a with rfl|a
   ·exact c
   ·exact Bt c (h1 y a)
theorem DI {c:List Sd}{l:L3}{y:Sd}:y∈mW c l↔∃s∈c,eA s.1 s.2 l=true/\y=(s.1,dM s.1 s.2 l):=by
 unfold mW
 rw [List.mem_filterMap]
 constructor
 ·rintro ⟨s,a,e⟩
  split at e
  ·rename_i hb;cases e;exact ⟨s,a,hb,rfl⟩
  ·cases e
 ·rintro ⟨s,a,hb,rfl⟩
  exact ⟨s,a,by rw [if_pos hb]⟩
theorem DH {c:List Sd}{l:L3}(h:c.Pairwise fun s u=>ai.cS (ai.au s.1) (ai.au u.1)<0):(mW c l).Pairwise fun s u=>ai.cS (ai.au s.1) (ai.au u.1)<0:=by
 unfold mW
 refine List.Pairwise.filterMap _ ?_ h
 intro a b f x d y e
 split at d
 ·split at e
  ·cases d;cases e;exact f
  ·cases e
 ·cases d
theorem Eu {l s:L3}(hl:ai.nz (ai.au s))(h:ai.cS (ai.au s) (ai.au l)=0){p r:ai.V2}(p0:ar l p.1 p.2=0)(p1:0<ar s p.1 p.2)(r0:ar s r.1 r.2=0)(r1:0<ar l r.1 r.2):False:=by
 obtain ⟨c,b,e⟩:=ai.Dg hl h
 have d:(s.2.1:Rat)=c*(l.2.1:Rat):=congrArg Prod.fst e
 have a:-(s.1:Rat)=c*-(l.1:Rat):=congrArg Prod.snd e
 have a:(s.1:Rat)=c*(l.1:Rat):=by grind
 have key:∀x:ai.V2,ar s x.1 x.2=c*(ar l x.1 x.2-(l.2.2:Rat))+(s.2.2:Rat):=fun x=>by unfold ar;rw [d,a];grind
 have k:=ai.mp b r1
 rw [key] at p1 r0
 rw [p0] at p1
 generalize ar l r.1 r.2=z at *
 grind
section
variable {M:List L3} {c:List Sd} (h:gV M c) (hk:∀m ∈ M,dH m=true)
include h hk
theorem gV.int {p:ai.V2}(hp:∀s∈c,0<ar s.1 p.1 p.2):ai.pos M p:=by
 obtain ⟨q,a⟩:=h.pos
 refine ai.Y9 (BU hk a) (fun m hm=>wR (hk m hm)) a fun m hm he=>?_
 obtain ⟨v,b⟩:=h.all m hm he
 exact hp _ b
theorem IE {l:L3}(hl:dH l=true){v:Sp}(e:dI c l bD=some v):gV (l::M) (nA (l,v) (mW c l)):=by
 have K:Nz l:=lx hl
 obtain ⟨B,C⟩:=A_ lg e
 have D:∀t,v.ny t↔ai.pos M (fm l t,fu l t):=fun t=>⟨fun g=>h.int hk ((C t).1 g).2,fun g=>(C t).2 ⟨wc t,fun s f=>g s.1 (h.mem s f).1⟩⟩
 obtain ⟨t0,u⟩:=mh.1 B.2
 have y:=(D t0).1 u
 have E:=(lO K t0).1
 have F:l∉M:=fun hm=>by have:=y l hm;dsimp only at this;grind
 have ne:∀m∈M,m≠l:=fun m hm e=>F (e▸hm)
 obtain ⟨q,L,z,-⟩:=ai.BX (M:=M) (x:=(fm l t0,fu l t0)) (wR hl) E (fun m hm _=>y m hm) [] (fun m hm=>by cases hm)
 have G:∀s∈mW c l,s.1∈M/\s.2.jW/\∀t,s.2.ny t↔∀m∈l::M,m≠s.1->0<ar m (fm s.1 t) (fu s.1 t):=fun s f=>by
  obtain ⟨N,O,hb,rfl⟩:=DI.1 f
  obtain ⟨i,k,n⟩:=h.mem N O
  refine ⟨i,lf k hb,fun t=>?_⟩
  dsimp only
  rw [kb.1 hb t,n t,List.forall_mem_cons]
  exact ⟨fun g=>⟨fun _=>g.2,g.1⟩,fun g=>⟨g.2,g.1 (fun e=>ne _ i e.symm)⟩⟩
 refine ⟨⟨q,List.forall_mem_cons.2 ⟨z,L⟩⟩,fun s f=>?_,fun o d he=>?_,D3 (DH h.rM) fun s f P=>?_⟩
 ·rcases nB.1 f with rfl|f
  ·refine ⟨List.mem_cons_self ..,B,fun t=>?_⟩
   rw [D t,List.forall_mem_cons]
   exact ⟨fun g=>⟨fun h=>absurd rfl h,fun m hm _=>g m hm⟩,fun g m hm=>g.2 m hm (ne m hm)⟩
  ·obtain ⟨a,b⟩:=G s f
   exact ⟨List.mem_cons_of_mem _ a,b⟩
 ·rcases List.mem_cons.1 d with rfl|d
  ·exact ⟨v,nB.2 (.inl rfl)⟩
  ·obtain ⟨p,H,A⟩:=he
   obtain ⟨w,hw⟩:=h.all o d ⟨p,H,fun m hm j=>A m (List.mem_cons_of_mem _ hm) j⟩
   obtain ⟨i,k,n⟩:=h.mem _ hw
   obtain ⟨t,I,J⟩:=uU (lx (hk o d)) H
   have hb:eA o w l=true:=by
    cases hb:eA o w l
    ·exfalso
     refine kb.2 k.2 hb t ((n t).2 fun m hm j=>?_) ?_
     ·dsimp only;rw [←I,←J];exact A m (List.mem_cons_of_mem _ hm) j
     ·rw [←I,←J];exact A l (List.mem_cons_self ..) (fun e=>F (e▸d))
    ·rfl
   exact ⟨dM o w l,nB.2 (.inr (DI.2 ⟨_,hw,hb,rfl⟩))⟩
 ·obtain ⟨i,k,n⟩:=G s f
  obtain ⟨t,Q⟩:=mh.1 k.2
  have R:=(n t).1 Q l (List.mem_cons_self ..) (fun e=>ne _ i e.symm)
  exact Eu (wR (hk _ i)) P (p:=(fm l t0,fu l t0)) (r:=(fm s.1 t,fu s.1 t)) E (y _ i) (lO (lx (hk _ i)) t).1 R
omit h in
theorem rY {l:L3}(hl:dH l=true)(hno:∀x:ai.V2,ar l x.1 x.2=0->¬ai.pos M x){q:ai.V2}(hq:ai.pos M q){s:L3}(hs:s∈M){x:ai.V2}(xz:ar s x.1 x.2=0)(hx:∀m∈M,m≠s->0<ar m x.1 x.2) :
  (0<ar l q.1 q.2->0<ar l x.1 x.2\/s=l)/\(ar l q.1 q.2<0->ar l x.1 x.2<0\/ar l x.1 x.2=0/\s≠l):=by
 have side:∀g:L3,(∀x:ai.V2,ar g x.1 x.2=0->¬ai.pos M x)->0<ar g q.1 q.2->∀y:ai.V2,ar s y.1 y.2=0->(∀m∈M,m≠s->0<ar m y.1 y.2)->¬ar g y.1 y.2<0:=fun g hno n y o b j=>by
  obtain ⟨C,p,-,c⟩:=ai.BX (wR (hk s hs)) o b [jJ g] (fun m hm=>by rcases List.mem_singleton.1 hm with rfl;rw [val_rev];grind)
  have c:=c _ (List.mem_singleton.2 rfl)
  rw [val_rev] at c
  have:=ai.En hno hq p n
  grind
 constructor
 ·intro a
  by_cases f:0<ar l x.1 x.2
  ·exact .inl f
  right
  have z:ar l x.1 x.2=0:=by have:=side l hno a x xz hx;grind
  by_cases e:s=l
  ·exact e
  exfalso
  have h:ai.cr (ai.au l) (ai.au s)≠0:=fun t=>by
   rcases O2 hl (hk s hs) z xz t with g|g
   ·exact e g.symm
   ·rw [g,val_rev] at a
    have:=hq s hs
    grind
  have step:∀d:ai.V2,ai.nv s d=0->ai.nv l d<0->False:=fun d d0 d1=>by
   obtain ⟨r,u,v⟩:=ai.Cx ((M.filter fun m=>decide (m≠s)).map fun m=>(ar m x.1 x.2,ai.nv m d)) (fun y b=>by
    obtain ⟨m,hm,rfl⟩:=List.mem_map.1 b
    have:=List.mem_filter.1 hm
    exact hx m this.1 (by simpa using this.2))
   refine side l hno a (x.1+r*d.1,x.2+r*d.2) ?_ (fun m hm i=>?_) ?_
   ·rw [ai.fP,xz,d0];grind
   ·rw [ai.fP]
    exact v (ar m x.1 x.2,ai.nv m d) (List.mem_map.2 ⟨m,List.mem_filter.2 ⟨hm,by simpa using i⟩,rfl⟩)
   ·rw [ai.fP,z]
    have:=ai.mp u (show -ai.nv l d>0 by grind)
    grind
  have k:ai.nv s (ai.au s)=0:=by rw [ai.HW];exact ai.HC _
  have ls:ai.nv l (ai.au s)≠0:=by rw [ai.HW];exact h
  by_cases w:ai.nv l (ai.au s)<0
  ·exact step _ k w
  ·have A:ai.nv s (-(ai.au s).1,-(ai.au s).2)=-ai.nv s (ai.au s):=by unfold ai.nv;dsimp only;grind
   have B:ai.nv l (-(ai.au s).1,-(ai.au s).2)=-ai.nv l (ai.au s):=by unfold ai.nv;dsimp only;grind
   exact step (-(ai.au s).1,-(ai.au s).2) (by rw [A,k];grind) (by rw [B];grind)
 ·intro a
  have:=side (jJ l) (fun x hx=>hno x (by rw [val_rev] at hx;grind)) (by rw [val_rev];grind) x xz hx
  rw [val_rev] at this
  by_cases f:ar l x.1 x.2<0
  ·exact .inl f
  ·refine .inr ⟨by grind,fun e=>?_⟩
   have:=hq s hs
   rw [e] at this
   grind
theorem nL {s:Sd}(hs:s∈c):ar s.1 (fm s.1 s.2.bG) (fu s.1 s.2.bG)=0/\∀m∈M,m≠s.1->0<ar m (fm s.1 s.2.bG) (fu s.1 s.2.bG):=by
 obtain ⟨d,e,f⟩:=h.mem s hs
 refine ⟨(lO (lx (hk _ d)) _).1,(f _).1 ?_⟩
 obtain ⟨g,i⟩:=Sp.H5 e.2
 constructor
 ·cases ha:s.2.a
  ·exact .inr (g ha)
  ·exact .inl rfl
 ·cases hb:s.2.b
  ·exact .inr (i hb)
  ·exact .inl rfl
theorem Ja {l:L3}(hl:dH l=true)(hno:∀x:ai.V2,ar l x.1 x.2=0->¬ai.pos M x){q:ai.V2}(hq:ai.pos M q)(hp:0<ar l q.1 q.2)(h0:c≠[]):fk c l=1:=by
 cases hc:c with
 | nil=>exact absurd hc h0
 | cons s r=>
  have b:s∈c:=by rw [hc];exact List.mem_cons_self ..
  obtain ⟨d,f⟩:=nL h hk b
  have:=(rY hk hl hno hq (h.mem s b).1 (x:=(fm s.1 s.2.bG,fu s.1 s.2.bG)) d f).1 hp
  unfold fk
  dsimp only at this
  by_cases e:0<ar l (fm s.1 s.2.bG) (fu s.1 s.2.bG)
  ·rw [ai.Cw.2 e];rfl
  ·have a:s.1=l:=this.resolve_left e
   have z:ar l (fm s.1 s.2.bG) (fu s.1 s.2.bG)=0:=by
    have h:=d;rw [a] at h ⊢;exact h
   rw [ai.fN.2 z,if_neg (by simp),if_pos a]
theorem I_ {l:L3}(hl:dH l=true)(hno:∀x:ai.V2,ar l x.1 x.2=0->¬ai.pos M x){q:ai.V2}(hq:ai.pos M q)(hp:ar l q.1 q.2<0):fk c l=-1:=by
 have:∀r:List Sd,(∀s∈r,s∈c)->fk r l=-1:=by
  intro r
  induction r with
  | nil=>intro _;rfl
  | cons s r ih=>
   intro a
   have b:=a s (List.mem_cons_self ..)
   obtain ⟨d,e⟩:=nL h hk b
   have:=(rY hk hl hno hq (h.mem s b).1 (x:=(fm s.1 s.2.bG,fu s.1 s.2.bG)) d e).2 hp
   dsimp only at this
   unfold fk
   rcases this with g|⟨g,f⟩
   ·rw [ai.xh.2 g];rfl
   ·rw [ai.fN.2 g,if_neg (by simp),if_neg f]
    exact ih fun u hu=>a u (List.mem_cons_of_mem _ hu)
 exact this c fun _ h=>h
theorem Hz {l:L3}(hl:dH l=true):(∀c',gU c l=some c'->gV (l::M) c')/\(gU c l=none->¬∃q,ai.pos (l::M) q):=by
 unfold gU
 cases e:dI c l bD with
 | some v=>exact ⟨fun c' f=>by cases f;exact IE h hk hl e,fun f=>by cases f⟩
 | none=>
  dsimp only
  have d:∀x:ai.V2,ar l x.1 x.2=0->¬ai.pos M x:=fun x E n=>by
   obtain ⟨t,o,r⟩:=uU (lx hl) E
   refine A9 lg e t (wc t) fun s u=>?_
   rw [←o,←r];exact n s.1 (h.mem s u).1
  have F:c≠[]:=fun G=>by rw [G] at e;cases e
  obtain ⟨q,j⟩:=h.pos
  by_cases w:0<ar l q.1 q.2
  ·rw [Ja h hk hl d j w F]
   refine ⟨fun c' f=>?_,fun f=>by cases f⟩
   cases f
   refine ⟨⟨q,List.forall_mem_cons.2 ⟨w,j⟩⟩,fun s u=>?_,fun y A he=>?_,h.rM⟩
   ·obtain ⟨B,H,I⟩:=h.mem s u
    refine ⟨List.mem_cons_of_mem _ B,H,fun t=>?_⟩
    rw [I t,List.forall_mem_cons]
    refine ⟨fun g=>⟨fun i=>?_,g⟩,fun g=>g.2⟩
    exact ((rY hk hl d j B (x:=(fm s.1 t,fu s.1 t)) (lO (lx (hk _ B)) t).1 g).1 w).resolve_right fun e=>i e.symm
   ·obtain ⟨p,D,n⟩:=he
    by_cases hm:y∈M
    ·exact h.all y hm ⟨p,D,fun m hm i=>n m (List.mem_cons_of_mem _ hm) i⟩
    ·exfalso
     have o:y=l:=(List.mem_cons.1 A).resolve_right hm
     refine d p (o▸D) fun m k=>n m (List.mem_cons_of_mem _ k) fun r=>hm (r▸k)
  ·have J:ar l q.1 q.2<0:=by
    by_cases z:ar l q.1 q.2=0
    ·exact absurd j (d q z)
    ·grind
   rw [I_ h hk hl d j J]
   refine ⟨fun c' f=>(by cases f),fun _=>?_⟩
   rintro ⟨K,C⟩
   obtain ⟨a,b⟩:=List.forall_mem_cons.1 C
   have:=ai.En d (fun m hm=>b m hm) j a
   grind
end
theorem gV.nil:gV [] []:=⟨⟨(0,0),fun m hm=>by cases hm⟩,(fun s a=>by cases a),(fun l b=>by cases b),List.Pairwise.nil⟩
def bK:List L3->List L3->List Sd->Option (List Sd)
 | [],_,c=>some c
 | l::r,M,c=>match gU c l with
  | some c'=>bK r (l::M) c'
  | none=>none
theorem vM:∀{ls M:List L3} {c:List Sd},gV M c->(∀m∈M,dH m=true)->(∀m∈ls,dH m=true)->(∀c',bK ls M c=some c'->gV (ls.reverse++M) c')/\(bK ls M c=none->¬∃q,ai.pos (ls.reverse++M) q)
 | [],M,c,h,hk,hl=>⟨fun c' e=>by cases e;exact h,fun e=>by cases e⟩
 | l::r,M,c,h,hk,hl=>by
  obtain ⟨h1,h2⟩:=Hz h hk (hl l (List.mem_cons_self ..))
  rw [List.reverse_cons,List.append_assoc]
  unfold bK
  cases e:gU c l with
  | some c'=>exact vM (h1 c' e) (List.forall_mem_cons.2 ⟨hl l (List.mem_cons_self ..),hk⟩) fun m hm=>hl m (List.mem_cons_of_mem _ hm)
  | none=>
   refine ⟨fun c' a=>(by cases a),fun _=>?_⟩
   rintro ⟨q,b⟩
   exact h2 e ⟨q,fun m hm=>b m (List.mem_append_right _ hm)⟩
theorem Dk:∀{a b:List L3},(a.Pairwise fun l m=>ai.cS (ai.au l) (ai.au m)<0)->(b.Pairwise fun l m=>ai.cS (ai.au l) (ai.au m)<0)->(∀x,x∈a↔x∈b)->a=b
 | [],b,_,_,h=>by
  cases b with
  | nil=>rfl
  | cons y b=>have:=(h y).2 (List.mem_cons_self ..);cases this
 | x::a,[],_,_,h=>by have:=(h x).1 (List.mem_cons_self ..);cases this
 | x::a,y::b,ha,hb,h=>by
  obtain ⟨d,i⟩:=List.pairwise_cons.1 ha
  obtain ⟨b1,b2⟩:=List.pairwise_cons.1 hb
  have e:x=y:=by
   rcases List.mem_cons.1 ((h x).1 (List.mem_cons_self ..)) with e|j
   ·exact e
   ·rcases List.mem_cons.1 ((h y).2 (List.mem_cons_self ..)) with e|k
    ·exact e.symm
    ·exact absurd (d y k) (ai.pY _ _ (b1 x j))
  subst e
  have f:∀z:L3,¬ai.cS (ai.au z) (ai.au z)<0:=fun z c=>ai.pY _ _ c c
  congr 1
  refine Dk i b2 fun z=>⟨fun c=>?_,fun c=>?_⟩
  ·rcases List.mem_cons.1 ((h z).1 (List.mem_cons_of_mem _ c)) with e|g
   ·exact absurd (d z c) (e▸f z)
   ·exact g
  ·rcases List.mem_cons.1 ((h z).2 (List.mem_cons_of_mem _ c)) with e|g
   ·exact absurd (b1 z c) (e▸f z)
   ·exact g
end Go.Proofs.Tryz
namespace Go.Proofs.Tryz
open Go.bM Go.fR
theorem rW (l m:L3):aP l m=-cZ m l:=by unfold aP cZ;grind
theorem BS (m l:L3):ai.cr (ai.au m) (ai.au l)=cZ m l:=by unfold ai.cr ai.au cZ;grind
def mw (l m:L3):Rat:=Cm l (Ed l m) (Ee l m)
theorem Et {l m:L3}(hl:Nz l)(h:aP l m≠0):mw l m=eJ m l:=by
 obtain ⟨v1,v2⟩:=QN h
 obtain ⟨t,a,b⟩:=uU hl v1
 have c:mw l m=t:=by unfold mw;rw [a,b];exact (lO hl t).2
 rw [a,b,eQ] at v2
 rw [c]
 have d:cZ m l≠0:=fun e=>h (by rw [rW,e];grind)
 have f:=Rat.mul_inv_cancel _ d
 unfold eJ
 grind
def qn (l m:L3)(s:Sp):Option Sp:=
 if aP l m=0 then (if (ar m (fm l 0) (fu l 0)).num.sign<=0 then none else some s)
 else
  let s':Sp:=if 0<(cZ m l).num.sign then (if s.a=true\/s.lo<mw l m then ⟨mw l m,s.hi,false,s.b⟩ else s) else (if s.b=true\/mw l m<s.hi then ⟨s.lo,mw l m,s.a,false⟩ else s)
  if s'.a=false/\s'.b=false/\s'.hi<=s'.lo then none else some s'
theorem Kd {s:Sp}:s.emp=true↔s.a=false/\s.b=false/\s.hi<=s.lo:=by
 cases h:s.emp
 ·have:=Sp.mg.1 h
  constructor
  ·intro h;cases h
  ·rintro ⟨f,i,j⟩
   rw [f,i] at this
   rcases this with h|h|h
   ·cases h
   ·cases h
   ·exfalso;grind
 ·refine ⟨fun _=>?_,fun _=>rfl⟩
  have d:¬(s.a=true\/s.b=true\/s.lo<s.hi):=fun g=>by rw [←Sp.mg] at g;rw [h] at g;cases g
  refine ⟨?_,?_,?_⟩
  ·cases e:s.a
   ·rfl
   ·exact absurd (.inl e) d
  ·cases e:s.b
   ·rfl
   ·exact absurd (.inr (.inl e)) d
  ·by_cases c:s.lo<s.hi
   ·exact absurd (.inr (.inr c)) d
   ·grind
theorem vU {l m:L3}{s:Sp}(hl:Nz l)(hs:s.jW):qn l m s=if eA l s m=true then some (dM l s m) else none:=by
 unfold qn
 by_cases c:aP l m=0
 ·have d:cZ m l=0:=by rw [rW] at c;grind
  have k:dM l s m=s:=by unfold dM;rw [d];rfl
  have f:eA l s m=decide ((iT m l).num.sign>0):=by unfold eA;rw [d];rfl
  rw [if_pos c,k,f]
  show (if (iT m l).num.sign<=0 then none else some s)=_
  by_cases g:(iT m l).num.sign<=0
  ·rw [if_pos g,if_neg (by rw [decide_eq_true_iff];omega)]
  ·rw [if_neg g,if_pos (by rw [decide_eq_true_iff];omega)]
 ·have d:cZ m l≠0:=fun e=>c (by rw [rW,e];grind)
  rw [if_neg c,Et hl c]
  have es:(if 0<(cZ m l).num.sign then (if s.a=true\/s.lo<eJ m l then (⟨eJ m l,s.hi,false,s.b⟩:Sp) else s) else (if s.b=true\/eJ m l<s.hi then ⟨s.lo,eJ m l,s.a,false⟩ else s))=dM l s m:=by
   obtain ⟨i,j⟩:=hs.1
   obtain ⟨lo,hi,a,b⟩:=s
   dsimp only at i j ⊢
   unfold dM
   rcases ko (cZ m l) with ⟨h,e⟩|⟨h,e⟩|⟨h,e⟩
   ·exact absurd h d
   ·rw [e,if_pos (by decide)]
    show _=Sp.meet ⟨lo,hi,a,b⟩ ⟨eJ m l,0,false,true⟩
    unfold Sp.meet Ec
    rcases me (eJ m l) lo with ⟨g,e⟩|⟨g,e⟩|⟨g,e⟩<;>rw [e]<;>cases a<;>cases b<;>simp at i j⊢<;> grind
   ·rw [e,if_neg (by decide)]
    show _=Sp.meet ⟨lo,hi,a,b⟩ ⟨0,eJ m l,true,false⟩
    unfold Sp.meet mq
    rcases me (eJ m l) hi with ⟨g,e⟩|⟨g,e⟩|⟨g,e⟩<;>rw [e]<;>cases a<;>cases b<;>simp at i j⊢<;> grind
  have f:eA l s m=!(dM l s m).emp:=by
   unfold eA
   rcases ko (cZ m l) with ⟨h,e⟩|⟨h,e⟩|⟨h,e⟩
   ·exact absurd h d
   ·rw [e];rfl
   ·rw [e];rfl
  dsimp only
  rw [es,f]
  by_cases g:(dM l s m).a=false/\(dM l s m).b=false/\(dM l s m).hi<=(dM l s m).lo
  ·rw [if_pos g,Kd.2 g,if_neg (by decide)]
  ·rw [if_neg g]
   cases h:(dM l s m).emp
   ·rw [if_pos (by decide)]
   ·exact absurd (Kd.1 h) g
def dV (l:L3):List L3->Sp->Option Sp
 | [],s=>some s
 | m::r,s=>if m=l then dV l r s else match qn l m s with
  | some s'=>dV l r s'
  | none=>none
theorem rZ {l:L3}(hl:Nz l):∀{c:List L3} {s w:Sp},s.jW->dV l c s=some w->w.jW/\∀t,w.ny t↔s.ny t/\∀m∈c,m≠l->0<ar m (fm l t) (fu l t)
 | [],s,w,h,e=>by cases e;exact ⟨h,fun t=>⟨fun g=>⟨g,fun m hm=>by cases hm⟩,fun g=>g.1⟩⟩
 | m::c,s,w,h,e=>by
  unfold dV at e
  by_cases hm:m=l
  ·rw [if_pos hm] at e
   obtain ⟨g1,g2⟩:=rZ hl h e
   refine ⟨g1,fun t=>(g2 t).trans (and_congr_right fun _=>?_)⟩
   rw [List.forall_mem_cons]
   exact ⟨fun g=>⟨fun a=>absurd hm a,g⟩,fun g=>g.2⟩
  ·rw [if_neg hm,vU hl h] at e
   by_cases hb:eA l s m=true
   ·rw [if_pos hb] at e
    obtain ⟨g1,g2⟩:=rZ hl (lf h hb) e
    refine ⟨g1,fun t=>?_⟩
    rw [g2,kb.1 hb t,List.forall_mem_cons,and_assoc]
    exact and_congr_right fun _=>and_congr_left fun _=>⟨fun g _=>g,fun g=>g hm⟩
   ·rw [if_neg hb] at e;cases e
theorem rX {l:L3}(hl:Nz l):∀{c:List L3} {s:Sp},s.jW->dV l c s=none->∀t,s.ny t->¬∀m∈c,m≠l->0<ar m (fm l t) (fu l t)
 | [],s,h,e=>by cases e
 | m::c,s,h,e=>by
  intro t ht hall
  obtain ⟨ha,hr⟩:=List.forall_mem_cons.1 hall
  unfold dV at e
  by_cases hm:m=l
  ·rw [if_pos hm] at e
   exact rX hl h e t ht hr
  ·rw [if_neg hm,vU hl h] at e
   by_cases hb:eA l s m=true
   ·rw [if_pos hb] at e
    exact rX hl (lf h hb) e t ((kb.1 hb t).2 ⟨ht,ha hm⟩) hr
   ·exact kb.2 h.2 (by simpa using hb) t ht (ha hm)
theorem uN {l:L3}(hl:Nz l){c:List L3}:(dV l c bD).isSome=true↔ai.Es c l:=by
 constructor
 ·intro h
  obtain ⟨w,hw⟩:=Option.isSome_iff_exists.1 h
  obtain ⟨b,d⟩:=rZ hl lg hw
  obtain ⟨t,e⟩:=mh.1 b.2
  exact ⟨(fm l t,fu l t),(lO hl t).1,((d t).1 e).2⟩
 ·rintro ⟨p,f,a⟩
  obtain ⟨t,g,i⟩:=uU hl f
  cases h:dV l c bD with
  | some w=>rfl
  | none=>
   rw [g,i] at a
   exact absurd a (rX hl lg h t (wc t))
def oJ (l:L3):List L3->List L3
 | []=>[l]
 | u::r=>if ai.cS (ai.au u) (ai.au l)<0 then u::oJ l r else if u=l then u::r else l::u::r
def mC (c:List L3):List L3->List L3->List L3
 | [],out=>out
 | l::r,out=>mC c r (if (dV l c bD).isSome=true then oJ l out else out)
theorem nC {l x:L3}:∀{r:List L3},x∈oJ l r↔x=l\/x∈r
 | []=>by simp [oJ]
 | u::r=>by
  unfold oJ
  split
  ·rw [List.mem_cons,nC,List.mem_cons];exact or_left_comm
  split
  ·rename_i e
   subst e
   rw [List.mem_cons]
   exact ⟨.inr,fun h=>h.elim .inl id⟩
  ·rw [List.mem_cons]
theorem D5 {l:L3}:∀{r:List L3},(r.Pairwise fun s u=>ai.cS (ai.au s) (ai.au u)<0)->(∀s∈r,ai.cS (ai.au s) (ai.au l)=0->s=l)->(oJ l r).Pairwise fun s u=>ai.cS (ai.au s) (ai.au u)<0
 | [],_,_=>List.pairwise_singleton _ _
 | u::r,h,hz=>by
  obtain ⟨h1,h2⟩:=List.pairwise_cons.1 h
  unfold oJ
  split
  ·rename_i a
   refine List.pairwise_cons.2 ⟨fun y b=>?_,D5 h2 (fun s f=>hz s (List.mem_cons_of_mem _ f))⟩
   rcases nC.1 b with rfl|b
   ·exact a
   ·exact h1 y b
  split
  ·exact h
  ·rename_i a d
   have c:ai.cS (ai.au l) (ai.au u)<0:=by
    have i:ai.cS (ai.au u) (ai.au l)≠0:=fun e=>d (hz u (List.mem_cons_self ..) e)
    rcases ai.vi (ai.au u) (ai.au l) with g|g|g
    ·exact absurd g a
    ·exact absurd g i
    ·exact g
   refine List.pairwise_cons.2 ⟨fun y b=>?_,h⟩
   rcases List.mem_cons.1 b with rfl|b
   ·exact c
   ·exact Bt c (h1 y b)
theorem PG {c:List L3}(hk:∀m∈c,dH m=true){l m:L3}(hl:l∈c)(hm:m∈c)(el:ai.Es c l)(em:ai.Es c m)(h:ai.cS (ai.au l) (ai.au m)=0):l=m:=by
 by_cases e:l=m
 ·exact e
 exfalso
 obtain ⟨p,a,b⟩:=em
 obtain ⟨r,d,f⟩:=el
 exact Eu (wR (hk l hl)) h a (b l hl e) d (f m hm fun g=>e g.symm)
theorem Cu {c:List L3}(hk:∀m∈c,dH m=true):∀{r out:List L3},(∀m∈r,m∈c)->(∀m∈out,m∈c/\ai.Es c m)->(out.Pairwise fun s u=>ai.cS (ai.au s) (ai.au u)<0) ->
  ((mC c r out).Pairwise fun s u=>ai.cS (ai.au s) (ai.au u)<0)/\∀x,x∈mC c r out↔x∈out\/x∈r/\ai.Es c x
 | [],out,_,_,h=>⟨h,fun x=>by simp [mC]⟩
 | l::r,out,hr,ho,h=>by
  obtain ⟨hl,hr⟩:=List.forall_mem_cons.1 hr
  unfold mC
  by_cases he:ai.Es c l
  ·rw [if_pos ((uN (lx (hk l hl))).2 he)]
   obtain ⟨a,b⟩:=Cu hk (r:=r) (out:=oJ l out) hr (fun m hm=>by
    rcases nC.1 hm with rfl|hm
    ·exact ⟨hl,he⟩
    ·exact ho m hm) (D5 h fun s d e=>PG hk (ho s d).1 hl (ho s d).2 he e)
   refine ⟨a,fun x=>?_⟩
   rw [b,nC,List.mem_cons]
   constructor
   ·rintro ((rfl|h)|h)
    ·exact .inr ⟨.inl rfl,he⟩
    ·exact .inl h
    ·exact .inr ⟨.inr h.1,h.2⟩
   ·rintro (h|⟨rfl|h,e⟩)
    ·exact .inl (.inr h)
    ·exact .inl (.inl rfl)
    ·exact .inr ⟨h,e⟩
  ·rw [if_neg fun g=>he ((uN (lx (hk l hl))).1 g)]
   obtain ⟨a,b⟩:=Cu hk (r:=r) (out:=out) hr ho h
   refine ⟨a,fun x=>?_⟩
   rw [b,List.mem_cons]
   constructor
   ·rintro (h|h)
    ·exact .inl h
    ·exact .inr ⟨.inr h.1,h.2⟩
   ·rintro (h|⟨rfl|h,e⟩)
    ·exact .inl h
    ·exact absurd e he
    ·exact .inr ⟨h,e⟩
theorem Es.of {M N:List L3}(h:∀x,x∈M->x∈N){l:L3}(e:ai.Es N l):ai.Es M l:=by
 obtain ⟨p,a,b⟩:=e
 exact ⟨p,a,fun m hm=>b m (h m hm)⟩
theorem nk {ls:List L3}(hk:∀m∈ls,dH m=true):(∀c,bK ls [] []=some c->mC ls ls []=c.map Prod.fst/\gV ls.reverse c/\(ls=[]\/mC ls ls []≠[]))/\(bK ls [] []=none->mC ls ls []=[]/\ls≠[]/\¬∃q,ai.pos ls q):=by
 obtain ⟨u,w⟩:=vM (ls:=ls) gV.nil (fun m hm=>by cases hm) hk
 rw [List.append_nil] at u w
 obtain ⟨z,i⟩:=Cu hk (r:=ls) (out:=[]) (fun m hm=>hm) (fun m hm=>by cases hm) List.Pairwise.nil
 have i:∀x,x∈mC ls ls []↔x∈ls/\ai.Es ls x:=fun x=>(i x).trans ⟨fun h=>h.elim (fun h=>by cases h) id,.inr⟩
 have d:∀q,ai.pos ls q↔ai.pos ls.reverse q:=fun q=>⟨fun h m hm=>h m (List.mem_reverse.1 hm),fun h m hm=>h m (List.mem_reverse.2 hm)⟩
 constructor
 ·intro c e
  have j:=u c e
  obtain ⟨q,f⟩:=j.pos
  have f:=(d q).2 f
  refine ⟨?_,j,?_⟩
  ·refine Dk z (List.pairwise_map.2 j.rM) fun x=>?_
   rw [i,List.mem_map]
   constructor
   ·rintro ⟨a,b⟩
    obtain ⟨v,A⟩:=j.all x (List.mem_reverse.2 a) (Es.of (fun y B=>List.mem_reverse.1 B) b)
    exact ⟨_,A,rfl⟩
   ·rintro ⟨s,C,rfl⟩
    obtain ⟨k,D,E⟩:=j.mem s C
    obtain ⟨t,F⟩:=mh.1 D.2
    have k:=List.mem_reverse.1 k
    exact ⟨k,⟨(fm s.1 t,fu s.1 t),(lO (lx (hk _ k)) t).1,fun m hm o=>(E t).1 F m (List.mem_reverse.2 hm) o⟩⟩
  ·by_cases n:ls=[]
   ·exact .inl n
   right
   obtain ⟨l,G,he⟩:=ai.BZ (BU hk f) (fun m hm=>wR (hk m hm)) f n
   exact List.ne_nil_of_mem ((i l).2 ⟨G,he⟩)
 ·intro e
  have g:¬∃q,ai.pos ls q:=fun ⟨q,f⟩=>w e ⟨q,(d q).1 f⟩
  refine ⟨?_,fun n=>g ⟨(0,0),fun m hm=>by rw [n] at hm;cases hm⟩,g⟩
  refine List.eq_nil_iff_forall_not_mem.2 fun x H=>?_
  obtain ⟨a,p,I,J⟩:=(i x).1 H
  obtain ⟨q,f,-⟩:=ai.BX (wR (hk x a)) I J [] (fun m hm=>by cases hm)
  exact g ⟨q,f⟩
theorem Qp {l:L3}(h:dH l=true):dH (jJ l)=true:=by
 unfold dH jJ iE at *
 simp only [Int.natAbs_neg]
 rw [Bool.and_eq_true,decide_eq_true_iff,decide_eq_true_iff] at h ⊢
 exact ⟨fun e=>h.1 ⟨by omega,by omega⟩,h.2⟩
theorem I1 {c:List L3}(hk:∀m∈c,dH m=true):(c=[]\/∃l∈c,ai.Es c l)↔∃q,ai.pos c q:=by
 constructor
 ·rintro (rfl|⟨l,d,p,e,f⟩)
  ·exact ⟨(0,0),fun m hm=>by cases hm⟩
  ·obtain ⟨q,a,-⟩:=ai.BX (wR (hk l d)) e f [] (fun m hm=>by cases hm)
   exact ⟨q,a⟩
 ·rintro ⟨q,a⟩
  by_cases b:c=[]
  ·exact .inl b
  ·exact .inr (ai.BZ (BU hk a) (fun m hm=>wR (hk m hm)) a b)
section
variable {M:List L3} {c:List Sd} (h:gV M c) (hk:∀m ∈ M,dH m=true)
include h hk
theorem BP {p:ai.V2}(hp:∀s∈c,0<=ar s.1 p.1 p.2):∀m∈M,0<=ar m p.1 p.2:=by
 intro m hm
 obtain ⟨q,d⟩:=h.pos
 have key:∀t:Rat,0<=t->t<1->ai.pos M (q.1+t*(p.1-q.1),q.2+t*(p.2-q.2)):=fun t t0 t1=>h.int hk fun s f=>by
  dsimp only
  rw [ai.rf]
  have a:=d s.1 (h.mem s f).1
  have j:=ai.mn t0 (hp s f)
  have k:=ai.mp (show 1-t>0 by grind) a
  grind
 by_cases g:0<=ar m p.1 p.2
 ·exact g
 exfalso
 have a:=d m hm
 obtain ⟨t,t0,t1,e⟩:=ai.vd (y:=(ar m q.1 q.2,ar m p.1 p.2)) a (s:=1) (by decide) (by unfold ai.mx;grind)
 have b:t<1:=by
  by_cases i:t=1
  ·subst i;unfold ai.mx at e;dsimp only at e;grind
  ·grind
 have:=key t (by grind) b m hm
 dsimp only at this
 rw [ai.rf] at this
 unfold ai.mx at e
 dsimp only at e
 grind
theorem DE (p:ai.V2):((∀s∈c,0<=ar s.1 p.1 p.2)↔∀m∈M,0<=ar m p.1 p.2)/\((∀s∈c,0<ar s.1 p.1 p.2)↔∀m∈M,0<ar m p.1 p.2):=
 ⟨⟨fun g=>BP h hk g,fun g s a=>g _ (h.mem s a).1⟩,fun g=>h.int hk g,fun g s a=>g _ (h.mem s a).1⟩
end
def jU (p n:ai.V2):List L3->Rat->Rat
 | [],f=>f
 | m::r,f=>jU p n r (if ai.nv m n<0 then mq f (-(ar m p.1 p.2*(ai.nv m n)⁻¹)) else f)
theorem min_le (x y:Rat):mq x y<=x/\mq x y<=y/\(mq x y=x\/mq x y=y):=by
 unfold mq
 rcases me y x with ⟨h,e⟩|⟨h,e⟩|⟨h,e⟩<;>rw [e]<;>simp<;>grind
theorem B4 {p n:ai.V2}:∀{r:List L3} {f:Rat},0<f->(∀m∈r,0<ar m p.1 p.2)->0<jU p n r f/\jU p n r f<=f/\∀m∈r,ai.nv m n<0->jU p n r f*-(ai.nv m n)<=ar m p.1 p.2
 | [],f,hf,_=>⟨hf,Rat.le_refl,fun m hm=>by cases hm⟩
 | m::r,f,hf,h=>by
  obtain ⟨h1,h2⟩:=List.forall_mem_cons.1 h
  unfold jU
  by_cases a:ai.nv m n<0
  ·rw [if_pos a]
   have k:=Rat.mul_inv_cancel _ (show ai.nv m n≠0 by grind)
   have d:(ai.nv m n)⁻¹<0:=by
    by_cases g:(ai.nv m n)⁻¹<0
    ·exact g
    ·have:=ai.mn (show -(ai.nv m n)≥0 by grind) (show (ai.nv m n)⁻¹≥0 by grind)
     grind
   have l:0< -(ar m p.1 p.2*(ai.nv m n)⁻¹):=by
    have:=ai.mp h1 (show -(ai.nv m n)⁻¹>0 by grind)
    grind
   obtain ⟨o,q,j⟩:=min_le f (-(ar m p.1 p.2*(ai.nv m n)⁻¹))
   have hm:0<mq f (-(ar m p.1 p.2*(ai.nv m n)⁻¹)):=by rcases j with e|e<;>rw [e]<;>assumption
   obtain ⟨b,i,c⟩:=B4 (p:=p) (n:=n) (r:=r) hm h2
   refine ⟨b,by grind,List.forall_mem_cons.2 ⟨fun _=>?_,c⟩⟩
   generalize jU p n r (mq f (-(ar m p.1 p.2*(ai.nv m n)⁻¹)))=z at *
   have:=ai.mn (show -(ar m p.1 p.2*(ai.nv m n)⁻¹)-z≥0 by grind) (show -(ai.nv m n)≥0 by grind)
   have e:ar m p.1 p.2*(ai.nv m n)⁻¹*ai.nv m n=ar m p.1 p.2:=by grind
   grind
  ·rw [if_neg a]
   obtain ⟨b,i,c⟩:=B4 (p:=p) (n:=n) (r:=r) hf h2
   exact ⟨b,i,List.forall_mem_cons.2 ⟨fun g=>absurd g a,c⟩⟩
theorem Kx {M:List L3}{s:Sd}{c:List Sd}(h:gV M (s::c))(hk:∀m∈M,dH m=true){f:Rat}(hf:f=jU (fm s.1 s.2.bG,fu s.1 s.2.bG) (ai.iH s.1) (c.map Prod.fst) 1) :
  ai.pos M (fm s.1 s.2.bG+f*((2:Int):Rat)⁻¹*(ai.iH s.1).1,fu s.1 s.2.bG+f*((2:Int):Rat)⁻¹*(ai.iH s.1).2):=by
 obtain ⟨j,d⟩:=nL h hk (List.mem_cons_self ..)
 have k:=(h.mem s (List.mem_cons_self ..)).1
 have l:=ai.Gu (wR (hk _ k))
 have a:∀u∈c,u.1≠s.1:=fun u hu e=>by
  have:=(List.pairwise_cons.1 h.rM).1 u hu
  rw [e] at this
  exact ai.pY _ _ this this
 obtain ⟨g,o,i⟩:=B4 (p:=(fm s.1 s.2.bG,fu s.1 s.2.bG)) (n:=ai.iH s.1) (r:=c.map Prod.fst) (f:=1) (by decide) fun m hm=>by
  obtain ⟨u,hu,rfl⟩:=List.mem_map.1 hm
  exact d _ (h.mem u (List.mem_cons_of_mem _ hu)).1 (a u hu)
 rw [←hf] at g o i
 have b:((2:Int):Rat)⁻¹=1 / 2:=by decide +kernel
 rw [b]
 refine h.int hk (List.forall_mem_cons.2 ⟨?_,fun u hu=>?_⟩)
 ·have:=ai.fP s.1 (fm s.1 s.2.bG,fu s.1 s.2.bG) (ai.iH s.1) (f*(1 / 2))
  dsimp only at this ⊢
  rw [this,j]
  have:=ai.mp g l
  grind
 ·have:=ai.fP u.1 (fm s.1 s.2.bG,fu s.1 s.2.bG) (ai.iH s.1) (f*(1 / 2))
  dsimp only at this ⊢
  rw [this]
  have v:=d _ (h.mem u (List.mem_cons_of_mem _ hu)).1 (a u hu)
  by_cases q:ai.nv u.1 (ai.iH s.1)<0
  ·have:=i u.1 (List.mem_map.2 ⟨u,hu,rfl⟩) q
   dsimp only at this
   grind
  ·have:=ai.mn (show f≥0 by grind) (show ai.nv u.1 (ai.iH s.1)≥0 by grind)
   grind
end Go.Proofs.Tryz
namespace Go.Proofs.Tryz
open Go.bM Go.fR
theorem Gn {b d t0:Rat}(h:∀t,t0<=t->0<=b+d*t):0<=d:=by
 by_cases c:0<=d
 ·exact c
 exfalso
 have f:=h t0 Rat.le_refl
 have i:=Rat.mul_inv_cancel _ (show -d≠0 by grind)
 have a:(-d)⁻¹≥0:=by
  by_cases g:(-d)⁻¹≥0
  ·exact g
  ·have:=ai.mn (show -d≥0 by grind) (show -(-d)⁻¹≥0 by grind)
   grind
 have:=ai.mn (show b+d*t0+1≥0 by grind) a
 have:=h (t0+(b+d*t0+1)*(-d)⁻¹) (by grind)
 have e:d*((b+d*t0+1)*(-d)⁻¹)=-(b+d*t0+1):=by grind
 grind
theorem KY {b d t0:Rat}(h:∀t,t<=t0->0<=b+d*t):d<=0:=by
 have:=@Gn b (-d) (-t0) fun t a=>by
  have:=h (-t) (by grind)
  grind
 grind
theorem DR (l:L3):cZ l l=0:=by unfold cZ;grind
section
variable {M:List L3} {c:List Sd} (h:gV M c) (hk:∀m ∈ M,dH m=true)
include h hk
theorem Md {s:Sd}(hs:s∈c):s.2.b=true↔∀l∈c.map Prod.fst,0<=cZ l s.1:=by
 obtain ⟨n,o,f⟩:=h.mem s hs
 obtain ⟨t0,a⟩:=mh.1 o.2
 have v0:=(f t0).1 a
 constructor
 ·intro hb l q
  obtain ⟨u,hu,rfl⟩:=List.mem_map.1 q
  by_cases e:u.1=s.1
  ·rw [e,DR];exact Rat.le_refl
  refine Gn (b:=iT u.1 s.1) (t0:=t0) fun t i=>?_
  have:s.2.ny t:=⟨a.1.imp id fun g=>by grind,.inl hb⟩
  have:=(f t).1 this u.1 (h.mem u hu).1 e
  rw [eQ] at this
  grind
 ·intro j
  cases hb:s.2.b
  ·exfalso
   have lt:t0<s.2.hi:=by
    rcases a.2 with g|g
    ·rw [hb] at g;cases g
    ·exact g
   have r:∀t,t0<=t->∀m∈M,0<=ar m (fm s.1 t) (fu s.1 t):=fun t i=>BP h hk (p:=(fm s.1 t,fu s.1 t)) fun u hu=>by
    dsimp only
    rw [eQ]
    by_cases e:u.1=s.1
    ·have:=(lO (lx (hk _ n)) t).1
     rw [eQ] at this
     rw [e];grind
    have k:=v0 u.1 (h.mem u hu).1 e
    rw [eQ] at k
    have:=ai.mn (j u.1 (List.mem_map.2 ⟨u,hu,rfl⟩)) (show t-t0≥0 by grind)
    grind
   have:s.2.ny s.2.hi:=(f _).2 fun m hm e=>by
    have k:=v0 m hm e
    rw [eQ] at k ⊢
    have j:=Gn (b:=iT m s.1) (d:=cZ m s.1) (t0:=t0) fun t i=>by
     have:=r t i m hm
     rw [eQ] at this
     exact this
    have:=ai.mn j (show s.2.hi-t0≥0 by grind)
    grind
   rcases this.2 with g|g
   ·rw [hb] at g;cases g
   ·grind
  ·rfl
theorem Kb {s:Sd}(hs:s∈c):s.2.a=true↔∀l∈c.map Prod.fst,cZ l s.1<=0:=by
 obtain ⟨o,q,i⟩:=h.mem s hs
 obtain ⟨t0,f⟩:=mh.1 q.2
 have v0:=(i t0).1 f
 constructor
 ·intro hb l r
  obtain ⟨u,hu,rfl⟩:=List.mem_map.1 r
  by_cases e:u.1=s.1
  ·rw [e,DR];exact Rat.le_refl
  refine KY (b:=iT u.1 s.1) (t0:=t0) fun t j=>?_
  have:s.2.ny t:=⟨.inl hb,f.2.imp id fun g=>by grind⟩
  have:=(i t).1 this u.1 (h.mem u hu).1 e
  rw [eQ] at this
  grind
 ·intro n
  cases hb:s.2.a
  ·exfalso
   have lt:s.2.lo<t0:=by
    rcases f.1 with g|g
    ·rw [hb] at g;cases g
    ·exact g
   have v:∀t,t<=t0->∀m∈M,0<=ar m (fm s.1 t) (fu s.1 t):=fun t j=>BP h hk (p:=(fm s.1 t,fu s.1 t)) fun u hu=>by
    dsimp only
    rw [eQ]
    by_cases e:u.1=s.1
    ·have:=(lO (lx (hk _ o)) t).1
     rw [eQ] at this
     rw [e];grind
    have k:=v0 u.1 (h.mem u hu).1 e
    rw [eQ] at k
    have:=ai.mn (show -(cZ u.1 s.1)≥0 by have:=n u.1 (List.mem_map.2 ⟨u,hu,rfl⟩);grind) (show t0-t≥0 by grind)
    grind
   have:s.2.ny s.2.lo:=(i _).2 fun m hm e=>by
    have k:=v0 m hm e
    rw [eQ] at k ⊢
    have n:=KY (b:=iT m s.1) (d:=cZ m s.1) (t0:=t0) fun t j=>by
     have:=v t j m hm
     rw [eQ] at this
     exact this
    have:=ai.mn (show -(cZ m s.1)≥0 by grind) (show t0-s.2.lo≥0 by grind)
    grind
   rcases this.1 with g|g
   ·rw [hb] at g;cases g
   ·grind
  ·rfl
theorem Pw:(c≠[]/\∀s∈c,s.2.a=false/\s.2.b=false)↔c.map Prod.fst≠[]/\∀u∈c.map Prod.fst,(¬∀l∈c.map Prod.fst,0<=ai.cr (ai.au l) (ai.au u))/\¬∀l∈c.map Prod.fst,0<=ai.cr (ai.au l) (-(ai.au u).1,-(ai.au u).2):=by
 have j:∀l u:L3,ai.cr (ai.au l) (-(ai.au u).1,-(ai.au u).2)=-cZ l u:=fun l u=>by rw [←BS];unfold ai.cr;grind
 have m:c≠[]↔c.map Prod.fst≠[]:=by cases c<;>simp
 rw [m]
 refine and_congr_right fun _=>⟨fun g u hu=>?_,fun g s d=>?_⟩
 ·obtain ⟨s,d,rfl⟩:=List.mem_map.1 hu
  obtain ⟨f,i⟩:=g s d
  refine ⟨fun k=>?_,fun k=>?_⟩
  ·have:=(Md h hk d).2 fun l e=>by rw [←BS];exact k l e
   rw [i] at this;cases this
  ·have:=(Kb h hk d).2 fun l e=>by have:=k l e;rw [j] at this;grind
   rw [f] at this;cases this
 ·obtain ⟨f,i⟩:=g s.1 (List.mem_map.2 ⟨s,d,rfl⟩)
  constructor
  ·cases ha:s.2.a
   ·rfl
   ·exact absurd (fun l e=>by have:=(Kb h hk d).1 ha l e;rw [j];grind) i
  ·cases hb:s.2.b
   ·rfl
   ·exact absurd (fun l e=>by have:=(Md h hk d).1 hb l e;rw [BS];exact this) f
end
end Go.Proofs.Tryz
namespace Go.Proofs.Tryz
open Go.bM Go.fR
namespace ai
end ai
section
variable {M:List L3} {c:List Sd} (h:gV M c) (hk:∀m ∈ M,dH m=true)
include h hk
end
end Go.Proofs.Tryz
namespace Go.Proofs.Tryz
open Go.bM Go.fR
namespace ai
end ai
section
variable {M:List L3} {c:List Sd} (h:gV M c) (hk:∀m ∈ M,dH m=true)
include h hk
end
end Go.Proofs.Tryz
namespace Go.Proofs.Tryz
open Go.bM Go.fR
def tw (l:List ai.V2):Rat:=((List.range l.length).map fun i=>ai.cr (l.getD i (0,0)) (l.getD ((i+1)%l.length) (0,0))).sum
def kM (S:List L3):List ai.V2:=(List.range S.length).filterMap fun i=>if 0<ai.cr (ai.au (S.getD i (0,0,0))) (ai.au (S.getD ((i+1)%S.length) (0,0,0))) then some (Ed (S.getD i (0,0,0)) (S.getD ((i+1)%S.length) (0,0,0)),Ee (S.getD i (0,0,0)) (S.getD ((i+1)%S.length) (0,0,0))) else none
section
variable {M:List L3} {c:List Sd} (h:gV M c) (hk:∀m ∈ M,dH m=true) (hb:∀s ∈ c,s.2.a=false/\s.2.b=false)
include h hk hb
end
end Go.Proofs.Tryz
namespace Go.Proofs.Tryz
open Go.bM Go.fR
section
variable {M:List L3} {c:List Sd} (h:gV M c) (hk:∀m ∈ M,dH m=true) (hb:∀s ∈ c,s.2.a=false/\s.2.b=false)
include h hk hb
end
end Go.Proofs.Tryz
namespace Go.Proofs.Tryz
open Go.bM Go.fR
section
variable {M:List L3} {c:List Sd} (h:gV M c) (hk:∀m ∈ M,dH m=true) (hb:∀s ∈ c,s.2.a=false/\s.2.b=false)
include h hk hb
end
end Go.Proofs.Tryz
namespace Go.Proofs.Tryz
open Go.bM Go.fR
section
variable {M:List L3} {c:List Sd} (h:gV M c) (hk:∀m ∈ M,dH m=true)
include h hk
end
end Go.Proofs.Tryz
namespace Go.Proofs.Tryz
open Go.bM Go.fR
theorem kN.up {k K:Nat}{l:L3}(h:kN k l)(hk:k<=K):kN K l:=⟨h.1.mono hk,h.2.1.mono hk,h.2.2.mono hk⟩
theorem CB {L M:L3}{s:Sp}{k K:Nat}(sl:kN k L)(sm:kN k M)(hs:s.sz K)(hk:60*k+60<=K):(dM L s M).sz K:=by
 have z:=JI K (by omega)
 have c:=(uY sl sm).mono hk
 unfold dM
 split
 ·exact hs
 ·split
  ·exact Sp.Ce hs ⟨c,z⟩
  ·exact Sp.Ce hs ⟨z,c⟩
theorem HG {k:Nat}(hk:0<k):bD.sz k:=⟨JI k hk,JI k hk⟩
def UW (s:Sd):Prop:=Bd s.1/\s.2.sz 100000
theorem HJ {x:Sd}:∀{r:List Sd} {i:Nat},i<=r.length->(∀k (h:k<r.length),k<i->ai.cS (ai.au r[k].1) (ai.au x.1)<0)->(∀h:i<r.length,¬ai.cS (ai.au r[i].1) (ai.au x.1)<0)->nA x r=r.take i++x::r.drop i
 | [],i,hi,_,_=>by simp [nA]
 | s::r,0,_,_,h=>by
  have:¬ai.cS (ai.au s.1) (ai.au x.1)<0:=h (Nat.zero_lt_succ _)
  unfold nA
  rw [if_neg this]
  rfl
 | s::r,i+1,hi,h1,h2=>by
  have:ai.cS (ai.au s.1) (ai.au x.1)<0:=h1 0 (Nat.zero_lt_succ _) (Nat.zero_lt_succ _)
  unfold nA
  rw [if_pos this,HJ (r:=r) (i:=i) (by simpa using hi) (fun k hk a=>h1 (k+1) (by simpa using hk) (by omega)) fun h=>h2 (by simpa using h)]
  rfl
structure Bs (r:List Sd) (l:L3) (i j:Nat):Prop where
 le:i<=j
 len:j<=r.length
 lo:∀k (h:k<r.length),k<i->ai.cS (ai.au r[k].1) (ai.au l)<0
 hi:∀h:j<r.length,¬ai.cS (ai.au r[j].1) (ai.au l)<0
theorem Bs.start (r:List Sd)(l:L3):Bs r l 0 r.length:=⟨Nat.zero_le _,Nat.le_refl _,fun k h hk=>absurd hk (Nat.not_lt_zero _),fun h=>absurd h (Nat.lt_irrefl _)⟩
theorem Bs.up {r:List Sd}{l:L3}{i j h:Nat}(b:Bs r l i j)(rM:r.Pairwise fun s u=>ai.cS (ai.au s.1) (ai.au u.1)<0)(h2:h<j)(hl:h<r.length)(hc:ai.cS (ai.au r[h].1) (ai.au l)<0):Bs r l (h+1) j:=
 ⟨h2,b.len,fun k hk a=>by
  by_cases e:k=h
  ·subst e;exact hc
  ·exact Bt (List.pairwise_iff_getElem.1 rM k h hk hl (by omega)) hc,b.hi⟩
theorem Bs.down {r:List Sd}{l:L3}{i j h:Nat}(b:Bs r l i j)(h1:i<=h)(hl:h<r.length)(hc:¬ai.cS (ai.au r[h].1) (ai.au l)<0):Bs r l i h:=
 ⟨h1,by omega,b.lo,fun _=>hc⟩
theorem Bs.done {r:List Sd}{l:L3}{i:Nat}(b:Bs r l i i)(v:Sp):nA (l,v) r=r.take i++(l,v)::r.drop i:=HJ b.len b.lo b.hi
theorem RR.half (V:View):RR V (.agg #[.int .i64 1,.int .i64 1,.pointer none]) (((2:Int):Rat)⁻¹):=by
 have a:(((2:Int):Rat)⁻¹).num=1:=by decide +kernel
 have b:(((2:Int):Rat)⁻¹).den=2:=by decide +kernel
 refine .inl ⟨by rw [a,b];rfl,?_⟩
 unfold Wd
 rw [a,b];decide
theorem vA {V:View}{v:Value}{x:Rat}(hx:RR V v x){k:Nat}(hk:Sz k x)(hkm:k+2<1099511627776) :
  ab prog 151 #[v] V fun r V'=>RR V' r (x*((2:Int):Rat)⁻¹):=by
 have d:=hx
 obtain ⟨a,b,c,rfl⟩:=hx.shape
 refine xD a b c V _ fun e f=>(fJ (d.le f) (RR.half e) hk (cP qV) hkm).mono ?_
 rintro r V2 j g
 have h:=g
 obtain ⟨u,v,w,rfl⟩:=g.shape
 exact ⟨_,_,_,rfl,fun l i=>h.le i⟩
theorem tA {V:View}{v:Value}{s:Sp}(h:Ho V v s){k:Nat}(hs:s.sz k)(hk:4*k+8<1099511627776) :
  ab prog 133 #[v] V fun r V'=>RR V' r s.bG:=by
 obtain ⟨D,E,p,F,G,q,rfl,m,n⟩:=h
 have H:s.a=true->s.b=true->s.bG=0:=fun x y=>by simp [Sp.bG,x,y]
 have I:s.a=true->s.b=false->s.bG=s.hi-((1:Int):Rat):=fun x y=>by simp [Sp.bG,x,y]
 have J:s.a=false->s.b=true->s.bG=s.lo+((1:Int):Rat):=fun x y=>by simp [Sp.bG,x,y]
 have K:s.a=false->s.b=false->s.bG=(s.lo+s.hi)*((2:Int):Rat)⁻¹:=fun x y=>by simp [Sp.bG,x,y]
 have no:∀{P:Prop},s.a=true->s.a=false->P:=fun x y=>by rw [x] at y;cases y
 have L:∀{P:Prop},s.b=true->s.b=false->P:=fun x y=>by rw [x] at y;cases y
 refine sR D E p F G q s.a s.b V _ ⟨fun c=>⟨fun hb O Q=>?_,fun hb=>⟨fun _ V2 M=>(gY 1 (by decide) (by decide)).mono ?_,fun e=>no c e⟩⟩,fun c=>⟨fun e=>no e c,fun _=>⟨fun hb R N=>(gY 1 (by decide) (by decide)).mono ?_,fun hb S o=>(jZ (m.le o) (n.le o) hs.1 hs.2 (by omega)).mono ?_⟩⟩⟩
 ·rw [H c hb];exact RR.zero _
 ·rintro r t l g
  have i:=g
  obtain ⟨u,v,w,rfl⟩:=g.shape
  refine ⟨_,_,_,rfl,fun z d=>(qb (n.le (M.trans (l.trans d))) (i.le d) hs.2 fO (by omega)).mono ?_⟩
  rintro r A B f
  have f0:=f
  obtain ⟨u,v,w,rfl⟩:=f.shape
  exact ⟨_,_,_,rfl,fun C j=>by rw [I c hb];exact f0.le j⟩
 ·rintro r t l g
  have i:=g
  obtain ⟨u,v,w,rfl⟩:=g.shape
  refine ⟨_,_,_,rfl,fun z d=>(jZ (m.le (N.trans (l.trans d))) (i.le d) hs.1 fO (by omega)).mono ?_⟩
  rintro r A B f
  have f0:=f
  obtain ⟨u,v,w,rfl⟩:=f.shape
  exact ⟨_,_,_,rfl,fun C j=>by rw [J c hb];exact f0.le j⟩
 ·rintro r t l g
  have i:=g
  obtain ⟨u,v,w,rfl⟩:=g.shape
  refine ⟨_,_,_,rfl,fun z d=>(vA (i.le d) (hs.1.add hs.2) (by omega)).mono ?_⟩
  rintro r A B f
  have f0:=f
  obtain ⟨u,v,w,rfl⟩:=f.shape
  exact ⟨_,_,_,rfl,fun C j=>by rw [K c hb];exact f0.le j⟩
theorem RW {V:View}:ab prog 179 #[] V fun r V'=>r=.agg #[.int .i64 0,.int .i64 0,.pointer none,.int .i64 0,.int .i64 0,.pointer none,.bool true,.bool true]:=
 GZ V _ fun a b=>rfl
def gW (V:View)(v:Value)(s:Sd):Prop:=Pn V v s.1 s.2/\UW s
theorem gW.le {V V':View}{v:Value}{s:Sd}(h:gW V v s)(l:V.Le V'):gW V' v s:=⟨h.1.le l,h.2⟩
theorem gW.shape {V:View}{v:Value}{s:Sd}(h:gW V v s):∃(x1:Int)(x2:Int)(p:OA)(y1:Int)(y2:Int)(q:OA)(z1:Int)(z2:Int)(r:OA)(u1:Int)(u2:Int)(t:OA)(w1:Int)(w2:Int)(o:OA),v=.agg #[.int .i64 x1,.int .i64 x2,.pointer p,.int .i64 y1,.int .i64 y2,.pointer q,.int .i64 z1,.int .i64 z2,.pointer r,.int .i64 u1,.int .i64 u2,.pointer t,.int .i64 w1,.int .i64 w2,.pointer o,.bool s.2.a,.bool s.2.b]:=by
 obtain ⟨x1,x2,p,y1,y2,q,z1,z2,r,u1,u2,t,w1,w2,o,e,-⟩:=h.1
 exact ⟨x1,x2,p,y1,y2,q,z1,z2,r,u1,u2,t,w1,w2,o,e⟩
theorem Ll {x1:Int}{x2:Int}{p:OA}{y1:Int}{y2:Int}{q:OA}{z1:Int}{z2:Int}{r:OA}{u1:Int}{u2:Int}{t:OA}{w1:Int}{w2:Int}{o:OA}{c d:Bool}:∀v∈([.int .i64 x1,.int .i64 x2,.pointer p,.int .i64 y1,.int .i64 y2,.pointer q,.int .i64 z1,.int .i64 z2,.pointer r,.int .i64 u1,.int .i64 u2,.pointer t,.int .i64 w1,.int .i64 w2,.pointer o,.bool c,.bool d]:List Value),v.oneCell'=true:=by
 intro v hm
 simp only [List.mem_cons,List.not_mem_nil,or_false] at hm
 rcases hm with rfl|rfl|rfl|rfl|rfl|rfl|rfl|rfl|rfl|rfl|rfl|rfl|rfl|rfl|rfl|rfl|rfl<;>rfl
theorem N5 {V:View}{s:Sd}:∀xs,gW V (.agg (List.toArray xs)) s->∀v∈xs,v.oneCell'=true:=by
 intro xs h
 obtain ⟨a,b,p,c,d,q,f,g,r,i,j,t,k,l,o,e⟩:=h.shape
 have e:=congrArg Array.toList (Value.agg.inj e)
 dsimp only at e
 subst e
 exact Ll
theorem ja {V:View}{c:OA}{n:Nat}{al:List Sd}(h:cB 17 gW V c n al){i:Nat}(hi:i<al.length) :
  c.isSome=true/\∃(x1:Int)(x2:Int)(p:OA)(y1:Int)(y2:Int)(q:OA)(z1:Int)(z2:Int)(r:OA)(u1:Int)(u2:Int)(t:OA)(w1:Int)(w2:Int)(o:OA)(a:Addr),ag c (i*17)=some a/\V.at (a.add 0) (.int .i64 x1)/\V.at (a.add 1) (.int .i64 x2)/\V.at (a.add 2) (.pointer p)/\V.at (a.add 3) (.int .i64 y1)/\V.at (a.add 4) (.int .i64 y2)/\V.at (a.add 5) (.pointer q)/\V.at (a.add 6) (.int .i64 z1)/\V.at (a.add 7) (.int .i64 z2)/\V.at (a.add 8) (.pointer r)/\V.at (a.add 9) (.int .i64 u1)/\V.at (a.add 10) (.int .i64 u2)/\V.at (a.add 11) (.pointer t)/\V.at (a.add 12) (.int .i64 w1)/\V.at (a.add 13) (.int .i64 w2)/\V.at (a.add 14) (.pointer o)/\V.at (a.add 15) (.bool al[i].2.a)/\V.at (a.add 16) (.bool al[i].2.b) /\
   gW V (.agg #[.int .i64 x1,.int .i64 x2,.pointer p,.int .i64 y1,.int .i64 y2,.pointer q,.int .i64 z1,.int .i64 z2,.pointer r,.int .i64 u1,.int .i64 u2,.pointer t,.int .i64 w1,.int .i64 w2,.pointer o,.bool al[i].2.a,.bool al[i].2.b]) al[i]:=by
 obtain ⟨k,g,xs,l,j,d⟩:=h.at_ i hi
 have f:=j
 obtain ⟨x1,x2,p,y1,y2,q,z1,z2,r,u1,u2,t,w1,w2,o,e⟩:=j.shape
 have e:=congrArg Array.toList (Value.agg.inj e)
 dsimp only at e
 subst e
 refine ⟨?_,x1,x2,p,y1,y2,q,z1,z2,r,u1,u2,t,w1,w2,o,k,g,d 0 _ rfl,d 1 _ rfl,d 2 _ rfl,d 3 _ rfl,d 4 _ rfl,d 5 _ rfl,d 6 _ rfl,d 7 _ rfl,d 8 _ rfl,d 9 _ rfl,d 10 _ rfl,d 11 _ rfl,d 12 _ rfl,d 13 _ rfl,d 14 _ rfl,d 15 _ rfl,d 16 _ rfl,f⟩
 cases c with
 | none=>cases g
 | some a=>rfl
theorem H3 {V:View}{vs:List Value}{al:List Sd}(h:Row 17 gW V vs al){i:Nat}(hi:i<al.length):∃(x1:Int)(x2:Int)(p:OA)(y1:Int)(y2:Int)(q:OA)(z1:Int)(z2:Int)(r:OA)(u1:Int)(u2:Int)(t:OA)(w1:Int)(w2:Int)(o:OA),i*17+17<=vs.length/\(vs.drop (i*17)).take 17=[.int .i64 x1,.int .i64 x2,.pointer p,.int .i64 y1,.int .i64 y2,.pointer q,.int .i64 z1,.int .i64 z2,.pointer r,.int .i64 u1,.int .i64 u2,.pointer t,.int .i64 w1,.int .i64 w2,.pointer o,.bool al[i].2.a,.bool al[i].2.b] /\
  gW V (.agg #[.int .i64 x1,.int .i64 x2,.pointer p,.int .i64 y1,.int .i64 y2,.pointer q,.int .i64 z1,.int .i64 z2,.pointer r,.int .i64 u1,.int .i64 u2,.pointer t,.int .i64 w1,.int .i64 w2,.pointer o,.bool al[i].2.a,.bool al[i].2.b]) al[i]:=by
 obtain ⟨xs,k,d,f⟩:=h.at_ i hi
 have l:=h.iM (by decide)
 have c:=d
 obtain ⟨x1,x2,p,y1,y2,q,z1,z2,r,u1,u2,t,w1,w2,o,e⟩:=d.shape
 have e:=congrArg Array.toList (Value.agg.inj e)
 dsimp only at e
 subst e
 refine ⟨x1,x2,p,y1,y2,q,z1,z2,r,u1,u2,t,w1,w2,o,by omega,?_,c⟩
 apply List.ext_getElem?
 intro j
 rw [List.getElem?_take]
 split
 ·rename_i g
  rw [List.getElem?_drop]
  exact f j _ (List.getElem?_eq_getElem (by show j<17;omega))▸(List.getElem?_eq_getElem (by show j<17;omega)).symm
 ·rename_i g
  rw [List.getElem?_eq_none (by show 17<=j;omega)]
theorem gW.both {V:View}{s:Sd}{x1:Int}{x2:Int}{p:OA}{y1:Int}{y2:Int}{q:OA}{z1:Int}{z2:Int}{r:OA}{u1:Int}{u2:Int}{t:OA}{w1:Int}{w2:Int}{o:OA}{c d:Bool}(h:gW V (.agg #[.int .i64 x1,.int .i64 x2,.pointer p,.int .i64 y1,.int .i64 y2,.pointer q,.int .i64 z1,.int .i64 z2,.pointer r,.int .i64 u1,.int .i64 u2,.pointer t,.int .i64 w1,.int .i64 w2,.pointer o,.bool c,.bool d]) s) :
  yv V (.agg #[.int .i64 x1,.int .i64 x2,.pointer p,.int .i64 y1,.int .i64 y2,.pointer q,.int .i64 z1,.int .i64 z2,.pointer r]) s.1/\Ho V (.agg #[.int .i64 u1,.int .i64 u2,.pointer t,.int .i64 w1,.int .i64 w2,.pointer o,.bool s.2.a,.bool s.2.b]) s.2/\c=s.2.a/\d=s.2.b:=by
 obtain ⟨f,g,y,i,j,z,k,l,r',m,n,A,u,v,B,e,w,x⟩:=h.1
 have e:=congrArg Array.toList (Value.agg.inj e)
 simp only [List.cons.injEq,Value.bool.injEq,Value.int.injEq,Value.pointer.injEq,true_and,and_true] at e
 obtain ⟨rfl,rfl,rfl,rfl,rfl,rfl,rfl,rfl,rfl,rfl,rfl,rfl,rfl,rfl,rfl,rfl,rfl⟩:=e
 exact ⟨w,x,rfl,rfl⟩
theorem my:∀{c d:List Sd} {l:L3} {v:Sp},dI (c++d) l v=(dI c l v).bind (dI d l)
 | [],_,_,_=>rfl
 | s::c,d,l,v=>by
  rw [List.cons_append]
  unfold dI
  split
  ·exact my
  ·rfl
theorem tz {V:View}{cp:OA}{cn cc:Nat}{c:List Sd}{lv:Value}{l:L3}(h:cB 17 gW V cp cn c)(hl:yv V lv l)(hb:Bd l)(hn:c.length<=1000000) :
  ab prog 130 #[.slice cp cn cc,lv] V fun r V'=>∃w,r=.tuple #[w,.bool (dI c l bD).isSome]/\Ho V' w ((dI c l bD).getD Sp.zero)/\((dI c l bD).getD Sp.zero).sz 100000:=by
 have n:=hl
 obtain rfl:=h.len
 obtain ⟨_,_,_,_,_,_,_,_,_,rfl,-,-,-⟩:=hl
 have K:∀{i:Nat} (o:i<c.length) {s:Sp},dI (c.take i) l bD=some s->dI (c.take (i+1)) l bD=if eA l s c[i].1=true then some (dM l s c[i].1) else none:=fun {i} o {s} e=>by
  rw [List.take_add_one,List.getElem?_eq_getElem o,my,e]
  show dI [c[i]] l s=_
  unfold dI
  rfl
 refine sQ cp _ cc _ _ _ _ _ _ _ _ _ V _ fun V1 L=>RW.mono ?_
 rintro r V2 M rfl
 have N:=L.trans M
 refine ⟨_,_,_,_,_,_,_,_,rfl,fun z V'=>∃(i:Nat)(s:Sp),z.1=(i:Int)/\i<=c.length/\dI (c.take i) l bD=some s/\s.sz 100000/\z.2.2.2.2.2.2.2.1=s.a/\z.2.2.2.2.2.2.2.2=s.b/\Ho V' (.agg #[.int .i64 z.2.1,.int .i64 z.2.2.1,.pointer z.2.2.2.1,.int .i64 z.2.2.2.2.1,.int .i64 z.2.2.2.2.2.1,.pointer z.2.2.2.2.2.2.1,.bool s.a,.bool s.b]) s,
  fun z=>c.length-z.1.toNat,⟨(0,0,0,none,0,0,none,true,true),by and_intros<;>rfl,0,bD,rfl,Nat.zero_le _,rfl,HG (by omega),rfl,rfl,⟨_,_,_,_,_,_,rfl,RR.zero _,RR.zero _⟩⟩,?_⟩
 rintro ⟨z1,x1,x2,p,y1,y2,q,ba,bb⟩ V3 O ⟨i,s,E,o,t,u,F,G,x⟩
 dsimp only at E F G x ⊢
 subst E F G
 have L3:=N.trans O
 refine ⟨rfl,fun f=>?_,fun f V7 P=>?_⟩
 ·have f:(i:Int)<c.length:=of_decide_eq_true f
  have j:i<c.length:=by omega
  have w:i64.wrap ((i:Int)+1)=((i+1:Nat):Int):=by rw [ay (by omega)];rfl
  rw [Int.toNat_natCast,w]
  obtain ⟨Q,a1,a2,a3,a4,a5,a6,a7,a8,a9,b1,b2,b3,b4,b5,b6,a,R,S,T,U,W,X,Y,Z,h7,h8,h9,y,A,B,Q8,JD,Q9,C,H⟩:=ja (h.le L3 fun _ _ g=>gW.le g L3) j
  obtain ⟨rl,ri,-,-⟩:=H.both
  have I:=K j t
  have J:=H.2
  refine ⟨Q,⟨by omega,by omega⟩,_,_,_,_,_,_,_,_,_,_,_,_,_,_,_,_,_,a,R,S,T,U,W,X,Y,Z,h7,h8,h9,y,A,B,Q8,JD,Q9,C,fun V4 D=>(Dq (n.le (L3.trans D)) (x.le D) (rl.le D) (k:=100000) (hb.fa.up (by omega)) u (J.1.fa.up (by omega)) (by omega)).mono ?_⟩
  rintro r V5 l5 ⟨w5,rfl,g⟩
  have g0:=g
  obtain ⟨_,_,_,_,_,_,rfl,-,-⟩:=g
  refine ⟨_,_,_,_,_,_,_,_,_,rfl,fun m V6 l6=>?_,fun m=>⟨(((i+1:Nat):Int),_,_,_,_,_,_,_,_),by dsimp only;omega,by and_intros<;>rfl,i+1,dM l s c[i].1,rfl,j,?_,CB hb.fa J.1.fa u (by omega),rfl,rfl,g0⟩⟩
  ·have m:eA l s c[i].1=false:=by simpa using m
   have e:dI c l bD=none:=by
    have:=my (c:=c.take (i+1)) (d:=c.drop (i+1)) (l:=l) (v:=bD)
    rw [List.take_append_drop,I,m] at this
    exact this
   rw [e]
   exact ⟨_,rfl,⟨_,_,_,_,_,_,rfl,RR.zero _,RR.zero _⟩,JI _ (by omega),JI _ (by omega)⟩
  ·have m:eA l s c[i].1=true:=by simpa using m
   rw [I,if_pos m]
 ·have f:¬(i:Int)<c.length:=of_decide_eq_false f
  obtain rfl:i=c.length:=by omega
  rw [List.take_length] at t
  rw [t]
  exact ⟨_,rfl,x.le P,u⟩
def Rh (c:List Sd)(l:L3):Int:=if (dI c l bD).isSome=true then 0 else fk c l
theorem BC {V:View}{cp:OA}{cn cc:Nat}{c:List Sd}{lv:Value}{l:L3}(h:cB 17 gW V cp cn c)(hl:yv V lv l)(hb:Bd l)(hn:c.length<=1000000) :
  ab prog 78 #[.slice cp cn cc,lv] V fun r V'=>r=.int .i64 (Rh c l):=by
 have e:=hl
 obtain rfl:=h.len
 obtain ⟨_,_,_,_,_,_,_,_,_,rfl,-,-,-⟩:=hl
 refine rA cp _ cc _ _ _ _ _ _ _ _ _ V _ fun V1 q=>(tz (h.le q fun _ _ g=>gW.le g q) (e.le q) hb hn).mono ?_
 rintro r V2 I ⟨w,rfl,g,-⟩
 obtain ⟨_,_,_,_,_,_,rfl,-,-⟩:=g
 have J:=q.trans I
 refine ⟨_,_,_,_,_,_,_,_,_,rfl,fun m V3 l3=>by unfold Rh;rw [if_pos m],fun m=>?_⟩
 have m:(dI c l bD).isSome=false:=m
 have K:Rh c l=fk c l:=by unfold Rh;rw [if_neg (by rw [m];exact Bool.false_ne_true)]
 rw [K]
 refine ⟨fun z V'=>∃i:Nat,z=(i:Int)/\i<=c.length/\fk c l=fk (c.drop i) l,fun z=>c.length-z.toNat,⟨0,by and_intros<;>rfl,0,rfl,Nat.zero_le _,rfl⟩,?_⟩
 rintro z V4 L ⟨i,rfl,hi,b⟩
 have s:=J.trans L
 refine ⟨rfl,fun d=>?_,fun d lN dp=>?_⟩
 ·have d:(i:Int)<c.length:=of_decide_eq_true d
  have f:i<c.length:=by omega
  have w:i64.wrap ((i:Int)+1)=((i+1:Nat):Int):=by rw [ay (by omega)];rfl
  rw [Int.toNat_natCast,w]
  obtain ⟨M,a1,a2,a3,a4,a5,a6,a7,a8,a9,b1,b2,b3,b4,b5,b6,a,N,O,P,Q,R,T,U,W,X,Y,Z,v,x,y,Q8,JD,Q9,A,E⟩:=ja (h.le s fun _ _ g=>gW.le g s) f
  obtain ⟨F,ri,-,-⟩:=E.both
  have j:=E.2
  have ed:c.drop i=c[i]::c.drop (i+1):=List.drop_eq_getElem_cons f
  rw [ed] at b
  have b:fk c l=if (ar l (fm c[i].1 c[i].2.bG) (fu c[i].1 c[i].2.bG)).num.sign≠0 then (ar l (fm c[i].1 c[i].2.bG) (fu c[i].1 c[i].2.bG)).num.sign else if c[i].1=l then 1 else fk (c.drop (i+1)) l:=b.trans (by rfl)
  generalize c[i]=S at *
  have B:=CD j.2
  refine ⟨M,⟨by omega,by omega⟩,_,_,_,_,_,_,_,_,_,_,_,_,_,_,_,_,_,a,N,O,P,Q,R,T,U,W,X,Y,Z,v,x,y,Q8,JD,Q9,A,fun V5 n=>(tA (ri.le n) j.2 (by omega)).mono ?_⟩
  rintro r V6 t g
  have g0:=g
  obtain ⟨_,_,_,rfl⟩:=g.shape
  refine ⟨_,_,_,rfl,fun V7 o=>(SJ (F.le (n.trans (t.trans o))) (g0.le o) (k:=300000) (j.1.fa.up (by omega)) (B.mono (by omega)) (by omega)).mono ?_⟩
  rintro r V8 C G
  have V_:=G
  obtain ⟨_,_,_,_,_,_,rfl,-,-⟩:=G
  have sx:=Cz (j.1.fa.up (show 1000<=300000 by omega)) (B.mono (show 2*100000+10<=300000 by omega))
  have sy:=CA (j.1.fa.up (show 1000<=300000 by omega)) (B.mono (show 2*100000+10<=300000 by omega))
  refine ⟨_,_,_,_,_,_,rfl,fun V9 u=>(Qb (e.le (s.trans (n.trans (t.trans (o.trans (C.trans u)))))) (V_.le u) (hb.fa.up (by omega)) sx sy (by omega)).mono ?_⟩
  rintro r iI p rfl
  refine ⟨_,rfl,fun D ie bA=>?_,fun D lL H=>(Nn (F.le (n.trans (t.trans (o.trans (C.trans (u.trans (p.trans H))))))) (e.le (s.trans (n.trans (t.trans (o.trans (C.trans (u.trans (p.trans H)))))))) (k:=1000) j.1.fa hb.fa (by omega)).mono ?_⟩
  ·rw [b,if_pos (by simpa using D)]
  ·rintro r o_ cg rfl
   rw [if_neg (by simpa using D)] at b
   refine ⟨_,rfl,fun he mJ c_=>?_,fun he=>⟨((i+1:Nat):Int),by dsimp only;omega,by and_intros<;>rfl,i+1,rfl,f,?_⟩⟩
   ·rw [b,if_pos (of_decide_eq_true he)]
   ·rw [b,if_neg (of_decide_eq_false he)]
 ·have d:¬(i:Int)<c.length:=of_decide_eq_false d
  obtain rfl:i=c.length:=by omega
  rw [b,List.drop_length]
  rfl
end Go.Proofs.Tryz
namespace Go.bM
open Go.Lib
variable {P:Program}
theorem km (w:World)(dT sT ty elem:TypeId)(sz b o dLen dCap:Nat)(a:Addr)(sLen sCap:Nat)(cs:List Value)
  (hu:P.underlying dT=some (.slice elem))(hs:(P.info? elem).map (·.size)=some sz)(hn:cs.length=Nat.min sLen dLen*sz)
  (hsrc:∀j v,cs[j]?=some v->w.cell? (a.add j)=some v)(hc:∀j,j<cs.length->(w.cell? ⟨b,o+j,none⟩).isSome=true)(hf:∀j,j<cs.length->w.frozen? ⟨b,o+j,none⟩=false)(h1:∀v∈cs,v.oneCell'=true) :
  (Builtin.copy_ #[dT,sT] ty #[.slice (some ⟨b,o,none⟩) dLen dCap,.slice (some a) sLen sCap]).run P w=.ok (goInt (Nat.min sLen dLen)) (w.setCells b o cs):=by
 have d:=run_loadCells_list (P:=P) w a cs hsrc
 have c:=run_storeCells_cells (P:=P) b o cs 0 w (by simpa using hc) (by simpa using hf) h1
 cases hq:P.info? elem with
 | none=>simp [hq] at hs
 | some i=>
  have e:i.size=sz:=by simpa [hq] using hs
  simp [Builtin.copy_,run_underlying hu,Builtin.lenOf,Builtin.firstCells,sizeOf,typeInfo,hq,e,←hn,d,c]
theorem C7 (w:World){o:Oper}{a:Act}{K:Act->World->Prop}{Q:Exit->Act->World->Prop}(d s:Operand)(t t':TypeId)
  (ho:o.op=.call { callee:=.builtin .copy,args:=#[d,s],argTypes:=#[t,t'] })(v u:Value)(hd:a.eval d=v)(hs:a.eval s=u){v':Value}{w':World}
  (hr:(Builtin.copy_ #[t,t'] o.type #[v,u]).run P w=.ok v' w')(h:K (a.put o.dst v') w'):o.wp P a w K Q:=by
 unfold Oper.wp execOp
 simp only [ho,resolve,invoke,builtin,Sem.run_bind,Sem.run_pure,Result.andThen_ok,List.map_toArray,List.map_cons,List.map_nil,hd,hs,hr]
 exact h
theorem lI (w:World){ops:Array Oper}{rest:List Oper}{o:Oper}{a:Act}{Q:Exit->Act->World->Prop}(hgd:o.guard=none)(d s:Operand)(t t':TypeId)
  (ho:o.op=.call { callee:=.builtin .copy,args:=#[d,s],argTypes:=#[t,t'] })(v u:Value)(hd:a.eval d=v)(hs:a.eval s=u){v':Value}{w':World}
  (hr:(Builtin.copy_ #[t,t'] o.type #[v,u]).run P w=.ok v' w')(h:wpList P ops Q rest (a.put o.dst v') w'):wpList P ops Q (o::rest) a w:=
 wpList_plain hgd fun _ b=>C7 w d s t t' ho v u hd hs hr (b _ _ h)
theorem nO {ops:Array Oper}{o:Oper}{a:Act}{w:World}{K:Act->World->Prop}{Q:Exit->Act->World->Prop}{E:Prop}
  (hg:o.guard=none)(d x:Operand)(dT sT:TypeId)(hop:o.op=Op.call { callee:=Callee.builtin Builtin.copy,args:=#[d,x],argTypes:=#[dT,sT] })
  (v u:Value)(hd:a.eval d=v)(hx:a.eval x=u){v':Value}{w':World}(hr:(Builtin.copy_ #[dT,sT] o.type #[v,u]).run P w=.ok v' w')(hK:K (a.put o.dst v') w') :
  if Region.wanted o (yielded ops a.tmps)=true then Oper.wp P o a w K Q else E:=by
 have hw:Region.wanted o (yielded ops a.tmps)=true:=by simp [Region.wanted,hg]
 rw [if_pos hw]
 unfold Oper.wp
 simp [execOp,hop,resolve,invoke,builtin,hd,hx,hr,Result.andThen]
 exact hK
theorem fU {w:World}{b o:Nat}{vs:List Value}{ty:TypeId}(h:w.heap[b]?=some (.cells vs.toArray ty (0,0))):w.frozen? ⟨b,o,none⟩=false:=by simp [World.frozen?,h]
theorem Bi {w:World}{b:Nat}{vs:List Value}{ty:TypeId}(h:w.heap[b]?=some (.cells vs.toArray ty (0,0))):w.shape? b=some (ty,vs.length):=by simp [World.shape?,h]
theorem bW {w:World}{b o:Nat}{vs:List Value}{ty:TypeId}(h:w.heap[b]?=some (.cells vs.toArray ty (0,0))):w.cell? ⟨b,o,none⟩=vs[o]?:=cell_of_row h
theorem vZ (X:Nat->Prop)(w:World):fq X w w.drew:=⟨Nat.le_refl _,fun _ _ _=>rfl,rfl,rfl,rfl⟩
theorem sf (X:Nat->Prop)(w:World)(o:Obj):fq X w (w.alloc o):=⟨by rw [show (w.alloc o).heap.size=w.heap.size+1 from Array.size_push ..];omega,fun b hb _=>b_ w o hb,rfl,rfl,rfl⟩
theorem F4 {w:World}{g:Nat}{old cs:Array Value}{ty:TypeId}(h:w.heap[g]?=some (.cells old ty (0,0))):fq (·=g) w (w.setRow g cs):=by
 refine ⟨?_,fun b hb a=>?_,?_,?_,?_⟩
 ·rw [eO h,Array.size_setIfInBounds];exact Nat.le_refl _
 ·rw [eO h,Array.getElem?_setIfInBounds_ne (fun e=>a e.symm)]
 all_goals simp [World.setRow,h]
theorem dg {b:Nat}{ty:TypeId}:∀(xs:List Value)(o:Nat)(vs:List Value)(w:World),w.heap[b]?=some (.cells vs.toArray ty (0,0))->o+xs.length<=vs.length ->
  (w.setCells b o xs).heap[b]?=some (.cells (vs.take o++xs++vs.drop (o+xs.length)).toArray ty (0,0))/\fq (·=b) w (w.setCells b o xs)
 | [],o,vs,w,h,hl=>⟨by rw [World.setCells,List.append_nil,List.length_nil,Nat.add_zero,List.take_append_drop];exact h,fq.refl _ _⟩
 | x::xs,o,vs,w,h,hl=>by
  rw [List.length_cons] at hl
  have e1:w.setCell ⟨b,o,none⟩ x=w.setRow b (vs.toArray.setIfInBounds o x):=setCell_eq_setRow w b o vs.toArray ty (0,0) x h
  have a:vs.toArray.setIfInBounds o x=(vs.set o x).toArray:=by simp
  rw [World.setCells,e1,a]
  have c:(w.setRow b (vs.set o x).toArray).heap[b]?=some (.cells (vs.set o x).toArray ty (0,0)):=setRow_heap w b vs.toArray _ ty (0,0) h
  obtain ⟨d,e⟩:=dg xs (o+1) (vs.set o x) _ c (by rw [List.length_set];omega)
  refine ⟨?_,(F4 h).trans e⟩
  rw [d]
  congr 3
  rw [List.take_set,List.take_add_one,List.getElem?_eq_getElem (by omega),List.drop_set_of_lt (by omega),List.length_cons,show o+1+xs.length=o+(xs.length+1) by omega]
  rw [List.set_append_right _ _ (by rw [List.length_take];omega),List.length_take,Nat.min_eq_left (by omega),Nat.sub_self]
  simp
end Go.bM
