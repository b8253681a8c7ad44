import Derived.Test.YtnnbfoejafcdlaaGreatDoorE14
import Derived.Test.YtnnbfoejafcdlaaGreatDoorE13
import Derived.Test.YtnnbfoejafcdlaaGreatDoorE7
import Derived.Test.YtnnbfoejafcdlaaGreatDoorE5
set_option linter.unusedVariables false
open Go.IntKind (i64 u64 u32)
namespace Go.Proofs.Tryz.aq
def mx (x:Rat×Rat)(t:Rat):Rat:=x.1+t*(x.2-x.1)
theorem Fy {x:Rat×Rat}{t:Rat}(h1:x.1>0)(h2:x.2>0)(t0:t>0)(t1:t<=1):mx x t>0:=by
 have a:=mn (show 1-t≥0 by grind) (show x.1≥0 by grind)
 have b:=mp t0 h2
 unfold mx;grind
theorem O2 {x:Rat×Rat}{t s:Rat}(h1:x.1>0)(hs:mx x s≥0)(s0:s>0)(t0:t>0)(ts:t<=s):mx x t≥0:=by
 unfold mx at *
 have e:s*(x.1+t*(x.2-x.1))=(s-t)*x.1+t*(x.1+s*(x.2-x.1)):=by grind
 have a:=mn (show s-t≥0 by grind) (show x.1≥0 by grind)
 have b:=mn (show t≥0 by grind) hs
 by_cases h:x.1+t*(x.2-x.1)≥0
 ·exact h
 ·have:=mp s0 (show -(x.1+t*(x.2-x.1))>0 by grind)
  grind
theorem uc {y:Rat×Rat}(h1:y.1>0){s:Rat}(s0:s>0)(hs:mx y s<=0):∃t,t>0/\t<=s/\mx y t=0:=by
 have hd:y.1-y.2>0:=by
  by_cases c:y.1-y.2>0
  ·exact c
  ·have:=mn (show s≥0 by grind) (show y.2-y.1≥0 by grind)
   unfold mx at hs;grind
 have e:=inv_mul (show y.1-y.2≠0 by grind) y.1
 have p:=mp h1 (Rat.inv_pos.2 hd)
 refine ⟨y.1*(y.1-y.2)⁻¹,p,?_,?_⟩
 ·generalize y.1*(y.1-y.2)⁻¹=t at *
  by_cases c:t<=s
  ·exact c
  ·have:=mp (show t-s>0 by grind) hd
   unfold mx at hs;grind
 ·generalize y.1*(y.1-y.2)⁻¹=t at *
  unfold mx;grind
theorem E6:∀(L:List (Rat×Rat)),(∀x∈L,x.1>0)->(∃x∈L,x.2<=0)->∃t,t>0/\t<=1/\(∀x∈L,mx x t≥0)/\∃x∈L,mx x t=0
 | [],_,h=>by obtain ⟨x,hx,_⟩:=h;cases hx
 | y::L,h0,h=>by
  have hy:=h0 y (List.mem_cons_self ..)
  have hL:=fun x hx=>h0 x (List.mem_cons_of_mem y hx)
  by_cases c:∃x∈L,x.2<=0
  ·obtain ⟨t,t0,t1,a,x,hx,e⟩:=E6 L hL c
   by_cases g:mx y t≥0
   ·exact ⟨t,t0,t1,fun z hz=>by rcases List.mem_cons.1 hz with rfl|hz;exact g;exact a z hz,x,List.mem_cons_of_mem _ hx,e⟩
   ·obtain ⟨s,s0,st,es⟩:=uc hy t0 (by grind)
    exact ⟨s,s0,by grind,fun z hz=>by rcases List.mem_cons.1 hz with rfl|hz;grind;exact O2 (hL z hz) (a z hz) t0 s0 st,y,List.mem_cons_self ..,es⟩
  ·obtain ⟨x,hx,hx2⟩:=h
   have:x=y:=by
    rcases List.mem_cons.1 hx with rfl|hx
    ·rfl
    ·exact absurd ⟨x,hx,hx2⟩ c
   subst this
   obtain ⟨s,s0,st,es⟩:=uc hy (s:=1) (by decide) (by unfold mx;grind)
   refine ⟨s,s0,st,fun z hz=>?_,x,List.mem_cons_self ..,es⟩
   rcases List.mem_cons.1 hz with rfl|hz
   ·grind
   ·have:z.2>0:=by
     by_cases q:z.2>0
     ·exact q
     ·exact absurd ⟨z,hz,by grind⟩ c
    have:=Fy (hL z hz) this s0 st
    grind
theorem BE:∀(L:List (Rat×Rat)),(∀x∈L,x.1>0)->∃s,s>0/\∀x∈L,x.1+s*x.2>0
 | [],_=>⟨1,by decide,fun x h=>by cases h⟩
 | y::L,h0=>by
  have hy:=h0 y (List.mem_cons_self ..)
  obtain ⟨s,s0,h⟩:=BE L fun x hx=>h0 x (List.mem_cons_of_mem y hx)
  by_cases c:y.1+s*y.2>0
  ·exact ⟨s,s0,fun z hz=>by rcases List.mem_cons.1 hz with rfl|hz;exact c;exact h z hz⟩
  ·have hn:-y.2>0:=by
    by_cases q:y.2<0
    ·grind
    ·have:=mn (show s≥0 by grind) (show y.2≥0 by grind);grind
   have e:=inv_mul (show -y.2≠0 by grind) y.1
   have p:=mp hy (Rat.inv_pos.2 hn)
   generalize y.1*(-y.2)⁻¹=r at *
   have hr:r<=s:=by
    by_cases q:r<=s
    ·exact q
    ·have:=mp (show r-s>0 by grind) hn;grind
   refine ⟨r*(1 / 2),by grind,fun z hz=>?_⟩
   rcases List.mem_cons.1 hz with rfl|hz
   ·grind
   ·have hz1:=h0 z (List.mem_cons_of_mem _ hz)
    have hz2:=h z hz
    by_cases q:z.2≥0
    ·have:=mn (show r*(1 / 2)≥0 by grind) q;grind
    ·have:=mn (show s-r*(1 / 2)≥0 by grind) (show -z.2≥0 by grind)
     grind
def pos (M:List L3)(p:V2):Prop:=∀m∈M,ar m p.1 p.2>0
def Es (M:List L3)(l:L3):Prop:=∃p:V2,ar l p.1 p.2=0/\∀m∈M,m≠l->ar m p.1 p.2>0
def Tk (M:List L3):Prop:=∀l∈M,∀m∈M,l≠m->∀p:V2,ar l p.1 p.2=0->ar m p.1 p.2=0->cr (ax l) (ax m)≠0
theorem Mv {l m:L3}{w:V2}(hw:w.1≠0\/w.2≠0)(h1:nv l w=0)(h2:nv m w=0):cr (ax l) (ax m)=0:=by
 have e1:cr (ax l) (ax m)*w.1=0:=by unfold nv at *;unfold cr ax;grind
 have e2:cr (ax l) (ax m)*w.2=0:=by unfold nv at *;unfold cr ax;grind
 rcases hw with h|h
 ·rcases Rat.mul_eq_zero.1 e1 with g|g;exact g;exact absurd g h
 ·rcases Rat.mul_eq_zero.1 e2 with g|g;exact g;exact absurd g h
theorem GC (u:V2):cr u u=0:=by unfold cr;grind
theorem qe (m:L3)(q p:V2)(t:Rat):ar m (q.1+t*(p.1-q.1)) (q.2+t*(p.2-q.2))=ar m q.1 q.2+t*(ar m p.1 p.2-ar m q.1 q.2):=by unfold ar;grind
theorem O4 (m:L3)(q p:V2)(t:Rat):nv m (q.1+t*(p.1-q.1),q.2+t*(p.2-q.2))=nv m q+t*(nv m p-nv m q):=by unfold nv;grind
theorem O5 (m:L3)(q x:V2):nv m (q.1-x.1,q.2-x.2)=ar m q.1 q.2-ar m x.1 x.2:=by unfold nv ar;grind
theorem Xp {M:List L3}(hd:Tk M)(hn:∀m∈M,(ax m).1≠0\/(ax m).2≠0){q p:V2}(hq:pos M q)(hp:∀m∈M,Es M m->ar m p.1 p.2>0):pos M p:=by
 intro m0 hm0
 by_cases c:ar m0 p.1 p.2>0
 ·exact c
 exfalso
 let f:L3->Rat×Rat:=fun m=>(ar m q.1 q.2,ar m p.1 p.2)
 obtain ⟨t,t0,t1,ge,x,hx,ex⟩:=E6 (M.map f) (fun x hx=>by obtain ⟨m,hm,rfl⟩:=List.mem_map.1 hx;exact hq m hm) ⟨f m0,List.mem_map_of_mem hm0,by show ar m0 p.1 p.2<=0;grind⟩
 obtain ⟨m1,hm1,rfl⟩:=List.mem_map.1 hx
 let X:V2:=(q.1+t*(p.1-q.1),q.2+t*(p.2-q.2))
 have vX:∀m,ar m X.1 X.2=mx (f m) t:=fun m=>qe m q p t
 have ZJ:∀m∈M,ar m X.1 X.2≥0:=fun m hm=>by rw [vX];exact ge _ (List.mem_map_of_mem hm)
 have zX:ar m1 X.1 X.2=0:=by rw [vX];exact ex
 let u:V2:=(q.1-X.1,q.2-X.2)
 have vu:∀m,nv m u=ar m q.1 q.2-ar m X.1 X.2:=fun m=>O5 m q X
 let Z:=M.filter fun m=>decide (ar m X.1 X.2=0)
 have Mo:∀m,m∈Z↔m∈M/\ar m X.1 X.2=0:=fun m=>by simp [Z,List.mem_filter]
 have m1Z:m1∈Z:=(Mo m1).2 ⟨hm1,zX⟩
 let d:=ax m1
 have d0:nv m1 d=0:=by rw [G3];exact GC _
 let g:L3->Rat×Rat:=fun m=>(nv m u,nv m d)
 obtain ⟨k,k0,k1,ZK,y,hy,ey⟩:=E6 (Z.map g) (fun x hx=>by
  obtain ⟨m,hm,rfl⟩:=List.mem_map.1 hx
  obtain ⟨hmM,hz⟩:=(Mo m).1 hm
  show nv m u>0
  rw [vu,hz];have:=hq m hmM;grind) ⟨g m1,List.mem_map_of_mem m1Z,by show nv m1 d<=0;rw [d0];grind⟩
 obtain ⟨m2,hm2,rfl⟩:=List.mem_map.1 hy
 obtain ⟨Vm,Vn⟩:=(Mo m2).1 hm2
 let w:V2:=(u.1+k*(d.1-u.1),u.2+k*(d.2-u.2))
 have vw:∀m,nv m w=mx (g m) k:=fun m=>O4 m u d k
 have wz:nv m2 w=0:=by rw [vw];exact ey
 have w0:w.1≠0\/w.2≠0:=by
  by_cases e:k=1
  ·have:=hn m1 hm1
   have e1:w.1=d.1:=by dsimp only [w];rw [e];grind
   have e2:w.2=d.2:=by dsimp only [w];rw [e];grind
   rw [e1,e2];exact this
  ·have a:nv m1 w>0:=by
    rw [vw]
    show nv m1 u+k*(nv m1 d-nv m1 u)>0
    rw [d0]
    have:nv m1 u>0:=by rw [vu,zX];have:=hq m1 hm1;grind
    have:=mp (show 1-k>0 by grind) this
    grind
   by_cases e1:w.1=0
   ·by_cases e2:w.2=0
    ·unfold nv at a;rw [e1,e2] at a;grind
    ·exact .inr e2
   ·exact .inl e1
 obtain ⟨s,s0,hs⟩:=BE ((M.filter fun m=>decide (ar m X.1 X.2>0)).map fun m=>(ar m X.1 X.2,nv m w)) (fun x hx=>by
  obtain ⟨m,hm,rfl⟩:=List.mem_map.1 hx
  simpa using (List.mem_filter.1 hm).2)
 have es:Es M m2:=by
  refine ⟨(X.1+s*w.1,X.2+s*w.2),?_,fun m hm hne=>?_⟩
  ·rw [gO,Vn,wz];grind
  ·rw [gO]
   by_cases z:ar m X.1 X.2=0
   ·have hmZ:=(Mo m).2 ⟨hm,z⟩
    have g0:nv m w≥0:=by rw [vw];exact ZK _ (List.mem_map_of_mem hmZ)
    have ne:nv m w≠0:=fun e=>hd m2 Vm m hm (fun h=>hne h.symm) X Vn z (Mv w0 wz e)
    have:=mp s0 (show nv m w>0 by grind)
    rw [z];grind
   ·have gz:=ZJ m hm
    have hmem:(ar m X.1 X.2,nv m w)∈((M.filter fun m=>decide (ar m X.1 X.2>0)).map fun m=>(ar m X.1 X.2,nv m w)):=List.mem_map.2 ⟨m,List.mem_filter.2 ⟨hm,by simp;grind⟩,rfl⟩
    exact hs _ hmem
 have a:=hp m2 Vm es
 have b:=hq m2 Vm
 have:=Fy (x:=f m2) b a t0 t1
 rw [←vX,Vn] at this
 grind
def G1 (l:L3):V2:=((l.1:Rat),(l.2.1:Rat))
theorem Wf {x y:Rat}(h:x≠0\/y≠0):x*x+y*y>0:=by
 have p:∀z:Rat,z≠0->z*z>0:=fun z hz=>by
  by_cases c:z>0
  ·exact mp c c
  ·have:=mp (show -z>0 by grind) (show -z>0 by grind);grind
 have q:∀z:Rat,z*z≥0:=fun z=>by
  by_cases c:z≥0
  ·exact mn c c
  ·have:=mn (show -z≥0 by grind) (show -z≥0 by grind);grind
 rcases h with h|h
 ·have:=p x h;have:=q y;grind
 ·have:=p y h;have:=q x;grind
theorem Kg {l:L3}(h:(ax l).1≠0\/(ax l).2≠0):nv l (G1 l)>0:=by
 have:nv l (G1 l)=(l.1:Rat)*(l.1:Rat)+(l.2.1:Rat)*(l.2.1:Rat):=rfl
 rw [this]
 refine Wf ?_
 rcases h with h|h
 ·exact .inr h
 ·left;intro e;apply h;show -(l.1:Rat)=0;rw [e];grind
theorem GH {M:List L3}(hd:Tk M)(hn:∀m∈M,(ax m).1≠0\/(ax m).2≠0){q:V2}(hq:pos M q)(h0:M≠[]):∃l∈M,Es M l:=by
 obtain ⟨l,hl⟩:=List.exists_mem_of_ne_nil M h0
 by_cases c:∃l∈M,Es M l
 ·exact c
 exfalso
 have h1:=Kg (hn l hl)
 have e:=inv_mul (show nv l (G1 l)≠0 by grind) (ar l q.1 q.2)
 have hp:=Xp hd hn hq (p:=(q.1+-(ar l q.1 q.2*(nv l (G1 l))⁻¹)*(G1 l).1,q.2+-(ar l q.1 q.2*(nv l (G1 l))⁻¹)*(G1 l).2)) (fun m hm he=>absurd ⟨m,hm,he⟩ c) l hl
 rw [gO] at hp
 grind
theorem qL {M:List L3}{l:L3}(hn:(ax l).1≠0\/(ax l).2≠0){x:V2}(hx:ar l x.1 x.2=0)(h:∀m∈M,m≠l->ar m x.1 x.2>0)(L:List L3)(hL:∀m∈L,ar m x.1 x.2>0):∃q:V2,pos M q/\ar l q.1 q.2>0/\pos L q:=by
 have h1:=Kg hn
 obtain ⟨s,s0,hs⟩:=BE (((M.filter fun m=>decide (m≠l))++L).map fun m=>(ar m x.1 x.2,nv m (G1 l))) (fun y hy=>by
  obtain ⟨m,hm,rfl⟩:=List.mem_map.1 hy
  rcases List.mem_append.1 hm with hm|hm
  ·have:=List.mem_filter.1 hm
   exact h m this.1 (by simpa using this.2)
  ·exact hL m hm)
 have hl:ar l (x.1+s*(G1 l).1) (x.2+s*(G1 l).2)>0:=by rw [gO,hx];have:=mp s0 h1;grind
 refine ⟨(x.1+s*(G1 l).1,x.2+s*(G1 l).2),fun m hm=>?_,hl,fun m hm=>?_⟩
 ·by_cases e:m=l
  ·rw [e];exact hl
  ·rw [gO]
   exact hs (ar m x.1 x.2,nv m (G1 l)) (List.mem_map.2 ⟨m,List.mem_append_left _ (List.mem_filter.2 ⟨hm,by simpa using e⟩),rfl⟩)
 ·rw [gO]
  exact hs (ar m x.1 x.2,nv m (G1 l)) (List.mem_map.2 ⟨m,List.mem_append_right _ hm,rfl⟩)
theorem pL {M:List L3}{l:L3}(hno:∀x:V2,ar l x.1 x.2=0->¬pos M x){q p:V2}(hq:pos M q)(hp:pos M p):ar l q.1 q.2>0->ar l p.1 p.2>0:=by
 intro h
 by_cases c:ar l p.1 p.2>0
 ·exact c
 exfalso
 obtain ⟨t,t0,t1,e⟩:=uc (y:=(ar l q.1 q.2,ar l p.1 p.2)) h (s:=1) (by decide) (by unfold mx;grind)
 refine hno (q.1+t*(p.1-q.1),q.2+t*(p.2-q.2)) ?_ fun m hm=>?_
 ·rw [qe];exact e
 ·rw [qe];exact Fy (x:=(ar m q.1 q.2,ar m p.1 p.2)) (hq m hm) (hp m hm) t0 t1
end Go.Proofs.Tryz.aq
namespace Go.Proofs.Tryz
open Go.bM Go.fB
def Sp.oc (s:Sp)(t:Rat):Prop:=(s.a=true\/s.lo<t)/\(s.b=true\/t<s.hi)
def H9 (ss:List Sp)(t:Rat):Prop:=∃s∈ss,s.oc t
def Sp.jj (s:Sp):Prop:=s.can/\s.emp=false
def Sp.PJ (s t:Sp):Prop:=s.b=false/\t.a=false/\s.hi<t.lo
def IP (ss:List Sp):Prop:=(∀s∈ss,s.jj)/\ss.Pairwise Sp.PJ
theorem pick (E:List Rat):∀l u:Rat,l<u->∃t,l<t/\t<u/\t∉E:=by
 induction E with
 | nil=>exact fun l u h=>⟨(l+u) / 2,by grind,by grind,by simp⟩
 | cons e r ih=>
  intro l u h
  by_cases c:l<e/\e<u
  ·obtain ⟨t,h1,h2,h3⟩:=ih l e c.1
   refine ⟨t,h1,by grind,fun hm=>?_⟩
   rcases List.mem_cons.1 hm with rfl|hm
   ·grind
   ·exact h3 hm
  ·obtain ⟨t,h1,h2,h3⟩:=ih l u h
   refine ⟨t,h1,h2,fun hm=>?_⟩
   rcases List.mem_cons.1 hm with rfl|hm
   ·exact c ⟨h1,h2⟩
   ·exact h3 hm
theorem Dc {s:Sp}(h:s.emp=false)(ha:s.a=false)(hb:s.b=false):s.lo<s.hi:=by
 rcases Sp.kX.1 h with h|h|h
 ·rw [ha] at h;cases h
 ·rw [hb] at h;cases h
 ·exact h
theorem IP.tail {s:Sp}{r:List Sp}(h:IP (s::r)):IP r:=⟨fun x hx=>h.1 x (by simp [hx]),(List.pairwise_cons.1 h.2).2⟩
theorem IP.PJ {s:Sp}{r:List Sp}(h:IP (s::r)){x:Sp}(hx:x∈r):s.PJ x:=(List.pairwise_cons.1 h.2).1 x hx
set_option linter.unusedSectionVars false
section
variable {s s':Sp} {r r':List Sp} {E:List Rat} (h:IP (s :: r)) (h':IP (s' :: r')) (e:∀t,t ∉ E->H9 (s :: r) t->H9 (s' :: r') t)
include h h' e
end
theorem Sp.ext' {s t:Sp}(h1:s.a=t.a)(h2:s.b=t.b)(h3:s.lo=t.lo)(h4:s.hi=t.hi):s=t:=by
 cases s;cases t;simp at *;exact ⟨h3,h4,h1,h2⟩
end Go.Proofs.Tryz
namespace Go.Proofs.Tryz
open Go.bM Go.fB
theorem row_one {α:Type}{sz:Nat}{R:View->Value->α->Prop}{V:View}{xs:List Value}{a:α}(hx:xs.length=sz)(ha:R V (.agg xs.toArray) a):Row sz R V xs [a]:=by
 refine ⟨fun i hi=>?_⟩
 obtain rfl:i=0:=by simpa using hi
 exact ⟨xs,hx,ha,fun j x hj=>by rw [Nat.zero_mul,Nat.zero_add];exact hj⟩
theorem FP {α:Type}{sz:Nat}{R:View->Value->α->Prop}{V:View}{vs:List Value}{ls:List α}(h:Row sz R V vs ls){k:Nat}(hk:k<=ls.length){xs sp:List Value}{a:α}(hx:xs.length=sz)(ha:R V (.agg xs.toArray) a)(hs:0<sz) :
  Row sz R V (vs.take (k*sz)++(xs++(vs.take (ls.length*sz)).drop (k*sz))++sp) (ls.take k++a::ls.drop k):=by
 have hl:=h.jI hs
 have hks:k*sz<=ls.length*sz:=Nat.mul_le_mul_right _ hk
 have t1:(vs.take (k*sz)).length=k*sz:=by rw [List.length_take];omega
 have t2:((vs.take (ls.length*sz)).drop (k*sz)).length=ls.length*sz-k*sz:=by rw [List.length_drop,List.length_take];omega
 have a1:(ls.take k).length=k:=by rw [List.length_take];omega
 refine ⟨fun i hi=>?_⟩
 rw [List.append_assoc]
 by_cases c1:i<k
 ·have hi':i<ls.length:=by omega
  obtain ⟨ys,y1,y2,y3⟩:=h.at_ i hi'
  have e:(ls.take k++a::ls.drop k)[i]=ls[i]:=by rw [List.getElem_append_left (by omega),List.getElem_take]
  refine ⟨ys,y1,by rw [e];exact y2,fun j x hj=>?_⟩
  have hj':=(List.getElem?_eq_some_iff.1 hj).1
  have hlt:i*sz+j<k*sz:=by
   have:(i+1)*sz<=k*sz:=Nat.mul_le_mul_right _ c1
   rw [Nat.succ_mul] at this
   omega
  rw [List.getElem?_append_left (by omega),List.getElem?_take,if_pos hlt]
  exact y3 j x hj
 ·by_cases c2:i=k
  ·subst c2
   have e:(ls.take i++a::ls.drop i)[i]=a:=by
    rw [List.getElem_append_right (by omega)]
    simp [a1]
   refine ⟨xs,hx,by rw [e];exact ha,fun j x hj=>?_⟩
   have hj':=(List.getElem?_eq_some_iff.1 hj).1
   rw [List.getElem?_append_right (by omega),t1,Nat.add_sub_cancel_left,List.append_assoc,List.getElem?_append_left hj']
   exact hj
  ·have hi':i-1<ls.length:=by
    rw [List.length_append,a1,List.length_cons,List.length_drop] at hi
    omega
   obtain ⟨ys,y1,y2,y3⟩:=h.at_ (i-1) hi'
   have e:(ls.take k++a::ls.drop k)[i]=ls[i-1]:=by
    rw [List.getElem_append_right (by omega)]
    obtain ⟨m,hm⟩:∃m,i=k+(m+1):=⟨i-k-1,by omega⟩
    subst hm
    simp only [a1,Nat.add_sub_cancel_left,List.getElem_cons_succ,List.getElem_drop]
    congr 1
   refine ⟨ys,y1,by rw [e];exact y2,fun j x hj=>?_⟩
   have hj':=(List.getElem?_eq_some_iff.1 hj).1
   obtain ⟨m,hm⟩:∃m,i=k+1+m:=⟨i-k-1,by omega⟩
   subst hm
   have e1:(k+1+m)*sz=k*sz+sz+m*sz:=by rw [Nat.add_mul,Nat.add_mul,Nat.one_mul]
   have e2:(k+1+m-1)*sz=k*sz+m*sz:=by rw [show k+1+m-1=k+m by omega,Nat.add_mul]
   have:=y3 j x hj
   rw [e2] at this
   have hlt:k*sz+m*sz+j<ls.length*sz:=by
    have:(k+m+1)*sz<=ls.length*sz:=Nat.mul_le_mul_right _ (by omega)
    rw [Nat.add_mul,Nat.add_mul,Nat.one_mul] at this
    omega
   rw [List.getElem?_append_right (by omega),t1,List.append_assoc,List.getElem?_append_right (by omega),hx,List.getElem?_append_left (by omega),List.getElem?_drop,List.getElem?_take,if_pos (by omega)]
   rw [show k*sz+((k+1+m)*sz+j-k*sz-sz)=k*sz+m*sz+j by omega]
   exact this
theorem Aa {α:Type}{sz:Nat}{R:View->Value->α->Prop}{V:View}{p:OA}{n:Nat}{ls:List α}(h:cI sz R V p n ls)(hs:0<sz):∃xs:List Value,V.sl p xs/\xs.length=ls.length*sz/\Row sz R V xs ls:=by
 have step:∀k,k<=ls.length->∃xs:List Value,V.sl p xs/\xs.length=k*sz/\Row sz R V xs (ls.take k):=by
  intro k
  induction k with
  | zero=>exact fun _=>⟨[],fun i v hv=>by simp at hv,by simp,by rw [List.take_zero];exact Row.nil⟩
  | succ k ih=>
   intro hk
   obtain ⟨xs,x1,x2,x3⟩:=ih (by omega)
   obtain ⟨ad,ha,ys,y1,y2,y3⟩:=h.at_ k (by omega)
   have hl:(ls.take k).length=k:=by rw [List.length_take];omega
   refine ⟨xs++ys,fun i v hv=>?_,by rw [List.length_append,x2,y1,Nat.succ_mul],?_⟩
   ·by_cases c:i<xs.length
    ·rw [List.getElem?_append_left c] at hv;exact x1 i v hv
    ·rw [List.getElem?_append_right (by omega)] at hv
     cases p with
     | none=>cases ha
     | some a=>
      obtain rfl:=Option.some.inj (show some (a.add (k*sz))=some ad from ha)
      have:=y3 _ v hv
      rw [Ch,x2] at this
      rw [show k*sz+(i-k*sz)=i by omega] at this
      exact ⟨a,rfl,this⟩
   ·have:=x3.snoc (sp:=[]) y1 y2 hs
    rw [hl,List.append_nil,List.take_of_length_le (by omega)] at this
    rw [List.take_add_one,List.getElem?_eq_getElem (by omega)]
    exact this
 obtain ⟨xs,x1,x2,x3⟩:=step ls.length (Nat.le_refl _)
 rw [List.take_length] at x3
 exact ⟨xs,x1,x2,x3⟩
theorem iW {α:Type}{sz:Nat}{R:View->Value->α->Prop}{V:View}{vs xs sp:List Value}{ls ms:List α}(h:Row sz R V vs ls)(h':Row sz R V xs ms)(hs:0<sz):Row sz R V (vs.take (ls.length*sz)++xs++sp) (ls++ms):=by
 have hl:=h.jI hs
 have hl':=h'.jI hs
 have ht:(vs.take (ls.length*sz)).length=ls.length*sz:=by rw [List.length_take];omega
 refine ⟨fun i hi=>?_⟩
 by_cases c:i<ls.length
 ·obtain ⟨ys,y1,y2,y3⟩:=h.at_ i c
  refine ⟨ys,y1,by rw [List.getElem_append_left c];exact y2,fun j x hj=>?_⟩
  have hj':=(List.getElem?_eq_some_iff.1 hj).1
  have hlt:i*sz+j<ls.length*sz:=by
   have:(i+1)*sz<=ls.length*sz:=Nat.mul_le_mul_right _ c
   rw [Nat.succ_mul] at this
   omega
  rw [List.append_assoc,List.getElem?_append_left (by omega),List.getElem?_take,if_pos hlt]
  exact y3 j x hj
 ·rw [List.length_append] at hi
  obtain ⟨m,rfl⟩:∃m,i=ls.length+m:=⟨i-ls.length,by omega⟩
  have hm:m<ms.length:=by omega
  obtain ⟨ys,y1,y2,y3⟩:=h'.at_ m hm
  refine ⟨ys,y1,?_,fun j x hj=>?_⟩
  ·have e:(ls++ms)[ls.length+m]=ms[m]:=by rw [List.getElem_append_right (by omega)];simp
   rw [e];exact y2
  ·have hj':=(List.getElem?_eq_some_iff.1 hj).1
   have hlt:m*sz+j<xs.length:=by
    have:(m+1)*sz<=ms.length*sz:=Nat.mul_le_mul_right _ hm
    rw [Nat.succ_mul] at this
    omega
   rw [List.append_assoc,List.getElem?_append_right (by rw [ht,Nat.add_mul];omega),ht,Nat.add_mul,List.getElem?_append_left (by omega)]
   rw [show ls.length*sz+m*sz+j-ls.length*sz=m*sz+j by omega]
   exact y3 j x hj
theorem pR {α:Type}{sz:Nat}{R:View->Value->α->Prop}{V:View}{vs:List Value}{al:List α}(h:Row sz R V vs al)(hs:0<sz)(hc:∀xs a,R V (.agg (List.toArray xs)) a->∀v∈xs,v.oneCell'=true){m:Nat}(hm:m<al.length*sz){v:Value}(hv:vs[m]?=some v):v.oneCell'=true:=by
 have hi:m / sz<al.length:=Nat.div_lt_of_lt_mul (by rw [Nat.mul_comm];exact hm)
 obtain ⟨xs,hl,hx,hat⟩:=h.at_ (m / sz) hi
 have hlt:m%sz<xs.length:=by rw [hl];exact Nat.mod_lt _ hs
 have e3:m=m / sz*sz+m%sz:=by rw [Nat.mul_comm];exact (Nat.div_add_mod m sz).symm
 have:=hat (m%sz) _ (List.getElem?_eq_getElem hlt)
 rw [←e3,hv] at this
 obtain rfl:=Option.some.inj this
 exact hc xs _ hx _ (List.getElem_mem hlt)
theorem ua:Sz 2 (((2:Int):Rat)):=⟨by show (2:Int).natAbs<_;decide,by show (1:Nat)<_;decide⟩
theorem fS:Sz 2 (((1:Int):Rat)):=⟨by show (1:Int).natAbs<_;decide,by show (1:Nat)<_;decide⟩
theorem nW {V:View}{v:Value}{x:Rat}(h:RQ V v x){k:Nat}(sx:Sz k x)(hk:k+2<274877906944) :
  ab prog 97 #[v] V fun r V'=>RQ V' r (x*((2:Int):Rat)⁻¹):=by
 have h0:=h
 obtain ⟨_,_,_,_,_,_,rfl⟩:=h.shape
 refine Ed _ _ _ _ _ _ _ V _ fun V1 l1=>(dY 2 (by decide) (by decide)).mono ?_
 rintro r V2 l2 g
 have g0:=g
 obtain ⟨_,_,_,_,_,_,rfl⟩:=g.shape
 refine ⟨_,_,_,_,_,_,_,rfl,fun V3 l3=>(gj (h0.le (l1.trans (l2.trans l3))) (g0.le l3) (by show (2:Int)≠0;decide) sx ua hk).mono ?_⟩
 rintro r V4 l4 q
 have q0:=q
 obtain ⟨_,_,_,_,_,_,rfl⟩:=q.shape
 exact ⟨_,_,_,_,_,_,_,rfl,fun V5 l5=>q0.le l5⟩
theorem HF {V:View}{v w:Value}{x y:Rat}(h:RQ V v x)(h':RQ V w y){k:Nat}(sx:Sz k x)(sy:Sz k y)(hk:4*k+4<274877906944) :
  ab prog 55 #[v,w] V fun r V'=>RQ V' r ((x+y)*((2:Int):Rat)⁻¹):=by
 have h0:=h
 have h0':=h'
 obtain ⟨_,_,_,_,_,_,rfl⟩:=h.shape
 obtain ⟨_,_,_,_,_,_,rfl⟩:=h'.shape
 refine Gd _ _ _ _ _ _ _ _ _ _ _ _ _ _ V _ fun V1 l1=>(cF (h0.le l1) (h0'.le l1) sx sy (by omega)).mono ?_
 rintro r V2 l2 g
 have g0:=g
 obtain ⟨_,_,_,_,_,_,rfl⟩:=g.shape
 refine ⟨_,_,_,_,_,_,_,rfl,fun V3 l3=>(nW (g0.le l3) (sx.add sy) (by omega)).mono ?_⟩
 rintro r V4 l4 q
 have q0:=q
 obtain ⟨_,_,_,_,_,_,rfl⟩:=q.shape
 exact ⟨_,_,_,_,_,_,_,rfl,fun V5 l5=>q0.le l5⟩
theorem Hh {s:Sp}{k:Nat}(ss:s.sz k):Sz (2*k+10) s.cL:=by
 have z:Sz (2*k+10) (0:Rat):=⟨by show (0:Int).natAbs<_;exact Nat.lt_of_lt_of_le (by decide) (Nat.one_le_two_pow),Nat.one_lt_two_pow (by omega)⟩
 unfold Sp.cL
 split
 ·split
  ·exact z
  ·exact (ss.2.sub fS).mono (by omega)
 ·split
  ·exact (ss.1.add fS).mono (by omega)
  ·exact ((ss.1.add ss.2).mul (dh ua)).mono (by omega)
theorem uK {V:View}{v:Value}{s:Sp}(h:ED V v s){k:Nat}(ss:s.sz k)(hk:4*k+4<274877906944) :
  ab prog 120 #[v] V fun r V'=>RQ V' r s.cL:=by
 obtain ⟨b,p,n,c,p',n',c',d,q,m,e,q',m',e',rfl,h1,h2⟩:=h
 have a1:s.a=true->s.b=true->s.cL=0:=fun x y=>by simp [Sp.cL,x,y]
 have a2:s.a=true->s.b=false->s.cL=s.hi-((1:Int):Rat):=fun x y=>by simp [Sp.cL,x,y]
 have a3:s.a=false->s.b=true->s.cL=s.lo+((1:Int):Rat):=fun x y=>by simp [Sp.cL,x,y]
 have a4:s.a=false->s.b=false->s.cL=(s.lo+s.hi)*((2:Int):Rat)⁻¹:=fun x y=>by simp [Sp.cL,x,y]
 have no:∀{P:Prop},s.a=true->s.a=false->P:=fun x y=>by rw [x] at y;cases y
 refine tD b p n c p' n' c' d q m e q' m' e' s.a s.b V _ ⟨fun ha=>⟨fun hb V1 l1=>?_,fun hb=>⟨fun _ V2 l2=>(dY 1 (by decide) (by decide)).mono ?_,fun e=>no ha e⟩⟩,fun ha=>⟨fun e=>no e ha,fun _=>⟨fun hb V7 l7=>(dY 1 (by decide) (by decide)).mono ?_,fun hb lS cg=>(HF (h1.le cg) (h2.le cg) ss.1 ss.2 hk).mono ?_⟩⟩⟩
 ·rw [a1 ha hb]
  have:=RQ.zero (V:=V1)
  simpa using this
 ·rw [a2 ha hb]
  rintro r V3 l3 g
  have g0:=g
  obtain ⟨_,_,_,_,_,_,rfl⟩:=g.shape
  refine ⟨_,_,_,_,_,_,_,rfl,fun V4 l4=>(gx (h2.le (l2.trans (l3.trans l4))) (g0.le l4) ss.2 fS (by omega)).mono ?_⟩
  rintro r V5 l5 q
  have q0:=q
  obtain ⟨_,_,_,_,_,_,rfl⟩:=q.shape
  exact ⟨_,_,_,_,_,_,_,rfl,fun V6 l6=>q0.le l6⟩
 ·rw [a3 ha hb]
  rintro r V3 l3 g
  have g0:=g
  obtain ⟨_,_,_,_,_,_,rfl⟩:=g.shape
  refine ⟨_,_,_,_,_,_,_,rfl,fun V4 l4=>(cF (h1.le (l7.trans (l3.trans l4))) (g0.le l4) ss.1 fS (by omega)).mono ?_⟩
  rintro r V5 l5 q
  have q0:=q
  obtain ⟨_,_,_,_,_,_,rfl⟩:=q.shape
  exact ⟨_,_,_,_,_,_,_,rfl,fun V6 l6=>q0.le l6⟩
 ·rw [a4 ha hb]
  rintro r V5 l5 q
  have q0:=q
  obtain ⟨_,_,_,_,_,_,rfl⟩:=q.shape
  exact ⟨_,_,_,_,_,_,_,rfl,fun V6 l6=>q0.le l6⟩
theorem xC {V:View}{v w:Value}{x y x' y':Rat}(h:RP V v x y)(h':RP V w x' y'){k:Nat}(s1:Sz k x)(s2:Sz k y)(s3:Sz k x')(s4:Sz k y')(hk:4*k+4<274877906944) :
  ab prog 90 #[v,w] V fun r V'=>RQ V' r (x*y'-y*x'):=by
 obtain ⟨_,_,_,_,_,_,_,_,_,_,_,_,rfl,h1,h2⟩:=h
 obtain ⟨_,_,_,_,_,_,_,_,_,_,_,_,rfl,h3,h4⟩:=h'
 refine wR _ _ _ _ _ _ _ _ _ _ _ _ _ _ _ _ _ _ _ _ _ _ _ _ _ _ _ _ V _ fun V1 l1=>(aN (h1.le l1) (h4.le l1) s1 s4 (by omega)).mono ?_
 rintro r V2 l2 g
 have g0:=g
 obtain ⟨_,_,_,_,_,_,rfl⟩:=g.shape
 refine ⟨_,_,_,_,_,_,_,rfl,fun V3 l3=>(aN (h2.le (l1.trans (l2.trans l3))) (h3.le (l1.trans (l2.trans l3))) s2 s3 (by omega)).mono ?_⟩
 rintro r V4 l4 g'
 have g0':=g'
 obtain ⟨_,_,_,_,_,_,rfl⟩:=g'.shape
 refine ⟨_,_,_,_,_,_,_,rfl,fun V5 l5=>(gx (g0.le (l3.trans (l4.trans l5))) (g0'.le l5) (s1.mul s4) (s2.mul s3) (by omega)).mono ?_⟩
 rintro r V6 l6 q
 have q0:=q
 obtain ⟨_,_,_,_,_,_,rfl⟩:=q.shape
 exact ⟨_,_,_,_,_,_,_,rfl,fun V7 l7=>q0.le l7⟩
theorem PF.raw {V:View}{v:Value}{l:L3}{s:Sp}(h:PF V v l s)(ho:YQ l s){k:Nat}(sl:jV k l)(ss:s.sz k)(hk:k<=1000000):∃f:FW,SC V v f/\f.ok=true/\f.ln=l/\f.sp=s/\f.short:=by
 obtain ⟨b1,p1,n1,c1,b2,p2,n2,c2,b3,p3,n3,c3,b,p,n,c,p',n',c',d,q,m,e,q',m',e',rfl,h1,h2⟩:=h
 obtain ⟨_,_,_,_,_,_,_,_,_,el,x1,x2,x3⟩:=h1
 have el:=congrArg Array.toList (Value.agg.inj el)
 simp only [List.cons.injEq,Value.bool.injEq,Value.slice.injEq,and_true] at el
 obtain ⟨rfl,⟨rfl,rfl,rfl⟩,rfl,⟨rfl,rfl,rfl⟩,rfl,rfl,rfl,rfl⟩:=el
 obtain ⟨_,_,_,_,_,_,_,_,_,_,_,_,_,_,es,y1,y2⟩:=h2
 have es:=congrArg Array.toList (Value.agg.inj es)
 simp only [List.cons.injEq,Value.bool.injEq,Value.slice.injEq,and_true] at es
 obtain ⟨rfl,⟨rfl,rfl,rfl⟩,⟨rfl,rfl,rfl⟩,rfl,⟨rfl,rfl,rfl⟩,⟨rfl,rfl,rfl⟩⟩:=es
 obtain ⟨ok,can,emp⟩:=ho
 obtain ⟨w1,us,vs,r1,o1,e1,z1⟩:=y1.raw can.1
 obtain ⟨w2,ws,ts,r2,o2,e2,z2⟩:=y2.raw can.2
 have i1:=r1
 have i2:=r2
 obtain ⟨_,_,_,_,_,_,f1,-,-⟩:=i1
 obtain ⟨_,_,_,_,_,_,f2,-,-⟩:=i2
 have f1:=congrArg Array.toList (Value.agg.inj f1)
 have f2:=congrArg Array.toList (Value.agg.inj f2)
 simp only [List.cons.injEq,Value.bool.injEq,Value.slice.injEq,and_true] at f1 f2
 obtain ⟨rfl,-⟩:=f1
 obtain ⟨rfl,-⟩:=f2
 have len:∀{z:Int},Sz k (z:Rat)->(ag z.natAbs).length<=1000000:=fun h=>Nat.le_trans (af h.1) hk
 have d1:=z1 k ss.1
 have d2:=z2 k ss.2
 refine ⟨⟨decide (l.1<0),ag l.1.natAbs,decide (l.2.1<0),ag l.2.1.natAbs,decide (l.2.2<0),ag l.2.2.natAbs,b,us,vs,d,ws,ts,s.a,s.b⟩,⟨_,_,_,_,_,_,_,_,_,_,_,_,_,_,_,_,_,_,_,_,_,rfl,⟨_,_,_,_,_,_,_,_,_,rfl,x1,x2,x3⟩,⟨_,_,_,_,_,_,_,_,_,_,_,_,rfl,r1,r2⟩⟩,?_,?_,?_,⟨len sl.1,len sl.2.1,len sl.2.2,Nat.le_trans d1.1 hk,Nat.le_trans d1.2 hk,Nat.le_trans d2.1 hk,Nat.le_trans d2.2 hk⟩⟩
 ·have e3:Sa b us vs d ws ts s.a s.b=s:=by unfold Sa;rw [e1,e2]
  unfold FW.ok okW
  dsimp only
  rw [Dp,o1,o2,e3,emp]
  show cS l&&true=true
  rw [ok];rfl
 ·unfold FW.ln Ym
  dsimp only
  rw [aG,aG,aG]
 ·unfold FW.sp Sa
  dsimp only
  rw [e1,e2]
theorem A6 {c:List Rat}{i:Nat}(h:i<c.length):c.getD i 0=c[i]:=by rw [List.getD_eq_getElem?_getD,List.getElem?_eq_getElem h];rfl
def ik (cuts:List Rat)(i:Nat):Sp:=⟨if 0<i then cuts.getD (i-1) 0 else 0,if i<cuts.length then cuts.getD i 0 else 0,decide (i=0),decide (i=cuts.length)⟩
def JU (out:List Sp)(s:Sp):List Sp:=out.dropLast++[⟨(out.getLastD Sp.zero).lo,s.hi,(out.getLastD Sp.zero).a,s.b⟩]
def fN (cuts:List Rat)(marks:List Bool):Nat->List Sp
 | 0=>[]
 | i+1=>if marks.getD i false=true then (if 0<i/\marks.getD (i-1) false=true/\0<(fN cuts marks i).length then JU (fN cuts marks i) (ik cuts i) else fN cuts marks i++[ik cuts i]) else fN cuts marks i
end Go.Proofs.Tryz
namespace Go.Proofs.Tryz
open Go.bM Go.fB
set_option linter.unusedSectionVars false
def rH (c:List Rat):Prop:=c.Pairwise (·< ·)
section
variable {c:List Rat} (h:rH c)
include h
theorem Ay {i j:Nat}(LY:i<j)(hj:j<c.length):c.getD i 0<c.getD j 0:=by
 rw [A6 (by omega),A6 hj]
 exact List.pairwise_iff_getElem.1 h i j (by omega) hj LY
omit h
include h
theorem Ju {i:Nat}(hi:i<=c.length):(ik c i).jj:=by
 refine ⟨⟨fun e=>?_,fun e=>?_⟩,Sp.kX.2 ?_⟩
 ·have e:i=0:=of_decide_eq_true e
  subst e;rfl
 ·have e:i=c.length:=of_decide_eq_true e
  subst e
  exact if_neg (Nat.lt_irrefl _)
 ·by_cases h0:i=0
  ·exact .inl (decide_eq_true h0)
  ·by_cases h1:i=c.length
   ·exact .inr (.inl (decide_eq_true h1))
   ·refine .inr (.inr ?_)
    show (if 0<i then c.getD (i-1) 0 else 0)<(if i<c.length then c.getD i 0 else 0)
    rw [if_pos (by omega),if_pos (by omega)]
    exact Ay h (by omega) (by omega)
omit h
end
section
variable {c:List Rat} {ms:List Bool}
structure FI (c:List Rat) (ms:List Bool) (i:Nat):Prop where
 r:IP (fN c ms i)
 mem:∀t,t∉c->(H9 (fN c ms i) t↔∃j,j<i/\ms.getD j false=true/\(ik c j).oc t)
 top:0<i->i<=c.length->∀s∈fN c ms i,s.b=false/\s.hi<=c.getD (i-1) 0
 str:0<i->i<=c.length->ms.getD (i-1) false=false->∀s∈fN c ms i,s.hi<c.getD (i-1) 0
 last:0<i->i<=c.length->ms.getD (i-1) false=true->∃l0 l,fN c ms i=l0++[l]/\l.hi=c.getD (i-1) 0
theorem qX {ss:List Sp}{s:Sp}{t:Rat}:H9 (ss++[s]) t↔H9 ss t\/s.oc t:=by
 unfold H9
 constructor
 ·rintro ⟨x,hx,hi⟩
  rcases List.mem_append.1 hx with hx|hx
  ·exact .inl ⟨x,hx,hi⟩
  ·obtain rfl:x=s:=by simpa using hx
   exact .inr hi
 ·rintro (⟨x,hx,hi⟩|hi)
  ·exact ⟨x,by simp [hx],hi⟩
  ·exact ⟨s,by simp,hi⟩
theorem DF {ss:List Sp}{s:Sp}(h:IP ss)(hs:s.jj)(hb:∀x∈ss,x.PJ s):IP (ss++[s]):=by
 refine ⟨fun x hx=>?_,List.pairwise_append.2 ⟨h.2,by simp,fun x hx y hy=>?_⟩⟩
 ·rcases List.mem_append.1 hx with hx|hx
  ·exact h.1 x hx
  ·obtain rfl:x=s:=by simpa using hx
   exact hs
 ·obtain rfl:y=s:=by simpa using hy
  exact hb x hx
theorem KE {ss:List Sp}{s:Sp}(h:IP (ss++[s])):IP ss/\s.jj/\∀x∈ss,x.PJ s:=by
 obtain ⟨h1,-,h3⟩:=List.pairwise_append.1 h.2
 exact ⟨⟨fun x hx=>h.1 x (by simp [hx]),h1⟩,h.1 s (by simp),fun x hx=>h3 x hx s (by simp)⟩
theorem AZ {P:Nat->Prop}{i:Nat}:(∃j,j<i+1/\P j)↔(∃j,j<i/\P j)\/P i:=by
 constructor
 ·rintro ⟨j,hj,hp⟩
  rcases Nat.lt_or_ge j i with h|h
  ·exact .inl ⟨j,h,hp⟩
  ·obtain rfl:j=i:=by omega
   exact .inr hp
 ·rintro (⟨j,hj,hp⟩|hp)
  ·exact ⟨j,by omega,hp⟩
  ·exact ⟨i,by omega,hp⟩
theorem LP (h:rH c){i:Nat}(hi:i<=c.length)(F:FI c ms i):FI c ms (i+1):=by
 have hg:=Ju h hi
 have Lj:i<c.length->(ik c i).hi=c.getD i 0:=fun h0=>if_pos h0
 have Lk:0<i->(ik c i).lo=c.getD (i-1) 0:=fun h0=>if_pos h0
 have ga:0<i->(ik c i).a=false:=fun h0=>decide_eq_false (by omega)
 have gb:i<c.length->(ik c i).b=false:=fun h0=>decide_eq_false (by omega)
 by_cases hm:ms.getD i false=true
 ·have hne:¬ms.getD i false=false:=by rw [hm];decide
  by_cases h0:0<i/\ms.getD (i-1) false=true
  ·obtain ⟨l0,l,el,hl⟩:=F.last h0.1 hi h0.2
   have e:fN c ms (i+1)=l0++[⟨l.lo,(ik c i).hi,l.a,(ik c i).b⟩]:=by
    rw [fN,if_pos hm,if_pos ⟨h0.1,h0.2,by rw [el];simp⟩,el]
    simp [JU]
   have F1:=F.r
   rw [el] at F1
   obtain ⟨f1,f2,f3⟩:=KE F1
   have hlb:l.b=false:=(F.top h0.1 hi l (by rw [el];simp)).1
   have hgood:(⟨l.lo,(ik c i).hi,l.a,(ik c i).b⟩:Sp).jj:=by
    refine ⟨⟨f2.1.1,hg.1.2⟩,Sp.kX.2 ?_⟩
    dsimp only
    cases ha:l.a with
    | true=>exact .inl rfl
    | false=>
     cases hb:(ik c i).b with
     | true=>exact .inr (.inl rfl)
     | false=>
      have h1:=Dc f2.2 ha hlb
      have h2:=Dc hg.2 (ga h0.1) hb
      rw [Lk h0.1] at h2
      exact .inr (.inr (by grind))
   refine ⟨?_,fun t ht=>?_,fun _ hi1 s hs=>?_,fun _ hi1 hx=>?_,fun _ hi1 _=>?_⟩
   ·rw [e]
    exact DF f1 hgood fun x hx=>⟨(f3 x hx).1,(f3 x hx).2.1,(f3 x hx).2.2⟩
   ·rw [e,AZ,←F.mem t ht,qX,el,qX,or_assoc]
    refine or_congr Iff.rfl ?_
    have hk:(ik c i).oc t↔c.getD (i-1) 0<t/\((ik c i).b=true\/t<(ik c i).hi):=by
     unfold Sp.oc;rw [ga h0.1,Lk h0.1];simp
    have hne':t≠c.getD (i-1) 0:=by
     rintro rfl
     rw [A6 (by omega)] at ht
     exact ht (List.getElem_mem _)
    rw [hk]
    show (l.a=true\/l.lo<t)/\((ik c i).b=true\/t<(ik c i).hi)↔((l.a=true\/l.lo<t)/\(l.b=true\/t<l.hi))\/_
    rw [hl,hlb]
    have h1:l.a=true\/l.lo<c.getD (i-1) 0:=by
     cases ha:l.a with
     | true=>exact .inl rfl
     | false=>have:=Dc f2.2 ha hlb;rw [hl] at this;exact .inr this
    have h2:(ik c i).b=true\/c.getD (i-1) 0<(ik c i).hi:=by
     cases hb:(ik c i).b with
     | true=>exact .inl rfl
     | false=>have:=Dc hg.2 (ga h0.1) hb;rw [Lk h0.1] at this;exact .inr this
    constructor
    ·rintro ⟨g1,g2⟩
     by_cases g:t<c.getD (i-1) 0
     ·exact .inl ⟨g1,.inr g⟩
     ·exact .inr ⟨hm,by grind,g2⟩
    ·rintro (⟨g1,g2⟩|⟨-,g1,g2⟩)
     ·have g3:t<c.getD (i-1) 0:=by
       rcases g2 with g2|g2
       ·cases g2
       ·exact g2
      exact ⟨g1,h2.imp_right fun h2=>by grind⟩
     ·exact ⟨h1.imp_right fun h1=>by grind,g2⟩
   ·rw [e] at hs
    rw [Nat.add_sub_cancel]
    rcases List.mem_append.1 hs with hs|hs
    ·have b:=f3 s hs
     refine ⟨b.1,?_⟩
     have h1:l.lo<c.getD (i-1) 0:=by have:=Dc f2.2 b.2.1 hlb;rwa [hl] at this
     have h2:=Ay h (show i-1<i by omega) hi1
     have:=b.2.2
     grind
    ·obtain rfl:s=_:=by simpa using hs
     refine ⟨gb hi1,?_⟩
     show (ik c i).hi<=_
     rw [Lj hi1];grind
   ·rw [Nat.add_sub_cancel] at hx;exact absurd hx hne
   ·rw [Nat.add_sub_cancel]
    exact ⟨l0,_,e,Lj hi1⟩
  ·have e:fN c ms (i+1)=fN c ms i++[ik c i]:=by
    rw [fN,if_pos hm,if_neg (fun g=>h0 ⟨g.1,g.2.1⟩)]
   have hb:∀x∈fN c ms i,x.PJ (ik c i):=fun x hx=>by
    by_cases hz:0<i
    ·have hmf:ms.getD (i-1) false=false:=by
      cases hq:ms.getD (i-1) false with
      | false=>rfl
      | true=>exact absurd ⟨hz,hq⟩ h0
     exact ⟨(F.top hz hi x hx).1,ga hz,by rw [Lk hz];exact F.str hz hi hmf x hx⟩
    ·obtain rfl:i=0:=by omega
     cases hx
   refine ⟨?_,fun t ht=>?_,fun _ hi1 s hs=>?_,fun _ hi1 hx=>?_,fun _ hi1 _=>?_⟩
   ·rw [e];exact DF F.r hg hb
   ·rw [e,AZ,←F.mem t ht,qX]
    exact or_congr Iff.rfl ⟨fun g=>⟨hm,g⟩,fun g=>g.2⟩
   ·rw [e] at hs
    rw [Nat.add_sub_cancel]
    rcases List.mem_append.1 hs with hs|hs
    ·refine ⟨(hb s hs).1,?_⟩
     by_cases hz:0<i
     ·have h1:=(F.top hz hi s hs).2
      have h2:=Ay h (show i-1<i by omega) hi1
      grind
     ·obtain rfl:i=0:=by omega
      cases hs
    ·obtain rfl:s=_:=by simpa using hs
     refine ⟨gb hi1,?_⟩
     rw [Lj hi1];grind
   ·rw [Nat.add_sub_cancel] at hx;exact absurd hx hne
   ·rw [Nat.add_sub_cancel]
    exact ⟨_,_,e,Lj hi1⟩
 ·have e:fN c ms (i+1)=fN c ms i:=by rw [fN,if_neg hm]
  have hlt:i<c.length->∀s∈fN c ms i,s.b=false/\s.hi<c.getD i 0:=fun hi1 s hs=>by
   by_cases hz:0<i
   ·obtain ⟨h1,h2⟩:=F.top hz hi s hs
    have h3:=Ay h (show i-1<i by omega) hi1
    exact ⟨h1,by grind⟩
   ·obtain rfl:i=0:=by omega
    cases hs
  refine ⟨by rw [e];exact F.r,fun t ht=>?_,fun _ hi1 s hs=>?_,fun _ hi1 hx s hs=>?_,fun _ hi1 hx=>?_⟩
  ·rw [e,AZ,F.mem t ht]
   exact ⟨.inl,fun g=>g.elim id fun g=>absurd g.1 hm⟩
  ·rw [e] at hs
   rw [Nat.add_sub_cancel]
   obtain ⟨h1,h2⟩:=hlt hi1 s hs
   exact ⟨h1,by grind⟩
  ·rw [e] at hs
   rw [Nat.add_sub_cancel]
   exact (hlt hi1 s hs).2
  ·rw [Nat.add_sub_cancel] at hx;exact absurd hx hm
theorem fi (h:rH c):∀{i:Nat},i<=c.length+1->FI c ms i:=by
 intro i
 induction i with
 | zero=>exact fun _=>⟨⟨(fun _ h=>by cases h),List.Pairwise.nil⟩,(fun t _=>⟨(fun ⟨_,h,_⟩=>by cases h),(fun ⟨_,h,_⟩=>absurd h (Nat.not_lt_zero _))⟩),(fun h=>absurd h (Nat.lt_irrefl _)),(fun h=>absurd h (Nat.lt_irrefl _)),(fun h=>absurd h (Nat.lt_irrefl _))⟩
 | succ i ih=>exact fun hi=>LP h (by omega) (ih (by omega))
end
end Go.Proofs.Tryz
namespace Go.Proofs.Tryz
open Go.bM Go.fB
theorem Dh {s u:Sp}{t:Rat}:(s.meet u).oc t↔s.oc t/\u.oc t:=by
 have h1:Df s.lo u.lo<t↔s.lo<t/\u.lo<t:=by
  unfold Df
  rcases mT u.lo s.lo with ⟨h,e⟩|⟨h,e⟩|⟨h,e⟩<;>rw [e]<;>simp<;>grind
 have h2:t<Di s.hi u.hi↔t<s.hi/\t<u.hi:=by
  unfold Di
  rcases mT u.hi s.hi with ⟨h,e⟩|⟨h,e⟩|⟨h,e⟩<;>rw [e]<;>simp<;>grind
 unfold Sp.oc Sp.meet
 cases s.a<;>cases s.b<;>cases u.a<;>cases u.b<;>simp [h1,h2]<;>grind
theorem lV {l:L3}(h:Nz l)(t:Rat):ar l (gX l t) (h_ l t)=0/\Bp l (gX l t) (h_ l t)=t:=by
 have hn:=h.norm
 have hi:=Rat.mul_inv_cancel _ hn
 unfold ar Bp gX h_
 unfold fv at *
 constructor<;>grind
theorem Pu {l m:L3}(h:aU l m≠0):ar l (GX l m) (GY l m)=0/\ar m (GX l m) (GY l m)=0:=by
 have hi:=Rat.mul_inv_cancel _ h
 unfold ar GX GY
 constructor
 ·have e:(l.1:Rat)*(((l.2.1:Rat)*(m.2.2:Rat)-(l.2.2:Rat)*(m.2.1:Rat))*(aU l m)⁻¹)+(l.2.1:Rat)*(((l.2.2:Rat)*(m.1:Rat)-(l.1:Rat)*(m.2.2:Rat))*(aU l m)⁻¹)+(l.2.2:Rat)=(l.2.2:Rat)*(1-aU l m*(aU l m)⁻¹):=by
   generalize hc:(aU l m)⁻¹=c
   unfold aU
   grind
  rw [e,hi];grind
 ·have e:(m.1:Rat)*(((l.2.1:Rat)*(m.2.2:Rat)-(l.2.2:Rat)*(m.2.1:Rat))*(aU l m)⁻¹)+(m.2.1:Rat)*(((l.2.2:Rat)*(m.1:Rat)-(l.1:Rat)*(m.2.2:Rat))*(aU l m)⁻¹)+(m.2.2:Rat)=(m.2.2:Rat)*(1-aU l m*(aU l m)⁻¹):=by
   generalize hc:(aU l m)⁻¹=c
   unfold aU
   grind
  rw [e,hi];grind
theorem Gx (l:L3):lO (lO l)=lO l:=by
 unfold lO
 by_cases h:l.1<0\/l.1=0/\l.2.1<0
 ·rw [if_pos h,if_neg]
  unfold fR
  dsimp only
  omega
 ·rw [if_neg h,if_neg h]
theorem Ki {l:L3}(h:cS l=true):cS (lO l)=true:=by
 unfold lO
 split
 ·unfold cS fR gV at *
  simp only [Int.natAbs_neg]
  rw [Bool.and_eq_true,decide_eq_true_iff,decide_eq_true_iff] at h ⊢
  exact ⟨fun e=>h.1 ⟨by omega,by omega⟩,h.2⟩
 ·exact h
theorem ko {l:L3}(h:cS l=true):¬(l.1=0/\l.2.1=0):=by
 unfold cS at h
 rw [Bool.and_eq_true,decide_eq_true_iff] at h
 exact h.1
theorem mU {s:Sp}:s.emp=false↔∃t,s.oc t:=by
 constructor
 ·intro h
  obtain ⟨h1,h2⟩:=Sp.Ha h
  refine ⟨s.cL,?_,?_⟩
  ·cases ha:s.a
   ·exact .inr (h1 ha)
   ·exact .inl rfl
  ·cases hb:s.b
   ·exact .inr (h2 hb)
   ·exact .inl rfl
 ·rintro ⟨t,h1,h2⟩
  rw [Sp.kX]
  rcases h1 with h1|h1
  ·exact .inl h1
  ·rcases h2 with h2|h2
   ·exact .inr (.inl h2)
   ·exact .inr (.inr (by grind))
theorem jr {l:L3}{s:Sp}{m:L3} :
  (dU l s m=true->∀t,(dv l s m).oc t↔s.oc t/\0<ar m (gX l t) (h_ l t))/\(s.emp=false->dU l s m=false->∀t,s.oc t->¬0<ar m (gX l t) (h_ l t)):=by
 have key:d_ m l≠0->∀t,(dv l s m).oc t↔s.oc t/\0<j7 m l+d_ m l*t:=fun hd t=>by
  have hi:=Rat.mul_inv_cancel _ hd
  unfold dv
  rcases lC (d_ m l) with ⟨h,e⟩|⟨h,e⟩|⟨h,e⟩
  ·exact absurd h hd
  ·rw [e]
   show (s.meet ⟨dZ m l,0,false,true⟩).oc t↔_
   rw [Dh]
   have e2:d_ m l*(t-dZ m l)=j7 m l+d_ m l*t:=by unfold dZ;grind
   have:(⟨dZ m l,0,false,true⟩:Sp).oc t↔dZ m l<t:=by unfold Sp.oc;simp
   rw [this,←e2]
   refine and_congr_right fun _=>⟨fun h'=>Rat.mul_pos h (by grind),fun h'=>?_⟩
   by_cases c:dZ m l<t
   ·exact c
   ·have:=Rat.mul_nonneg (show 0<=d_ m l by grind) (show 0<=dZ m l-t by grind)
    grind
  ·rw [e]
   show (s.meet ⟨0,dZ m l,true,false⟩).oc t↔_
   rw [Dh]
   have e2:-d_ m l*(dZ m l-t)=j7 m l+d_ m l*t:=by unfold dZ;grind
   have:(⟨0,dZ m l,true,false⟩:Sp).oc t↔t<dZ m l:=by unfold Sp.oc;simp
   rw [this,←e2]
   refine and_congr_right fun _=>⟨fun h'=>Rat.mul_pos (by grind) (by grind),fun h'=>?_⟩
   by_cases c:t<dZ m l
   ·exact c
   ·have:=Rat.mul_nonneg (show 0<=-d_ m l by grind) (show 0<=t-dZ m l by grind)
    grind
 by_cases hd:d_ m l=0
 ·have ec:dv l s m=s:=by unfold dv;rw [hd];rfl
  have eb:dU l s m=decide ((j7 m l).num.sign>0):=by unfold dU;rw [hd];rfl
  constructor
  ·intro hb t
   rw [ec,wk,hd]
   rw [eb] at hb
   have hb:(j7 m l).num.sign>0:=by simpa using hb
   have:0<j7 m l:=by
    rcases lC (j7 m l) with ⟨h,e⟩|⟨h,e⟩|⟨h,e⟩
    ·omega
    ·exact h
    ·omega
   exact ⟨fun h=>⟨h,by grind⟩,fun h=>h.1⟩
  ·intro _ hb t _ hp
   rw [wk,hd] at hp
   rw [eb] at hb
   have hb:¬(j7 m l).num.sign>0:=by simpa using hb
   rcases lC (j7 m l) with ⟨h,e⟩|⟨h,e⟩|⟨h,e⟩
   ·grind
   ·omega
   ·grind
 ·have eb:dU l s m=!(dv l s m).emp:=by
   unfold dU
   rcases lC (d_ m l) with ⟨h,e⟩|⟨h,e⟩|⟨h,e⟩
   ·exact absurd h hd
   ·rw [e];rfl
   ·rw [e];rfl
  constructor
  ·intro _ t
   rw [wk];exact key hd t
  ·intro _ hb t ht hp
   rw [wk] at hp
   rw [eb] at hb
   have:=mU.2 ⟨t,(key hd t).2 ⟨ht,hp⟩⟩
   rw [this] at hb;cases hb
theorem kf {l:L3}{s:Sp}{m:L3}(hs:s.jj)(hb:dU l s m=true):(dv l s m).jj:=⟨Jh hs.1,Jg hs.2 hb⟩
abbrev Sd:=L3×Sp
def cw:List Sd->L3->Sp->Option Sp
 | [],_,v=>some v
 | s::c,l,v=>if dU l v s.1 then cw c l (dv l v s.1) else none
theorem q_:∀{c:List Sd} {l:L3} {v w:Sp},v.jj->cw c l v=some w->w.jj/\∀t,w.oc t↔v.oc t/\∀s∈c,0<ar s.1 (gX l t) (h_ l t)
 | [],_,v,w,h,e=>by cases e;exact ⟨h,fun t=>⟨fun g=>⟨g,fun s hs=>by cases hs⟩,fun g=>g.1⟩⟩
 | s::c,l,v,w,h,e=>by
  unfold cw at e
  split at e
  ·rename_i hb
   obtain ⟨g1,g2⟩:=q_ (kf h hb) e
   refine ⟨g1,fun t=>?_⟩
   rw [g2,(jr.1 hb t)]
   simp only [List.forall_mem_cons,and_assoc]
  ·cases e
theorem qZ:∀{c:List Sd} {l:L3} {v:Sp},v.jj->cw c l v=none->∀t,v.oc t->¬∀s∈c,0<ar s.1 (gX l t) (h_ l t)
 | [],_,v,h,e=>by cases e
 | s::c,l,v,h,e=>by
  intro t ht hall
  unfold cw at e
  split at e
  ·rename_i hb
   exact qZ (kf h hb) e t ((jr.1 hb t).2 ⟨ht,hall s (List.mem_cons_self ..)⟩) fun u hu=>hall u (List.mem_cons_of_mem _ hu)
  ·rename_i hb
   exact jr.2 h.2 (by simpa using hb) t ht (hall s (List.mem_cons_self ..))
theorem uM (l:L3):lO l=l\/lO l=fR l:=by unfold lO;split;exact .inr rfl;exact .inl rfl
theorem rev_rev (l:L3):fR (fR l)=l:=by unfold fR;simp
theorem GD (l:L3):aq.ax (fR l)=(-(aq.ax l).1,-(aq.ax l).2):=by unfold aq.ax fR;simp only [Rat.intCast_neg]
theorem vN {l:L3}(h:cS l=true):(aq.ax l).1≠0\/(aq.ax l).2≠0:=by
 have:=ko h
 unfold aq.ax
 by_cases e:l.2.1=0
 ·right;intro e'
  have:(l.1:Rat)=0:=by grind
  exact ko h ⟨by exact_mod_cast this,e⟩
 ·left;show (l.2.1:Rat)≠0;exact_mod_cast e
theorem NM {l m:L3}(ol:cS l=true)(om:cS m=true){p:aq.V2}(h1:ar l p.1 p.2=0)(h2:ar m p.1 p.2=0)(hc:aq.cr (aq.ax l) (aq.ax m)=0):l=m\/l=fR m:=by
 have vz:∀{x:L3},ar x p.1 p.2=0->ar (lO x) p.1 p.2=0:=fun {x} h=>by
  rcases uM x with e|e<;>rw [e]
  ·exact h
  ·rw [val_rev];grind
 have c0:aq.cr (aq.ax (lO l)) (aq.ax (lO m))=0:=by
  unfold aq.cr at *
  rcases uM l with e|e<;>rcases uM m with e'|e'<;>rw [e,e']<;>(try rw [GD l])<;>(try rw [GD m])<;>(try dsimp only)<;>grind
 have:=aq.Ir (Ki ol) (Ki om) (Gx l) (Gx m) (vz h1) (vz h2) c0
 rcases uM l with e|e<;>rcases uM m with e'|e'<;>rw [e,e'] at this
 ·exact .inl this
 ·exact .inr this
 ·right;rw [←this,rev_rev]
 ·left;have:=congrArg fR this;rwa [rev_rev,rev_rev] at this
theorem E3 {M:List L3}(hk:∀m∈M,cS m=true){q:aq.V2}(hq:aq.pos M q):aq.Tk M:=by
 intro l hl m hm hne p h1 h2 hc
 rcases NM (hk l hl) (hk m hm) h1 h2 hc with e|e
 ·exact hne e
 ·have a:=hq l hl
  have b:=hq m hm
  rw [e,val_rev] at a
  grind
theorem pK {l:L3}(h:Nz l){x y:Rat}(hp:ar l x y=0):∃t,x=gX l t/\y=h_ l t:=by
 have hi:=Rat.mul_inv_cancel _ h.norm
 unfold ar at hp
 refine ⟨Bp l x y,?_,?_⟩
 ·unfold gX Bp fv at *;grind
 ·unfold h_ Bp fv at *;grind
def bj:Sp:=⟨0,0,true,true⟩
theorem gy:bj.jj:=⟨⟨fun _=>rfl,fun _=>rfl⟩,rfl⟩
theorem pk (t:Rat):bj.oc t:=⟨.inl rfl,.inl rfl⟩
structure iE (M:List L3) (c:List Sd):Prop where
 pos:∃q,aq.pos M q
 mem:∀s∈c,s.1∈M/\s.2.jj/\∀t,s.2.oc t↔∀m∈M,m≠s.1->0<ar m (gX s.1 t) (h_ s.1 t)
 all:∀l∈M,aq.Es M l->∃v,(l,v)∈c
 rH:c.Pairwise fun s u=>aq.du (aq.ax s.1) (aq.ax u.1)<0
def mf (x:Sd):List Sd->List Sd
 | []=>[x]
 | s::r=>if aq.du (aq.ax s.1) (aq.ax x.1)<0 then s::mf x r else x::s::r
def lP (c:List Sd)(l:L3):List Sd:=c.filterMap fun s=>if dU s.1 s.2 l then some (s.1,dv s.1 s.2 l) else none
def dP:List Sd->L3->Int
 | [],_=>-1
 | s::c,l=>if (ar l (gX s.1 s.2.cL) (h_ s.1 s.2.cL)).num.sign≠0 then (ar l (gX s.1 s.2.cL) (h_ s.1 s.2.cL)).num.sign else if s.1=l then 1 else dP c l
def fW (c:List Sd)(l:L3):Option (List Sd):=
 match cw c l bj with
 | some v=>some (mf (l,v) (lP c l))
 | none=>if 0<dP c l then some c else none
theorem mg {x y:Sd}:∀{r:List Sd},y∈mf x r↔y=x\/y∈r
 | []=>by simp [mf]
 | s::r=>by
  unfold mf
  split
  ·rw [List.mem_cons,mg,List.mem_cons];exact or_left_comm
  ·rw [List.mem_cons]
theorem Av {a b d:aq.V2}(h:aq.du a b<0)(h':aq.du b d<0):aq.du a d<0:=by
 by_cases q:aq.du a d<0
 ·exact q
 ·exact absurd h (aq.um _ _ _ q (aq.tO _ _ h'))
theorem C6 {x:Sd}:∀{r:List Sd},(r.Pairwise fun s u=>aq.du (aq.ax s.1) (aq.ax u.1)<0)->(∀s∈r,aq.du (aq.ax s.1) (aq.ax x.1)≠0)->(mf x r).Pairwise fun s u=>aq.du (aq.ax s.1) (aq.ax u.1)<0
 | [],_,_=>List.pairwise_singleton ..
 | s::r,h,hn=>by
  obtain ⟨h1,h2⟩:=List.pairwise_cons.1 h
  unfold mf
  split
  ·rename_i hs
   refine List.pairwise_cons.2 ⟨fun y hy=>?_,C6 h2 fun u hu=>hn u (List.mem_cons_of_mem _ hu)⟩
   rcases mg.1 hy with rfl|hy
   ·exact hs
   ·exact h1 y hy
  ·rename_i hs
   have hx:aq.du (aq.ax x.1) (aq.ax s.1)<0:=by
    rcases aq.uj (aq.ax s.1) (aq.ax x.1) with g|g|g
    ·exact absurd g hs
    ·exact absurd g (hn s (List.mem_cons_self ..))
    ·exact g
   refine List.pairwise_cons.2 ⟨fun y hy=>?_,h⟩
   rcases List.mem_cons.1 hy with rfl|hy
   ·exact hx
   ·exact Av hx (h1 y hy)
theorem CK {c:List Sd}{l:L3}{y:Sd}:y∈lP c l↔∃s∈c,dU s.1 s.2 l=true/\y=(s.1,dv s.1 s.2 l):=by
 unfold lP
 rw [List.mem_filterMap]
 constructor
 ·rintro ⟨s,hs,e⟩
  split at e
  ·rename_i hb;cases e;exact ⟨s,hs,hb,rfl⟩
  ·cases e
 ·rintro ⟨s,hs,hb,rfl⟩
  exact ⟨s,hs,by rw [if_pos hb]⟩
theorem CJ {c:List Sd}{l:L3}(h:c.Pairwise fun s u=>aq.du (aq.ax s.1) (aq.ax u.1)<0):(lP c l).Pairwise fun s u=>aq.du (aq.ax s.1) (aq.ax u.1)<0:=by
 unfold lP
 refine List.Pairwise.filterMap _ ?_ h
 intro a b xQ x hx y hy
 split at hx
 ·split at hy
  ·cases hx;cases hy;exact xQ
  ·cases hy
 ·cases hx
theorem Dt {l s:L3}(hl:aq.nz (aq.ax s))(h:aq.du (aq.ax s) (aq.ax l)=0){p r:aq.V2}(p0:ar l p.1 p.2=0)(p1:0<ar s p.1 p.2)(r0:ar s r.1 r.2=0)(r1:0<ar l r.1 r.2):False:=by
 obtain ⟨c,c0,e⟩:=aq.Cj hl h
 have e1:(s.2.1:Rat)=c*(l.2.1:Rat):=congrArg Prod.fst e
 have e2:-(s.1:Rat)=c*-(l.1:Rat):=congrArg Prod.snd e
 have e2:(s.1:Rat)=c*(l.1:Rat):=by grind
 have key:∀x:aq.V2,ar s x.1 x.2=c*(ar l x.1 x.2-(l.2.2:Rat))+(s.2.2:Rat):=fun x=>by unfold ar;rw [e1,e2];grind
 have k:=aq.mp c0 r1
 rw [key] at p1 r0
 rw [p0] at p1
 generalize ar l r.1 r.2=z at *
 grind
section
variable {M:List L3} {c:List Sd} (h:iE M c) (hk:∀m ∈ M,cS m=true)
include h hk
theorem iE.int {p:aq.V2}(hp:∀s∈c,0<ar s.1 p.1 p.2):aq.pos M p:=by
 obtain ⟨q,hq⟩:=h.pos
 refine aq.Xp (E3 hk hq) (fun m hm=>vN (hk m hm)) hq fun m hm he=>?_
 obtain ⟨v,hv⟩:=h.all m hm he
 exact hp _ hv
theorem HL {l:L3}(hl:cS l=true){v:Sp}(e:cw c l bj=some v):iE (l::M) (mf (l,v) (lP c l)):=by
 have hN:Nz l:=ko hl
 obtain ⟨gv,hv⟩:=q_ gy e
 have vk:∀t,v.oc t↔aq.pos M (gX l t,h_ l t):=fun t=>⟨fun g=>h.int hk ((hv t).1 g).2,fun g=>(hv t).2 ⟨pk t,fun s hs=>g s.1 (h.mem s hs).1⟩⟩
 obtain ⟨t0,ht0⟩:=mU.1 gv.2
 have p0:=(vk t0).1 ht0
 have z0:=(lV hN t0).1
 have lM:l∉M:=fun hm=>by have:=p0 l hm;dsimp only at this;grind
 have ne:∀m∈M,m≠l:=fun m hm e=>lM (e▸hm)
 obtain ⟨q,hq,QL,-⟩:=aq.qL (M:=M) (x:=(gX l t0,h_ l t0)) (vN hl) z0 (fun m hm _=>p0 m hm) [] (fun m hm=>by cases hm)
 have Rj:∀s∈lP c l,s.1∈M/\s.2.jj/\∀t,s.2.oc t↔∀m∈l::M,m≠s.1->0<ar m (gX s.1 t) (h_ s.1 t):=fun s hs=>by
  obtain ⟨s0,h0,hb,rfl⟩:=CK.1 hs
  obtain ⟨m1,m2,m3⟩:=h.mem s0 h0
  refine ⟨m1,kf m2 hb,fun t=>?_⟩
  dsimp only
  rw [jr.1 hb t,m3 t,List.forall_mem_cons]
  exact ⟨fun g=>⟨fun _=>g.2,g.1⟩,fun g=>⟨g.2,g.1 (fun e=>ne _ m1 e.symm)⟩⟩
 refine ⟨⟨q,List.forall_mem_cons.2 ⟨QL,hq⟩⟩,fun s hs=>?_,fun l' hl' he=>?_,C6 (CJ h.rH) fun s hs e0=>?_⟩
 ·rcases mg.1 hs with rfl|hs
  ·refine ⟨List.mem_cons_self ..,gv,fun t=>?_⟩
   rw [vk t,List.forall_mem_cons]
   exact ⟨fun g=>⟨fun h=>absurd rfl h,fun m hm _=>g m hm⟩,fun g m hm=>g.2 m hm (ne m hm)⟩
  ·obtain ⟨a,b⟩:=Rj s hs
   exact ⟨List.mem_cons_of_mem _ a,b⟩
 ·rcases List.mem_cons.1 hl' with rfl|hl'
  ·exact ⟨v,mg.2 (.inl rfl)⟩
  ·obtain ⟨p,pz,hp⟩:=he
   obtain ⟨w,hw⟩:=h.all l' hl' ⟨p,pz,fun m hm hne=>hp m (List.mem_cons_of_mem _ hm) hne⟩
   obtain ⟨m1,m2,m3⟩:=h.mem _ hw
   obtain ⟨t,e1,e2⟩:=pK (ko (hk l' hl')) pz
   have hb:dU l' w l=true:=by
    cases hb:dU l' w l
    ·exfalso
     refine jr.2 m2.2 hb t ((m3 t).2 fun m hm hne=>?_) ?_
     ·dsimp only;rw [←e1,←e2];exact hp m (List.mem_cons_of_mem _ hm) hne
     ·rw [←e1,←e2];exact hp l (List.mem_cons_self ..) (fun e=>lM (e▸hl'))
    ·rfl
   exact ⟨dv l' w l,mg.2 (.inr (CK.2 ⟨_,hw,hb,rfl⟩))⟩
 ·obtain ⟨m1,m2,m3⟩:=Rj s hs
  obtain ⟨t,ht⟩:=mU.1 m2.2
  have hr:=(m3 t).1 ht l (List.mem_cons_self ..) (fun e=>ne _ m1 e.symm)
  exact Dt (vN (hk _ m1)) e0 (p:=(gX l t0,h_ l t0)) (r:=(gX s.1 t,h_ s.1 t)) z0 (p0 _ m1) (lV (ko (hk _ m1)) t).1 hr
omit h in
theorem qJ {l:L3}(hl:cS l=true)(hno:∀x:aq.V2,ar l x.1 x.2=0->¬aq.pos M x){q:aq.V2}(hq:aq.pos M q){s:L3}(hs:s∈M){x:aq.V2}(xz:ar s x.1 x.2=0)(hx:∀m∈M,m≠s->0<ar m x.1 x.2) :
  (0<ar l q.1 q.2->0<ar l x.1 x.2\/s=l)/\(ar l q.1 q.2<0->ar l x.1 x.2<0\/ar l x.1 x.2=0/\s≠l):=by
 have side:∀g:L3,(∀x:aq.V2,ar g x.1 x.2=0->¬aq.pos M x)->0<ar g q.1 q.2->∀y:aq.V2,ar s y.1 y.2=0->(∀m∈M,m≠s->0<ar m y.1 y.2)->¬ar g y.1 y.2<0:=fun g hno gq y yz hy hneg=>by
  obtain ⟨q',h1,-,h3⟩:=aq.qL (vN (hk s hs)) yz hy [fR g] (fun m hm=>by rcases List.mem_singleton.1 hm with rfl;rw [val_rev];grind)
  have h3:=h3 _ (List.mem_singleton.2 rfl)
  rw [val_rev] at h3
  have:=aq.pL hno hq h1 gq
  grind
 constructor
 ·intro hp
  by_cases c1:0<ar l x.1 x.2
  ·exact .inl c1
  right
  have z:ar l x.1 x.2=0:=by have:=side l hno hp x xz hx;grind
  by_cases e:s=l
  ·exact e
  exfalso
  have ZE:aq.cr (aq.ax l) (aq.ax s)≠0:=fun e0=>by
   rcases NM hl (hk s hs) z xz e0 with g|g
   ·exact e g.symm
   ·rw [g,val_rev] at hp
    have:=hq s hs
    grind
  have step:∀d:aq.V2,aq.nv s d=0->aq.nv l d<0->False:=fun d d0 d1=>by
   obtain ⟨r,r0,hr⟩:=aq.BE ((M.filter fun m=>decide (m≠s)).map fun m=>(ar m x.1 x.2,aq.nv m d)) (fun y hy=>by
    obtain ⟨m,hm,rfl⟩:=List.mem_map.1 hy
    have:=List.mem_filter.1 hm
    exact hx m this.1 (by simpa using this.2))
   refine side l hno hp (x.1+r*d.1,x.2+r*d.2) ?_ (fun m hm hne=>?_) ?_
   ·rw [aq.gO,xz,d0];grind
   ·rw [aq.gO]
    exact hr (ar m x.1 x.2,aq.nv m d) (List.mem_map.2 ⟨m,List.mem_filter.2 ⟨hm,by simpa using hne⟩,rfl⟩)
   ·rw [aq.gO,z]
    have:=aq.mp r0 (show -aq.nv l d>0 by grind)
    grind
  have s0:aq.nv s (aq.ax s)=0:=by rw [aq.G3];exact aq.GC _
  have ls:aq.nv l (aq.ax s)≠0:=by rw [aq.G3];exact ZE
  by_cases c2:aq.nv l (aq.ax s)<0
  ·exact step _ s0 c2
  ·have e1:aq.nv s (-(aq.ax s).1,-(aq.ax s).2)=-aq.nv s (aq.ax s):=by unfold aq.nv;dsimp only;grind
   have e2:aq.nv l (-(aq.ax s).1,-(aq.ax s).2)=-aq.nv l (aq.ax s):=by unfold aq.nv;dsimp only;grind
   exact step (-(aq.ax s).1,-(aq.ax s).2) (by rw [e1,s0];grind) (by rw [e2];grind)
 ·intro hp
  have:=side (fR l) (fun x hx=>hno x (by rw [val_rev] at hx;grind)) (by rw [val_rev];grind) x xz hx
  rw [val_rev] at this
  by_cases c1:ar l x.1 x.2<0
  ·exact .inl c1
  ·refine .inr ⟨by grind,fun e=>?_⟩
   have:=hq s hs
   rw [e] at this
   grind
theorem sr {s:Sd}(hs:s∈c):ar s.1 (gX s.1 s.2.cL) (h_ s.1 s.2.cL)=0/\∀m∈M,m≠s.1->0<ar m (gX s.1 s.2.cL) (h_ s.1 s.2.cL):=by
 obtain ⟨m1,m2,m3⟩:=h.mem s hs
 refine ⟨(lV (ko (hk _ m1)) _).1,(m3 _).1 ?_⟩
 obtain ⟨h1,h2⟩:=Sp.Ha m2.2
 constructor
 ·cases ha:s.2.a
  ·exact .inr (h1 ha)
  ·exact .inl rfl
 ·cases hb:s.2.b
  ·exact .inr (h2 hb)
  ·exact .inl rfl
theorem Af {l:L3}(hl:cS l=true)(hno:∀x:aq.V2,ar l x.1 x.2=0->¬aq.pos M x){q:aq.V2}(hq:aq.pos M q)(hp:0<ar l q.1 q.2)(h0:c≠[]):dP c l=1:=by
 cases hc:c with
 | nil=>exact absurd hc h0
 | cons s r=>
  have hs:s∈c:=by rw [hc];exact List.mem_cons_self ..
  obtain ⟨e1,e2⟩:=sr h hk hs
  have:=(qJ hk hl hno hq (h.mem s hs).1 (x:=(gX s.1 s.2.cL,h_ s.1 s.2.cL)) e1 e2).1 hp
  unfold dP
  dsimp only at this
  by_cases c1:0<ar l (gX s.1 s.2.cL) (h_ s.1 s.2.cL)
  ·rw [aq.BD.2 c1];rfl
  ·have hsl:s.1=l:=this.resolve_left c1
   have z:ar l (gX s.1 s.2.cL) (h_ s.1 s.2.cL)=0:=by
    have h:=e1;rw [hsl] at h ⊢;exact h
   rw [aq.fe.2 z,if_neg (by simp),if_pos hsl]
theorem Ae {l:L3}(hl:cS l=true)(hno:∀x:aq.V2,ar l x.1 x.2=0->¬aq.pos M x){q:aq.V2}(hq:aq.pos M q)(hp:ar l q.1 q.2<0):dP c l=-1:=by
 have:∀r:List Sd,(∀s∈r,s∈c)->dP r l=-1:=by
  intro r
  induction r with
  | nil=>intro _;rfl
  | cons s r ih=>
   intro hr
   have hs:=hr s (List.mem_cons_self ..)
   obtain ⟨e1,e2⟩:=sr h hk hs
   have:=(qJ hk hl hno hq (h.mem s hs).1 (x:=(gX s.1 s.2.cL,h_ s.1 s.2.cL)) e1 e2).2 hp
   dsimp only at this
   unfold dP
   rcases this with g|⟨g,g'⟩
   ·rw [aq.vY.2 g];rfl
   ·rw [aq.fe.2 g,if_neg (by simp),if_neg g']
    exact ih fun u hu=>hr u (List.mem_cons_of_mem _ hu)
 exact this c fun _ h=>h
theorem Gy {l:L3}(hl:cS l=true):(∀c',fW c l=some c'->iE (l::M) c')/\(fW c l=none->¬∃q,aq.pos (l::M) q):=by
 unfold fW
 cases e:cw c l bj with
 | some v=>exact ⟨fun c' e'=>by cases e';exact HL h hk hl e,fun e'=>by cases e'⟩
 | none=>
  dsimp only
  have hno:∀x:aq.V2,ar l x.1 x.2=0->¬aq.pos M x:=fun x hx hp=>by
   obtain ⟨t,e1,e2⟩:=pK (ko hl) hx
   refine qZ gy e t (pk t) fun s hs=>?_
   rw [←e1,←e2];exact hp s.1 (h.mem s hs).1
  have h0:c≠[]:=fun e0=>by rw [e0] at e;cases e
  obtain ⟨q,hq⟩:=h.pos
  by_cases c1:0<ar l q.1 q.2
  ·rw [Af h hk hl hno hq c1 h0]
   refine ⟨fun c' e'=>?_,fun e'=>by cases e'⟩
   cases e'
   refine ⟨⟨q,List.forall_mem_cons.2 ⟨c1,hq⟩⟩,fun s hs=>?_,fun l' hl' he=>?_,h.rH⟩
   ·obtain ⟨m1,m2,m3⟩:=h.mem s hs
    refine ⟨List.mem_cons_of_mem _ m1,m2,fun t=>?_⟩
    rw [m3 t,List.forall_mem_cons]
    refine ⟨fun g=>⟨fun hne=>?_,g⟩,fun g=>g.2⟩
    exact ((qJ hk hl hno hq m1 (x:=(gX s.1 t,h_ s.1 t)) (lV (ko (hk _ m1)) t).1 g).1 c1).resolve_right fun e=>hne e.symm
   ·obtain ⟨p,pz,hp⟩:=he
    by_cases hm:l'∈M
    ·exact h.all l' hm ⟨p,pz,fun m hm hne=>hp m (List.mem_cons_of_mem _ hm) hne⟩
    ·exfalso
     have e1:l'=l:=(List.mem_cons.1 hl').resolve_right hm
     refine hno p (e1▸pz) fun m hm'=>hp m (List.mem_cons_of_mem _ hm') fun e2=>hm (e2▸hm')
  ·have c2:ar l q.1 q.2<0:=by
    by_cases z:ar l q.1 q.2=0
    ·exact absurd hq (hno q z)
    ·grind
   rw [Ae h hk hl hno hq c2]
   refine ⟨fun c' e'=>(by cases e'),fun _=>?_⟩
   rintro ⟨q',hq'⟩
   obtain ⟨a,b⟩:=List.forall_mem_cons.1 hq'
   have:=aq.pL hno (fun m hm=>b m hm) hq a
   grind
end
theorem iE.nil:iE [] []:=⟨⟨(0,0),fun m hm=>by cases hm⟩,(fun s hs=>by cases hs),(fun l hl=>by cases hl),List.Pairwise.nil⟩
def bq:List L3->List L3->List Sd->Option (List Sd)
 | [],_,c=>some c
 | l::r,M,c=>match fW c l with
  | some c'=>bq r (l::M) c'
  | none=>none
theorem uO:∀{ls M:List L3} {c:List Sd},iE M c->(∀m∈M,cS m=true)->(∀m∈ls,cS m=true)->(∀c',bq ls M c=some c'->iE (ls.reverse++M) c')/\(bq ls M c=none->¬∃q,aq.pos (ls.reverse++M) q)
 | [],M,c,h,hk,hl=>⟨fun c' e=>by cases e;exact h,fun e=>by cases e⟩
 | l::r,M,c,h,hk,hl=>by
  obtain ⟨h1,h2⟩:=Gy h hk (hl l (List.mem_cons_self ..))
  rw [List.reverse_cons,List.append_assoc]
  unfold bq
  cases e:fW c l with
  | some c'=>exact uO (h1 c' e) (List.forall_mem_cons.2 ⟨hl l (List.mem_cons_self ..),hk⟩) fun m hm=>hl m (List.mem_cons_of_mem _ hm)
  | none=>
   refine ⟨fun c' e'=>(by cases e'),fun _=>?_⟩
   rintro ⟨q,hq⟩
   exact h2 e ⟨q,fun m hm=>hq m (List.mem_append_right _ hm)⟩
theorem Cn:∀{a b:List L3},(a.Pairwise fun l m=>aq.du (aq.ax l) (aq.ax m)<0)->(b.Pairwise fun l m=>aq.du (aq.ax l) (aq.ax m)<0)->(∀x,x∈a↔x∈b)->a=b
 | [],b,_,_,h=>by
  cases b with
  | nil=>rfl
  | cons y b=>have:=(h y).2 (List.mem_cons_self ..);cases this
 | x::a,[],_,_,h=>by have:=(h x).1 (List.mem_cons_self ..);cases this
 | x::a,y::b,ha,hb,h=>by
  obtain ⟨a1,a2⟩:=List.pairwise_cons.1 ha
  obtain ⟨b1,b2⟩:=List.pairwise_cons.1 hb
  have e:x=y:=by
   rcases List.mem_cons.1 ((h x).1 (List.mem_cons_self ..)) with e|hx
   ·exact e
   ·rcases List.mem_cons.1 ((h y).2 (List.mem_cons_self ..)) with e|hy
    ·exact e.symm
    ·exact absurd (a1 y hy) (aq.tO _ _ (b1 x hx))
  subst e
  have Yf:∀z:L3,¬aq.du (aq.ax z) (aq.ax z)<0:=fun z hz=>aq.tO _ _ hz hz
  congr 1
  refine Cn a2 b2 fun z=>⟨fun hz=>?_,fun hz=>?_⟩
  ·rcases List.mem_cons.1 ((h z).1 (List.mem_cons_of_mem _ hz)) with e|g
   ·exact absurd (a1 z hz) (e▸Yf z)
   ·exact g
  ·rcases List.mem_cons.1 ((h z).2 (List.mem_cons_of_mem _ hz)) with e|g
   ·exact absurd (b1 z hz) (e▸Yf z)
   ·exact g
end Go.Proofs.Tryz
namespace Go.Proofs.Tryz
open Go.bM Go.fB
theorem qH (l m:L3):aU l m=-d_ m l:=by unfold aU d_;grind
theorem Om (m l:L3):aq.cr (aq.ax m) (aq.ax l)=d_ m l:=by unfold aq.cr aq.ax d_;grind
def lj (l m:L3):Rat:=Bp l (GX l m) (GY l m)
theorem Ds {l m:L3}(hl:Nz l)(h:aU l m≠0):lj l m=dZ m l:=by
 obtain ⟨v1,v2⟩:=Pu h
 obtain ⟨t,e1,e2⟩:=pK hl v1
 have e3:lj l m=t:=by unfold lj;rw [e1,e2];exact (lV hl t).2
 rw [e1,e2,wk] at v2
 rw [e3]
 have hd:d_ m l≠0:=fun e=>h (by rw [qH,e];grind)
 have hi:=Rat.mul_inv_cancel _ hd
 unfold dZ
 grind
def ph (l m:L3)(s:Sp):Option Sp:=
 if aU l m=0 then (if (ar m (gX l 0) (h_ l 0)).num.sign<=0 then none else some s)
 else
  let s':Sp:=if 0<(d_ m l).num.sign then (if s.a=true\/s.lo<lj l m then ⟨lj l m,s.hi,false,s.b⟩ else s) else (if s.b=true\/lj l m<s.hi then ⟨s.lo,lj l m,s.a,false⟩ else s)
  if s'.a=false/\s'.b=false/\s'.hi<=s'.lo then none else some s'
theorem Jl {s:Sp}:s.emp=true↔s.a=false/\s.b=false/\s.hi<=s.lo:=by
 cases h:s.emp
 ·have:=Sp.kX.1 h
  constructor
  ·intro h;cases h
  ·rintro ⟨h1,h2,h3⟩
   rw [h1,h2] at this
   rcases this with h|h|h
   ·cases h
   ·cases h
   ·exfalso;grind
 ·refine ⟨fun _=>?_,fun _=>rfl⟩
  have hn:¬(s.a=true\/s.b=true\/s.lo<s.hi):=fun g=>by rw [←Sp.kX] at g;rw [h] at g;cases g
  refine ⟨?_,?_,?_⟩
  ·cases e:s.a
   ·rfl
   ·exact absurd (.inl e) hn
  ·cases e:s.b
   ·rfl
   ·exact absurd (.inr (.inl e)) hn
  ·by_cases c:s.lo<s.hi
   ·exact absurd (.inr (.inr c)) hn
   ·grind
theorem uY {l m:L3}{s:Sp}(hl:Nz l)(hs:s.jj):ph l m s=if dU l s m=true then some (dv l s m) else none:=by
 unfold ph
 by_cases hc:aU l m=0
 ·have hd:d_ m l=0:=by rw [qH] at hc;grind
  have ec:dv l s m=s:=by unfold dv;rw [hd];rfl
  have eb:dU l s m=decide ((j7 m l).num.sign>0):=by unfold dU;rw [hd];rfl
  rw [if_pos hc,ec,eb]
  show (if (j7 m l).num.sign<=0 then none else some s)=_
  by_cases g:(j7 m l).num.sign<=0
  ·rw [if_pos g,if_neg (by rw [decide_eq_true_iff];omega)]
  ·rw [if_neg g,if_pos (by rw [decide_eq_true_iff];omega)]
 ·have hd:d_ m l≠0:=fun e=>hc (by rw [qH,e];grind)
  rw [if_neg hc,Ds hl hc]
  have es:(if 0<(d_ m l).num.sign then (if s.a=true\/s.lo<dZ m l then (⟨dZ m l,s.hi,false,s.b⟩:Sp) else s) else (if s.b=true\/dZ m l<s.hi then ⟨s.lo,dZ m l,s.a,false⟩ else s))=dv l s m:=by
   obtain ⟨ca,cb⟩:=hs.1
   obtain ⟨lo,hi,a,b⟩:=s
   dsimp only at ca cb ⊢
   unfold dv
   rcases lC (d_ m l) with ⟨h,e⟩|⟨h,e⟩|⟨h,e⟩
   ·exact absurd h hd
   ·rw [e,if_pos (by decide)]
    show _=Sp.meet ⟨lo,hi,a,b⟩ ⟨dZ m l,0,false,true⟩
    unfold Sp.meet Df
    rcases mT (dZ m l) lo with ⟨g,e⟩|⟨g,e⟩|⟨g,e⟩<;>rw [e]<;>cases a<;>cases b<;>simp at ca cb⊢<;> grind
   ·rw [e,if_neg (by decide)]
    show _=Sp.meet ⟨lo,hi,a,b⟩ ⟨0,dZ m l,true,false⟩
    unfold Sp.meet Di
    rcases mT (dZ m l) hi with ⟨g,e⟩|⟨g,e⟩|⟨g,e⟩<;>rw [e]<;>cases a<;>cases b<;>simp at ca cb⊢<;> grind
  have eb:dU l s m=!(dv l s m).emp:=by
   unfold dU
   rcases lC (d_ m l) with ⟨h,e⟩|⟨h,e⟩|⟨h,e⟩
   ·exact absurd h hd
   ·rw [e];rfl
   ·rw [e];rfl
  dsimp only
  rw [es,eb]
  by_cases g:(dv l s m).a=false/\(dv l s m).b=false/\(dv l s m).hi<=(dv l s m).lo
  ·rw [if_pos g,Jl.2 g,if_neg (by decide)]
  ·rw [if_neg g]
   cases h:(dv l s m).emp
   ·rw [if_pos (by decide)]
   ·exact absurd (Jl.1 h) g
def dR (l:L3):List L3->Sp->Option Sp
 | [],s=>some s
 | m::r,s=>if m=l then dR l r s else match ph l m s with
  | some s'=>dR l r s'
  | none=>none
theorem qK {l:L3}(hl:Nz l):∀{c:List L3} {s w:Sp},s.jj->dR l c s=some w->w.jj/\∀t,w.oc t↔s.oc t/\∀m∈c,m≠l->0<ar m (gX l t) (h_ l t)
 | [],s,w,h,e=>by cases e;exact ⟨h,fun t=>⟨fun g=>⟨g,fun m hm=>by cases hm⟩,fun g=>g.1⟩⟩
 | m::c,s,w,h,e=>by
  unfold dR at e
  by_cases hm:m=l
  ·rw [if_pos hm] at e
   obtain ⟨g1,g2⟩:=qK hl h e
   refine ⟨g1,fun t=>(g2 t).trans (and_congr_right fun _=>?_)⟩
   rw [List.forall_mem_cons]
   exact ⟨fun g=>⟨fun hne=>absurd hm hne,g⟩,fun g=>g.2⟩
  ·rw [if_neg hm,uY hl h] at e
   by_cases hb:dU l s m=true
   ·rw [if_pos hb] at e
    obtain ⟨g1,g2⟩:=qK hl (kf h hb) e
    refine ⟨g1,fun t=>?_⟩
    rw [g2,jr.1 hb t,List.forall_mem_cons,and_assoc]
    exact and_congr_right fun _=>and_congr_left fun _=>⟨fun g _=>g,fun g=>g hm⟩
   ·rw [if_neg hb] at e;cases e
theorem qI {l:L3}(hl:Nz l):∀{c:List L3} {s:Sp},s.jj->dR l c s=none->∀t,s.oc t->¬∀m∈c,m≠l->0<ar m (gX l t) (h_ l t)
 | [],s,h,e=>by cases e
 | m::c,s,h,e=>by
  intro t ht hall
  obtain ⟨ha,hr⟩:=List.forall_mem_cons.1 hall
  unfold dR at e
  by_cases hm:m=l
  ·rw [if_pos hm] at e
   exact qI hl h e t ht hr
  ·rw [if_neg hm,uY hl h] at e
   by_cases hb:dU l s m=true
   ·rw [if_pos hb] at e
    exact qI hl (kf h hb) e t ((jr.1 hb t).2 ⟨ht,ha hm⟩) hr
   ·exact jr.2 h.2 (by simpa using hb) t ht (ha hm)
theorem tS {l:L3}(hl:Nz l){c:List L3}:(dR l c bj).isSome=true↔aq.Es c l:=by
 constructor
 ·intro h
  obtain ⟨w,hw⟩:=Option.isSome_iff_exists.1 h
  obtain ⟨g1,g2⟩:=qK hl gy hw
  obtain ⟨t,ht⟩:=mU.1 g1.2
  exact ⟨(gX l t,h_ l t),(lV hl t).1,((g2 t).1 ht).2⟩
 ·rintro ⟨p,p0,p1⟩
  obtain ⟨t,e1,e2⟩:=pK hl p0
  cases h:dR l c bj with
  | some w=>rfl
  | none=>
   rw [e1,e2] at p1
   exact absurd p1 (qI hl gy h t (pk t))
def C8 (l:L3):List L3->List L3
 | []=>[l]
 | u::r=>if aq.du (aq.ax u) (aq.ax l)<0 then u::C8 l r else if u=l then u::r else l::u::r
def BA (c:List L3):List L3->List L3->List L3
 | [],out=>out
 | l::r,out=>BA c r (if (dR l c bj).isSome=true then C8 l out else out)
theorem pD {l x:L3}:∀{r:List L3},x∈C8 l r↔x=l\/x∈r
 | []=>by simp [C8]
 | u::r=>by
  unfold C8
  split
  ·rw [List.mem_cons,pD,List.mem_cons];exact or_left_comm
  split
  ·rename_i e
   subst e
   rw [List.mem_cons]
   exact ⟨.inr,fun h=>h.elim .inl id⟩
  ·rw [List.mem_cons]
theorem C9 {l:L3}:∀{r:List L3},(r.Pairwise fun s u=>aq.du (aq.ax s) (aq.ax u)<0)->(∀s∈r,aq.du (aq.ax s) (aq.ax l)=0->s=l)->(C8 l r).Pairwise fun s u=>aq.du (aq.ax s) (aq.ax u)<0
 | [],_,_=>List.pairwise_singleton _ _
 | u::r,h,hz=>by
  obtain ⟨h1,h2⟩:=List.pairwise_cons.1 h
  unfold C8
  split
  ·rename_i hlt
   refine List.pairwise_cons.2 ⟨fun y hy=>?_,C9 h2 (fun s hs=>hz s (List.mem_cons_of_mem _ hs))⟩
   rcases pD.1 hy with rfl|hy
   ·exact hlt
   ·exact h1 y hy
  split
  ·exact h
  ·rename_i hlt hne
   have hgt:aq.du (aq.ax l) (aq.ax u)<0:=by
    have h0:aq.du (aq.ax u) (aq.ax l)≠0:=fun e=>hne (hz u (List.mem_cons_self ..) e)
    rcases aq.uj (aq.ax u) (aq.ax l) with g|g|g
    ·exact absurd g hlt
    ·exact absurd g h0
    ·exact g
   refine List.pairwise_cons.2 ⟨fun y hy=>?_,h⟩
   rcases List.mem_cons.1 hy with rfl|hy
   ·exact hgt
   ·exact Av hgt (h1 y hy)
theorem Ov {c:List L3}(hk:∀m∈c,cS m=true){l m:L3}(hl:l∈c)(hm:m∈c)(el:aq.Es c l)(em:aq.Es c m)(h:aq.du (aq.ax l) (aq.ax m)=0):l=m:=by
 by_cases e:l=m
 ·exact e
 exfalso
 obtain ⟨p,p0,p1⟩:=em
 obtain ⟨r,r0,r1⟩:=el
 exact Dt (vN (hk l hl)) h p0 (p1 l hl e) r0 (r1 m hm fun e'=>e e'.symm)
theorem BB {c:List L3}(hk:∀m∈c,cS m=true):∀{r out:List L3},(∀m∈r,m∈c)->(∀m∈out,m∈c/\aq.Es c m)->(out.Pairwise fun s u=>aq.du (aq.ax s) (aq.ax u)<0) ->
  ((BA c r out).Pairwise fun s u=>aq.du (aq.ax s) (aq.ax u)<0)/\∀x,x∈BA c r out↔x∈out\/x∈r/\aq.Es c x
 | [],out,_,_,h=>⟨h,fun x=>by simp [BA]⟩
 | l::r,out,hr,ho,h=>by
  obtain ⟨hl,hr⟩:=List.forall_mem_cons.1 hr
  unfold BA
  by_cases he:aq.Es c l
  ·rw [if_pos ((tS (ko (hk l hl))).2 he)]
   obtain ⟨g1,g2⟩:=BB hk (r:=r) (out:=C8 l out) hr (fun m hm=>by
    rcases pD.1 hm with rfl|hm
    ·exact ⟨hl,he⟩
    ·exact ho m hm) (C9 h fun s hs e=>Ov hk (ho s hs).1 hl (ho s hs).2 he e)
   refine ⟨g1,fun x=>?_⟩
   rw [g2,pD,List.mem_cons]
   constructor
   ·rintro ((rfl|h)|h)
    ·exact .inr ⟨.inl rfl,he⟩
    ·exact .inl h
    ·exact .inr ⟨.inr h.1,h.2⟩
   ·rintro (h|⟨rfl|h,e⟩)
    ·exact .inl (.inr h)
    ·exact .inl (.inl rfl)
    ·exact .inr ⟨h,e⟩
  ·rw [if_neg fun g=>he ((tS (ko (hk l hl))).1 g)]
   obtain ⟨g1,g2⟩:=BB hk (r:=r) (out:=out) hr ho h
   refine ⟨g1,fun x=>?_⟩
   rw [g2,List.mem_cons]
   constructor
   ·rintro (h|h)
    ·exact .inl h
    ·exact .inr ⟨.inr h.1,h.2⟩
   ·rintro (h|⟨rfl|h,e⟩)
    ·exact .inl h
    ·exact absurd e he
    ·exact .inr ⟨h,e⟩
theorem Es.of {M N:List L3}(h:∀x,x∈M->x∈N){l:L3}(e:aq.Es N l):aq.Es M l:=by
 obtain ⟨p,p0,p1⟩:=e
 exact ⟨p,p0,fun m hm=>p1 m (h m hm)⟩
theorem pe {ls:List L3}(hk:∀m∈ls,cS m=true):(∀c,bq ls [] []=some c->BA ls ls []=c.map Prod.fst/\iE ls.reverse c/\(ls=[]\/BA ls ls []≠[]))/\(bq ls [] []=none->BA ls ls []=[]/\ls≠[]/\¬∃q,aq.pos ls q):=by
 obtain ⟨h1,h2⟩:=uO (ls:=ls) iE.nil (fun m hm=>by cases hm) hk
 rw [List.append_nil] at h1 h2
 obtain ⟨g1,g2⟩:=BB hk (r:=ls) (out:=[]) (fun m hm=>hm) (fun m hm=>by cases hm) List.Pairwise.nil
 have g2:∀x,x∈BA ls ls []↔x∈ls/\aq.Es ls x:=fun x=>(g2 x).trans ⟨fun h=>h.elim (fun h=>by cases h) id,.inr⟩
 have hpos:∀q,aq.pos ls q↔aq.pos ls.reverse q:=fun q=>⟨fun h m hm=>h m (List.mem_reverse.1 hm),fun h m hm=>h m (List.mem_reverse.2 hm)⟩
 constructor
 ·intro c e
  have hc:=h1 c e
  obtain ⟨q,hq⟩:=hc.pos
  have hq:=(hpos q).2 hq
  refine ⟨?_,hc,?_⟩
  ·refine Cn g1 (List.pairwise_map.2 hc.rH) fun x=>?_
   rw [g2,List.mem_map]
   constructor
   ·rintro ⟨a,b⟩
    obtain ⟨v,hv⟩:=hc.all x (List.mem_reverse.2 a) (Es.of (fun y hy=>List.mem_reverse.1 hy) b)
    exact ⟨_,hv,rfl⟩
   ·rintro ⟨s,hs,rfl⟩
    obtain ⟨a1,a2,a3⟩:=hc.mem s hs
    obtain ⟨t,ht⟩:=mU.1 a2.2
    have a1:=List.mem_reverse.1 a1
    exact ⟨a1,⟨(gX s.1 t,h_ s.1 t),(lV (ko (hk _ a1)) t).1,fun m hm hne=>(a3 t).1 ht m (List.mem_reverse.2 hm) hne⟩⟩
  ·by_cases h0:ls=[]
   ·exact .inl h0
   right
   obtain ⟨l,hl,he⟩:=aq.GH (E3 hk hq) (fun m hm=>vN (hk m hm)) hq h0
   exact List.ne_nil_of_mem ((g2 l).2 ⟨hl,he⟩)
 ·intro e
  have hno:¬∃q,aq.pos ls q:=fun ⟨q,hq⟩=>h2 e ⟨q,(hpos q).1 hq⟩
  refine ⟨?_,fun h0=>hno ⟨(0,0),fun m hm=>by rw [h0] at hm;cases hm⟩,hno⟩
  refine List.eq_nil_iff_forall_not_mem.2 fun x hx=>?_
  obtain ⟨a,p,p0,p1⟩:=(g2 x).1 hx
  obtain ⟨q,hq,-⟩:=aq.qL (vN (hk x a)) p0 p1 [] (fun m hm=>by cases hm)
  exact hno ⟨q,hq⟩
theorem Bk {l:L3}(h:cS l=true):cS (fR l)=true:=by
 unfold cS fR gV at *
 simp only [Int.natAbs_neg]
 rw [Bool.and_eq_true,decide_eq_true_iff,decide_eq_true_iff] at h ⊢
 exact ⟨fun e=>h.1 ⟨by omega,by omega⟩,h.2⟩
theorem H5 {c:List L3}(hk:∀m∈c,cS m=true):(c=[]\/∃l∈c,aq.Es c l)↔∃q,aq.pos c q:=by
 constructor
 ·rintro (rfl|⟨l,hl,p,p0,p1⟩)
  ·exact ⟨(0,0),fun m hm=>by cases hm⟩
  ·obtain ⟨q,hq,-⟩:=aq.qL (vN (hk l hl)) p0 p1 [] (fun m hm=>by cases hm)
   exact ⟨q,hq⟩
 ·rintro ⟨q,hq⟩
  by_cases h0:c=[]
  ·exact .inl h0
  ·exact .inr (aq.GH (E3 hk hq) (fun m hm=>vN (hk m hm)) hq h0)
section
variable {M:List L3} {c:List Sd} (h:iE M c) (hk:∀m ∈ M,cS m=true)
include h hk
theorem Du {l:L3}(hl:cS l=true):(cw c l bj).isSome=true↔∃x:aq.V2,ar l x.1 x.2=0/\aq.pos M x:=by
 constructor
 ·intro e
  obtain ⟨v,hv⟩:=Option.isSome_iff_exists.1 e
  obtain ⟨g1,g2⟩:=q_ gy hv
  obtain ⟨t,ht⟩:=mU.1 g1.2
  exact ⟨(gX l t,h_ l t),(lV (ko hl) t).1,h.int hk ((g2 t).1 ht).2⟩
 ·rintro ⟨x,x0,x1⟩
  obtain ⟨t,e1,e2⟩:=pK (ko hl) x0
  cases e:cw c l bj with
  | some v=>rfl
  | none=>exact absurd (fun s hs=>by rw [←e1,←e2];exact x1 _ (h.mem s hs).1) (qZ gy e t (pk t))
theorem Ks {l:L3}(hl:cS l=true):((cw c l bj).isSome=true↔(∃q,aq.pos M q/\0<ar l q.1 q.2)/\∃q,aq.pos M q/\ar l q.1 q.2<0) /\
  ((cw c l bj).isSome=false->(dP c l=1/\∃q,aq.pos M q/\0<ar l q.1 q.2)\/dP c l=-1/\¬∃q,aq.pos M q/\0<ar l q.1 q.2):=by
 constructor
 ·rw [Du h hk hl]
  constructor
  ·rintro ⟨x,x0,x1⟩
   obtain ⟨q,hq,QL,-⟩:=aq.qL (M:=M) (vN hl) x0 (fun m hm _=>x1 m hm) [] (fun m hm=>by cases hm)
   obtain ⟨r,hr,hrl,-⟩:=aq.qL (M:=M) (l:=fR l) (x:=x) (vN (Bk hl)) (by rw [val_rev,x0];rfl) (fun m hm _=>x1 m hm) [] (fun m hm=>by cases hm)
   rw [val_rev] at hrl
   exact ⟨⟨q,hq,QL⟩,r,hr,by grind⟩
  ·rintro ⟨⟨q,hq,QL⟩,r,hr,hrl⟩
   by_cases c0:∃x:aq.V2,ar l x.1 x.2=0/\aq.pos M x
   ·exact c0
   ·have:=aq.pL (fun x x0 x1=>c0 ⟨x,x0,x1⟩) hq hr QL
    grind
 ·intro e
  have hno:∀x:aq.V2,ar l x.1 x.2=0->¬aq.pos M x:=fun x x0 x1=>by
   rw [(Du h hk hl).2 ⟨x,x0,x1⟩] at e;cases e
  obtain ⟨q,hq⟩:=h.pos
  have hne:c≠[]:=fun e0=>by subst e0;unfold cw at e;cases e
  by_cases hp:0<ar l q.1 q.2
  ·exact .inl ⟨Af h hk hl hno hq hp hne,q,hq,hp⟩
  ·have hz:ar l q.1 q.2≠0:=fun z=>hno q z hq
   refine .inr ⟨Ae h hk hl hno hq (by grind),?_⟩
   rintro ⟨r,hr,hrl⟩
   exact hp (aq.pL hno hr hq hrl)
theorem LH {p:aq.V2}(hp:∀s∈c,0<=ar s.1 p.1 p.2):∀m∈M,0<=ar m p.1 p.2:=by
 intro m hm
 obtain ⟨q,hq⟩:=h.pos
 have key:∀t:Rat,0<=t->t<1->aq.pos M (q.1+t*(p.1-q.1),q.2+t*(p.2-q.2)):=fun t t0 t1=>h.int hk fun s hs=>by
  dsimp only
  rw [aq.qe]
  have h1:=hq s.1 (h.mem s hs).1
  have h2:=aq.mn t0 (hp s hs)
  have h3:=aq.mp (show 1-t>0 by grind) h1
  grind
 by_cases c0:0<=ar m p.1 p.2
 ·exact c0
 exfalso
 have h1:=hq m hm
 obtain ⟨t,t0,t1,e⟩:=aq.uc (y:=(ar m q.1 q.2,ar m p.1 p.2)) h1 (s:=1) (by decide) (by unfold aq.mx;grind)
 have t1':t<1:=by
  by_cases e1:t=1
  ·subst e1;unfold aq.mx at e;dsimp only at e;grind
  ·grind
 have:=key t (by grind) t1' m hm
 dsimp only at this
 rw [aq.qe] at this
 unfold aq.mx at e
 dsimp only at e
 grind
theorem CF (p:aq.V2):((∀s∈c,0<=ar s.1 p.1 p.2)↔∀m∈M,0<=ar m p.1 p.2)/\((∀s∈c,0<ar s.1 p.1 p.2)↔∀m∈M,0<ar m p.1 p.2):=
 ⟨⟨fun g=>LH h hk g,fun g s hs=>g _ (h.mem s hs).1⟩,fun g=>h.int hk g,fun g s hs=>g _ (h.mem s hs).1⟩
end
end Go.Proofs.Tryz
namespace Go.Proofs.Tryz
open Go.bM Go.fB
section
variable {M:List L3} {c:List Sd} (h:iE M c) (hk:∀m ∈ M,cS m=true)
include h hk
end
end Go.Proofs.Tryz
namespace Go.Proofs.Tryz
open Go.bM Go.fB
namespace aq
end aq
section
variable {M:List L3} {c:List Sd} (h:iE M c) (hk:∀m ∈ M,cS m=true)
include h hk
end
end Go.Proofs.Tryz
namespace Go.Proofs.Tryz
open Go.bM Go.fB
namespace aq
end aq
section
variable {M:List L3} {c:List Sd} (h:iE M c) (hk:∀m ∈ M,cS m=true)
include h hk
end
end Go.Proofs.Tryz
namespace Go.Proofs.Tryz
open Go.bM Go.fB
def tw (l:List aq.V2):Rat:=((List.range l.length).map fun i=>aq.cr (l.getD i (0,0)) (l.getD ((i+1)%l.length) (0,0))).sum
def nD (S:List L3):List aq.V2:=(List.range S.length).filterMap fun i=>if 0<aq.cr (aq.ax (S.getD i (0,0,0))) (aq.ax (S.getD ((i+1)%S.length) (0,0,0))) then some (GX (S.getD i (0,0,0)) (S.getD ((i+1)%S.length) (0,0,0)),GY (S.getD i (0,0,0)) (S.getD ((i+1)%S.length) (0,0,0))) else none
section
variable {M:List L3} {c:List Sd} (h:iE M c) (hk:∀m ∈ M,cS m=true) (hb:∀s ∈ c,s.2.a=false/\s.2.b=false)
include h hk hb
end
end Go.Proofs.Tryz
namespace Go.Proofs.Tryz
open Go.bM Go.fB
section
variable {M:List L3} {c:List Sd} (h:iE M c) (hk:∀m ∈ M,cS m=true) (hb:∀s ∈ c,s.2.a=false/\s.2.b=false)
include h hk hb
end
end Go.Proofs.Tryz
namespace Go.Proofs.Tryz
open Go.bM Go.fB
section
variable {M:List L3} {c:List Sd} (h:iE M c) (hk:∀m ∈ M,cS m=true) (hb:∀s ∈ c,s.2.a=false/\s.2.b=false)
include h hk hb
end
end Go.Proofs.Tryz
namespace Go.Proofs.Tryz
open Go.bM Go.fB
section
variable {M:List L3} {c:List Sd} (h:iE M c) (hk:∀m ∈ M,cS m=true)
include h hk
end
end Go.Proofs.Tryz
namespace Go.Proofs.Tryz
open Go.bM Go.fB
theorem jV.up {k K:Nat}{l:L3}(h:jV k l)(hk:k<=K):jV K l:=⟨h.1.mono hk,h.2.1.mono hk,h.2.2.mono hk⟩
theorem BG {L M:L3}{s:Sp}{k K:Nat}(sl:jV k L)(sm:jV k M)(hs:s.sz K)(hk:60*k+60<=K):(dv L s M).sz K:=by
 have z:=MV K (by omega)
 have c:=(tZ sl sm).mono hk
 unfold dv
 split
 ·exact hs
 ·split
  ·exact Sp.Bg hs ⟨c,z⟩
  ·exact Sp.Bg hs ⟨z,c⟩
theorem GL {k:Nat}(hk:0<k):bj.sz k:=⟨MV k hk,MV k hk⟩
def Tv (s:Sd):Prop:=Bd s.1/\s.2.sz 100000
theorem GN {x:Sd}:∀{r:List Sd} {i:Nat},i<=r.length->(∀k (h:k<r.length),k<i->aq.du (aq.ax r[k].1) (aq.ax x.1)<0)->(∀h:i<r.length,¬aq.du (aq.ax r[i].1) (aq.ax x.1)<0)->mf x r=r.take i++x::r.drop i
 | [],i,hi,_,_=>by simp [mf]
 | s::r,0,_,_,h=>by
  have:¬aq.du (aq.ax s.1) (aq.ax x.1)<0:=h (Nat.zero_lt_succ _)
  unfold mf
  rw [if_neg this]
  rfl
 | s::r,i+1,hi,h1,h2=>by
  have:aq.du (aq.ax s.1) (aq.ax x.1)<0:=h1 0 (Nat.zero_lt_succ _) (Nat.zero_lt_succ _)
  unfold mf
  rw [if_pos this,GN (r:=r) (i:=i) (by simpa using hi) (fun k hk hki=>h1 (k+1) (by simpa using hk) (by omega)) fun h=>h2 (by simpa using h)]
  rfl
structure Bs (r:List Sd) (l:L3) (i j:Nat):Prop where
 le:i<=j
 len:j<=r.length
 lo:∀k (h:k<r.length),k<i->aq.du (aq.ax r[k].1) (aq.ax l)<0
 hi:∀h:j<r.length,¬aq.du (aq.ax r[j].1) (aq.ax l)<0
theorem Bs.start (r:List Sd)(l:L3):Bs r l 0 r.length:=⟨Nat.zero_le _,Nat.le_refl _,fun k h hk=>absurd hk (Nat.not_lt_zero _),fun h=>absurd h (Nat.lt_irrefl _)⟩
theorem Bs.up {r:List Sd}{l:L3}{i j h:Nat}(b:Bs r l i j)(rH:r.Pairwise fun s u=>aq.du (aq.ax s.1) (aq.ax u.1)<0)(h2:h<j)(hl:h<r.length)(hc:aq.du (aq.ax r[h].1) (aq.ax l)<0):Bs r l (h+1) j:=
 ⟨h2,b.len,fun k hk hkh=>by
  by_cases e:k=h
  ·subst e;exact hc
  ·exact Av (List.pairwise_iff_getElem.1 rH k h hk hl (by omega)) hc,b.hi⟩
theorem Bs.down {r:List Sd}{l:L3}{i j h:Nat}(b:Bs r l i j)(h1:i<=h)(hl:h<r.length)(hc:¬aq.du (aq.ax r[h].1) (aq.ax l)<0):Bs r l i h:=
 ⟨h1,by omega,b.lo,fun _=>hc⟩
theorem Bs.done {r:List Sd}{l:L3}{i:Nat}(b:Bs r l i i)(v:Sp):mf (l,v) r=r.take i++(l,v)::r.drop i:=GN b.len b.lo b.hi
theorem RR.half (V:View):RR V (.agg #[.int .i64 1,.int .i64 1,.pointer none]) (((2:Int):Rat)⁻¹):=by
 have e1:(((2:Int):Rat)⁻¹).num=1:=by decide +kernel
 have e2:(((2:Int):Rat)⁻¹).den=2:=by decide +kernel
 refine .inl ⟨by rw [e1,e2];rfl,?_⟩
 unfold Wd
 rw [e1,e2];decide
theorem Cv {V:View}{v:Value}{x:Rat}(hx:RR V v x){k:Nat}(hk:Sz k x)(hkm:k+2<1099511627776) :
  ab prog 151 #[v] V fun r V'=>RR V' r (x*((2:Int):Rat)⁻¹):=by
 have hx0:=hx
 obtain ⟨a,b,c,rfl⟩:=hx.shape
 refine wv a b c V _ fun V1 l1=>(e_ (hx0.le l1) (RR.half V1) hk (dh ua) hkm).mono ?_
 rintro r V2 l2 g
 have g0:=g
 obtain ⟨u,v,w,rfl⟩:=g.shape
 exact ⟨_,_,_,rfl,fun V3 l3=>g0.le l3⟩
theorem Ct {V:View}{v:Value}{s:Sp}(h:Gq V v s){k:Nat}(hs:s.sz k)(hk:4*k+8<1099511627776) :
  ab prog 133 #[v] V fun r V'=>RR V' r s.cL:=by
 obtain ⟨x1,x2,p,y1,y2,q,rfl,h1,h2⟩:=h
 have a1:s.a=true->s.b=true->s.cL=0:=fun x y=>by simp [Sp.cL,x,y]
 have a2:s.a=true->s.b=false->s.cL=s.hi-((1:Int):Rat):=fun x y=>by simp [Sp.cL,x,y]
 have a3:s.a=false->s.b=true->s.cL=s.lo+((1:Int):Rat):=fun x y=>by simp [Sp.cL,x,y]
 have a4:s.a=false->s.b=false->s.cL=(s.lo+s.hi)*((2:Int):Rat)⁻¹:=fun x y=>by simp [Sp.cL,x,y]
 have no:∀{P:Prop},s.a=true->s.a=false->P:=fun x y=>by rw [x] at y;cases y
 have nob:∀{P:Prop},s.b=true->s.b=false->P:=fun x y=>by rw [x] at y;cases y
 refine rB x1 x2 p y1 y2 q s.a s.b V _ ⟨fun ha=>⟨fun hb V1 l1=>?_,fun hb=>⟨fun _ V2 l2=>(iI 1 (by decide) (by decide)).mono ?_,fun e=>no ha e⟩⟩,fun ha=>⟨fun e=>no e ha,fun _=>⟨fun hb tN il=>(iI 1 (by decide) (by decide)).mono ?_,fun hb Nc lf=>(jm (h1.le lf) (h2.le lf) hs.1 hs.2 (by omega)).mono ?_⟩⟩⟩
 ·rw [a1 ha hb];exact RR.zero _
 ·rintro r V3 l3 g
  have g0:=g
  obtain ⟨u,v,w,rfl⟩:=g.shape
  refine ⟨_,_,_,rfl,fun V4 l4=>(oX (h2.le (l2.trans (l3.trans l4))) (g0.le l4) hs.2 fS (by omega)).mono ?_⟩
  rintro r V5 l5 f
  have f0:=f
  obtain ⟨u,v,w,rfl⟩:=f.shape
  exact ⟨_,_,_,rfl,fun V6 l6=>by rw [a2 ha hb];exact f0.le l6⟩
 ·rintro r V3 l3 g
  have g0:=g
  obtain ⟨u,v,w,rfl⟩:=g.shape
  refine ⟨_,_,_,rfl,fun V4 l4=>(jm (h1.le (il.trans (l3.trans l4))) (g0.le l4) hs.1 fS (by omega)).mono ?_⟩
  rintro r V5 l5 f
  have f0:=f
  obtain ⟨u,v,w,rfl⟩:=f.shape
  exact ⟨_,_,_,rfl,fun V6 l6=>by rw [a3 ha hb];exact f0.le l6⟩
 ·rintro r V3 l3 g
  have g0:=g
  obtain ⟨u,v,w,rfl⟩:=g.shape
  refine ⟨_,_,_,rfl,fun V4 l4=>(Cv (g0.le l4) (hs.1.add hs.2) (by omega)).mono ?_⟩
  rintro r V5 l5 f
  have f0:=f
  obtain ⟨u,v,w,rfl⟩:=f.shape
  exact ⟨_,_,_,rfl,fun V6 l6=>by rw [a4 ha hb];exact f0.le l6⟩
theorem Qp {V:View}:ab prog 179 #[] V fun r V'=>r=.agg #[.int .i64 0,.int .i64 0,.pointer none,.int .i64 0,.int .i64 0,.pointer none,.bool true,.bool true]:=
 F2 V _ fun V1 l1=>rfl
end Go.Proofs.Tryz
