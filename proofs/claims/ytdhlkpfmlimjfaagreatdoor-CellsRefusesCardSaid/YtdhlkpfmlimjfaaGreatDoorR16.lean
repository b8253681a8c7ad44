import Derived.Test.YtdhlkpfmlimjfaaGreatDoorR15
import Derived.Test.YtdhlkpfmlimjfaaGreatDoorR14
import Derived.Test.YtdhlkpfmlimjfaaGreatDoorR10
import Derived.Test.YtdhlkpfmlimjfaaGreatDoorR8
import Derived.Test.YtdhlkpfmlimjfaaGreatDoorR6
import Derived.Laws.IdiomCopy
import Derived.Lib.Overlaps
import Derived.Lib.JoinLaws
import Derived.Lib.AppendZerosOnto
import Derived.Shelf.RegionOpenPlain
import Derived.Lib.Walk
import Derived.Lib.SliceRun
import Derived.Laws.NewBlocks
set_option linter.unusedVariables false
open Go.IntKind (i64 u64 u32)
namespace Go.Proofs.Tryz.Sec
def mx (x:Rat×Rat)(t:Rat):Rat:=x.1+t*(x.2-x.1)
theorem AR {x:Rat×Rat}{t:Rat}(h1:x.1>0)(h2:x.2>0)(t0:t>0)(t1:t<=1):mx x t>0:=by
 have a:=mn (show 1-t≥0 by grind) (show x.1≥0 by grind)
 have b:=mp t0 h2
 unfold mx;grind
theorem Iy {x:Rat×Rat}{t s:Rat}(h1:x.1>0)(hs:mx x s≥0)(s0:s>0)(t0:t>0)(ts:t<=s):mx x t≥0:=by
 unfold mx at *
 have e:s*(x.1+t*(x.2-x.1))=(s-t)*x.1+t*(x.1+s*(x.2-x.1)):=by grind
 have a:=mn (show s-t≥0 by grind) (show x.1≥0 by grind)
 have b:=mn (show t≥0 by grind) hs
 by_cases h:x.1+t*(x.2-x.1)≥0
 ·exact h
 ·have:=mp s0 (show -(x.1+t*(x.2-x.1))>0 by grind)
  grind
theorem xh {y:Rat×Rat}(h1:y.1>0){s:Rat}(s0:s>0)(hs:mx y s<=0):∃t,t>0/\t<=s/\mx y t=0:=by
 have a:y.1-y.2>0:=by
  by_cases c:y.1-y.2>0
  ·exact c
  ·have:=mn (show s≥0 by grind) (show y.2-y.1≥0 by grind)
   unfold mx at hs;grind
 have e:=inv_mul (show y.1-y.2≠0 by grind) y.1
 have p:=mp h1 (Rat.inv_pos.2 a)
 refine ⟨y.1*(y.1-y.2)⁻¹,p,?_,?_⟩
 ·generalize y.1*(y.1-y.2)⁻¹=t at *
  by_cases c:t<=s
  ·exact c
  ·have:=mp (show t-s>0 by grind) a
   unfold mx at hs;grind
 ·generalize y.1*(y.1-y.2)⁻¹=t at *
  unfold mx;grind
theorem Av:∀(L:List (Rat×Rat)),(∀x∈L,x.1>0)->(∃x∈L,x.2<=0)->∃t,t>0/\t<=1/\(∀x∈L,mx x t≥0)/\∃x∈L,mx x t=0
 | [],_,h=>by obtain ⟨x,hx,_⟩:=h;cases hx
 | y::L,h0,h=>by
  have j:=h0 y (List.mem_cons_self ..)
  have f:=fun x hx=>h0 x (List.mem_cons_of_mem y hx)
  by_cases c:∃x∈L,x.2<=0
  ·obtain ⟨t,t0,t1,a,x,hx,e⟩:=Av L f c
   by_cases g:mx y t≥0
   ·exact ⟨t,t0,t1,fun z b=>by rcases List.mem_cons.1 b with rfl|b;exact g;exact a z b,x,List.mem_cons_of_mem _ hx,e⟩
   ·obtain ⟨s,d,st,es⟩:=xh j t0 (by grind)
    exact ⟨s,d,by grind,fun z b=>by rcases List.mem_cons.1 b with rfl|b;grind;exact Iy (f z b) (a z b) t0 d st,y,List.mem_cons_self ..,es⟩
  ·obtain ⟨x,hx,i⟩:=h
   have:x=y:=by
    rcases List.mem_cons.1 hx with rfl|hx
    ·rfl
    ·exact absurd ⟨x,hx,i⟩ c
   subst this
   obtain ⟨s,d,st,es⟩:=xh j (s:=1) (by decide) (by unfold mx;grind)
   refine ⟨s,d,st,fun z b=>?_,x,List.mem_cons_self ..,es⟩
   rcases List.mem_cons.1 b with rfl|b
   ·grind
   ·have:z.2>0:=by
     by_cases q:z.2>0
     ·exact q
     ·exact absurd ⟨z,b,by grind⟩ c
    have:=AR (f z b) this d st
    grind
theorem wI:∀(L:List (Rat×Rat)),(∀x∈L,x.1>0)->∃s,s>0/\∀x∈L,x.1+s*x.2>0
 | [],_=>⟨1,by decide,fun x h=>by cases h⟩
 | y::L,h0=>by
  have hy:=h0 y (List.mem_cons_self ..)
  obtain ⟨s,d,h⟩:=wI L fun x f=>h0 x (List.mem_cons_of_mem y f)
  by_cases c:y.1+s*y.2>0
  ·exact ⟨s,d,fun z a=>by rcases List.mem_cons.1 a with rfl|a;exact c;exact h z a⟩
  ·have b:-y.2>0:=by
    by_cases q:y.2<0
    ·grind
    ·have:=mn (show s≥0 by grind) (show y.2≥0 by grind);grind
   have e:=inv_mul (show -y.2≠0 by grind) y.1
   have p:=mp hy (Rat.inv_pos.2 b)
   generalize y.1*(-y.2)⁻¹=r at *
   have j:r<=s:=by
    by_cases q:r<=s
    ·exact q
    ·have:=mp (show r-s>0 by grind) b;grind
   refine ⟨r*(1 / 2),by grind,fun z a=>?_⟩
   rcases List.mem_cons.1 a with rfl|a
   ·grind
   ·have g:=h0 z (List.mem_cons_of_mem _ a)
    have i:=h z a
    by_cases q:z.2≥0
    ·have:=mn (show r*(1 / 2)≥0 by grind) q;grind
    ·have:=mn (show s-r*(1 / 2)≥0 by grind) (show -z.2≥0 by grind)
     grind
def pos (M:List L3)(p:V2):Prop:=∀m∈M,ar m p.1 p.2>0
def Es (M:List L3)(l:L3):Prop:=∃p:V2,ar l p.1 p.2=0/\∀m∈M,m≠l->ar m p.1 p.2>0
def Oq (M:List L3):Prop:=∀l∈M,∀m∈M,l≠m->∀p:V2,ar l p.1 p.2=0->ar m p.1 p.2=0->cr (dirL l) (dirL m)≠0
theorem GD {l m:L3}{w:V2}(hw:w.1≠0\/w.2≠0)(h1:nv l w=0)(h2:nv m w=0):cr (dirL l) (dirL m)=0:=by
 have a:cr (dirL l) (dirL m)*w.1=0:=by unfold nv at *;unfold cr dirL;grind
 have b:cr (dirL l) (dirL m)*w.2=0:=by unfold nv at *;unfold cr dirL;grind
 rcases hw with h|h
 ·rcases Rat.mul_eq_zero.1 a with g|g;exact g;exact absurd g h
 ·rcases Rat.mul_eq_zero.1 b with g|g;exact g;exact absurd g h
theorem BS (u:V2):cr u u=0:=by unfold cr;grind
theorem wO (m:L3)(q p:V2)(t:Rat):ar m (q.1+t*(p.1-q.1)) (q.2+t*(p.2-q.2))=ar m q.1 q.2+t*(ar m p.1 p.2-ar m q.1 q.2):=by unfold ar;grind
theorem IB (m:L3)(q p:V2)(t:Rat):nv m (q.1+t*(p.1-q.1),q.2+t*(p.2-q.2))=nv m q+t*(nv m p-nv m q):=by unfold nv;grind
theorem ID (m:L3)(q x:V2):nv m (q.1-x.1,q.2-x.2)=ar m q.1 q.2-ar m x.1 x.2:=by unfold nv ar;grind
theorem QC {M:List L3}(hd:Oq M)(hn:∀m∈M,(dirL m).1≠0\/(dirL m).2≠0){q p:V2}(hq:pos M q)(hp:∀m∈M,Es M m->ar m p.1 p.2>0):pos M p:=by
 intro B C
 by_cases c:ar B p.1 p.2>0
 ·exact c
 exfalso
 let f:L3->Rat×Rat:=fun m=>(ar m q.1 q.2,ar m p.1 p.2)
 obtain ⟨t,t0,t1,ge,x,j,ex⟩:=Av (M.map f) (fun x j=>by obtain ⟨m,hm,rfl⟩:=List.mem_map.1 j;exact hq m hm) ⟨f B,List.mem_map_of_mem C,by show ar B p.1 p.2<=0;grind⟩
 obtain ⟨i,l,rfl⟩:=List.mem_map.1 j
 let X:V2:=(q.1+t*(p.1-q.1),q.2+t*(p.2-q.2))
 have D:∀m,ar m X.1 X.2=mx (f m) t:=fun m=>wO m q p t
 have N:∀m∈M,ar m X.1 X.2≥0:=fun m hm=>by rw [D];exact ge _ (List.mem_map_of_mem hm)
 have J:ar i X.1 X.2=0:=by rw [D];exact ex
 let u:V2:=(q.1-X.1,q.2-X.2)
 have K:∀m,nv m u=ar m q.1 q.2-ar m X.1 X.2:=fun m=>ID m q X
 let Z:=M.filter fun m=>decide (ar m X.1 X.2=0)
 have r:∀m,m∈Z↔m∈M/\ar m X.1 X.2=0:=fun m=>by simp [Z,List.mem_filter]
 have O:i∈Z:=(r i).2 ⟨l,J⟩
 let d:=dirL i
 have d0:nv i d=0:=by rw [B3];exact BS _
 let g:L3->Rat×Rat:=fun m=>(nv m u,nv m d)
 obtain ⟨k,k0,k1,P,y,Q,R⟩:=Av (Z.map g) (fun x j=>by
  obtain ⟨m,hm,rfl⟩:=List.mem_map.1 j
  obtain ⟨S,T⟩:=(r m).1 hm
  show nv m u>0
  rw [K,T];have:=hq m S;grind) ⟨g i,List.mem_map_of_mem O,by show nv i d<=0;rw [d0];grind⟩
 obtain ⟨n,E,rfl⟩:=List.mem_map.1 Q
 obtain ⟨F,G⟩:=(r n).1 E
 let w:V2:=(u.1+k*(d.1-u.1),u.2+k*(d.2-u.2))
 have H:∀m,nv m w=mx (g m) k:=fun m=>IB m u d k
 have L:nv n w=0:=by rw [H];exact R
 have U:w.1≠0\/w.2≠0:=by
  by_cases e:k=1
  ·have:=hn i l
   have v:w.1=d.1:=by dsimp only [w];rw [e];grind
   have A:w.2=d.2:=by dsimp only [w];rw [e];grind
   rw [v,A];exact this
  ·have a:nv i w>0:=by
    rw [H]
    show nv i u+k*(nv i d-nv i u)>0
    rw [d0]
    have:nv i u>0:=by rw [K,J];have:=hq i l;grind
    have:=mp (show 1-k>0 by grind) this
    grind
   by_cases v:w.1=0
   ·by_cases A:w.2=0
    ·unfold nv at a;rw [v,A] at a;grind
    ·exact .inr A
   ·exact .inl v
 obtain ⟨s,V,W⟩:=wI ((M.filter fun m=>decide (ar m X.1 X.2>0)).map fun m=>(ar m X.1 X.2,nv m w)) (fun x j=>by
  obtain ⟨m,hm,rfl⟩:=List.mem_map.1 j
  simpa using (List.mem_filter.1 hm).2)
 have es:Es M n:=by
  refine ⟨(X.1+s*w.1,X.2+s*w.2),?_,fun m hm I=>?_⟩
  ·rw [h_,G,L];grind
  ·rw [h_]
   by_cases z:ar m X.1 X.2=0
   ·have Y:=(r m).2 ⟨hm,z⟩
    have g0:nv m w≥0:=by rw [H];exact P _ (List.mem_map_of_mem Y)
    have ne:nv m w≠0:=fun e=>hd n F m hm (fun h=>I h.symm) X G z (GD U L e)
    have:=mp V (show nv m w>0 by grind)
    rw [z];grind
   ·have gz:=N m hm
    have o:(ar m X.1 X.2,nv m w)∈((M.filter fun m=>decide (ar m X.1 X.2>0)).map fun m=>(ar m X.1 X.2,nv m w)):=List.mem_map.2 ⟨m,List.mem_filter.2 ⟨hm,by simp;grind⟩,rfl⟩
    exact W _ o
 have a:=hp n F es
 have b:=hq n F
 have:=AR (x:=f n) b a t0 t1
 rw [←D,G] at this
 grind
def Gw (l:L3):V2:=((l.1:Rat),(l.2.1:Rat))
theorem N7 {x y:Rat}(h:x≠0\/y≠0):x*x+y*y>0:=by
 have p:∀z:Rat,z≠0->z*z>0:=fun z a=>by
  by_cases c:z>0
  ·exact mp c c
  ·have:=mp (show -z>0 by grind) (show -z>0 by grind);grind
 have q:∀z:Rat,z*z≥0:=fun z=>by
  by_cases c:z≥0
  ·exact mn c c
  ·have:=mn (show -z≥0 by grind) (show -z≥0 by grind);grind
 rcases h with h|h
 ·have:=p x h;have:=q y;grind
 ·have:=p y h;have:=q x;grind
theorem IC {l:L3}(h:(dirL l).1≠0\/(dirL l).2≠0):nv l (Gw l)>0:=by
 have:nv l (Gw l)=(l.1:Rat)*(l.1:Rat)+(l.2.1:Rat)*(l.2.1:Rat):=rfl
 rw [this]
 refine N7 ?_
 rcases h with h|h
 ·exact .inr h
 ·left;intro e;apply h;show -(l.1:Rat)=0;rw [e];grind
theorem D9 {M:List L3}{l:L3}(hn:(dirL l).1≠0\/(dirL l).2≠0){x:V2}(hx:ar l x.1 x.2=0)(h:∀m∈M,m≠l->ar m x.1 x.2>0)(L:List L3)(hL:∀m∈L,ar m x.1 x.2>0):∃q:V2,pos M q/\ar l q.1 q.2>0/\pos L q:=by
 have c:=IC hn
 obtain ⟨s,d,a⟩:=wI (((M.filter fun m=>decide (m≠l))++L).map fun m=>(ar m x.1 x.2,nv m (Gw l))) (fun y f=>by
  obtain ⟨m,hm,rfl⟩:=List.mem_map.1 f
  rcases List.mem_append.1 hm with hm|hm
  ·have:=List.mem_filter.1 hm
   exact h m this.1 (by simpa using this.2)
  ·exact hL m hm)
 have b:ar l (x.1+s*(Gw l).1) (x.2+s*(Gw l).2)>0:=by rw [h_,hx];have:=mp d c;grind
 refine ⟨(x.1+s*(Gw l).1,x.2+s*(Gw l).2),fun m hm=>?_,b,fun m hm=>?_⟩
 ·by_cases e:m=l
  ·rw [e];exact b
  ·rw [h_]
   exact a (ar m x.1 x.2,nv m (Gw l)) (List.mem_map.2 ⟨m,List.mem_append_left _ (List.mem_filter.2 ⟨hm,by simpa using e⟩),rfl⟩)
 ·rw [h_]
  exact a (ar m x.1 x.2,nv m (Gw l)) (List.mem_map.2 ⟨m,List.mem_append_right _ hm,rfl⟩)
theorem yP {M:List L3}{l:L3}(hno:∀x:V2,ar l x.1 x.2=0->¬pos M x){q p:V2}(hq:pos M q)(hp:pos M p):ar l q.1 q.2>0->ar l p.1 p.2>0:=by
 intro h
 by_cases c:ar l p.1 p.2>0
 ·exact c
 exfalso
 obtain ⟨t,t0,t1,e⟩:=xh (y:=(ar l q.1 q.2,ar l p.1 p.2)) h (s:=1) (by decide) (by unfold mx;grind)
 refine hno (q.1+t*(p.1-q.1),q.2+t*(p.2-q.2)) ?_ fun m hm=>?_
 ·rw [wO];exact e
 ·rw [wO];exact AR (x:=(ar m q.1 q.2,ar m p.1 p.2)) (hq m hm) (hp m hm) t0 t1
end Go.Proofs.Tryz.Sec
namespace Go.Proofs.Tryz
open Go.Eng Go.Big
def Sp.nj (s:Sp)(t:Rat):Prop:=(s.a=true\/s.lo<t)/\(s.b=true\/t<s.hi)
def CZ (ss:List Sp)(t:Rat):Prop:=∃s∈ss,s.nj t
def Sp.nN (s:Sp):Prop:=s.can/\s.emp=false
def Sp.Jb (s t:Sp):Prop:=s.b=false/\t.a=false/\s.hi<t.lo
def DA (ss:List Sp):Prop:=(∀s∈ss,s.nN)/\ss.Pairwise Sp.Jb
theorem pick (E:List Rat):∀l u:Rat,l<u->∃t,l<t/\t<u/\t∉E:=by
 induction E with
 | nil=>exact fun l u h=>⟨(l+u) / 2,by grind,by grind,by simp⟩
 | cons e r ih=>
  intro l u h
  by_cases c:l<e/\e<u
  ·obtain ⟨t,a,b,d⟩:=ih l e c.1
   refine ⟨t,a,by grind,fun hm=>?_⟩
   rcases List.mem_cons.1 hm with rfl|hm
   ·grind
   ·exact d hm
  ·obtain ⟨t,a,b,d⟩:=ih l u h
   refine ⟨t,a,b,fun hm=>?_⟩
   rcases List.mem_cons.1 hm with rfl|hm
   ·exact c ⟨a,b⟩
   ·exact d hm
theorem yF {s:Sp}(h:s.emp=false)(ha:s.a=false)(hb:s.b=false):s.lo<s.hi:=by
 rcases Sp.me.1 h with h|h|h
 ·rw [ha] at h;cases h
 ·rw [hb] at h;cases h
 ·exact h
theorem DA.tail {s:Sp}{r:List Sp}(h:DA (s::r)):DA r:=⟨fun x a=>h.1 x (by simp [a]),(List.pairwise_cons.1 h.2).2⟩
theorem DA.Jb {s:Sp}{r:List Sp}(h:DA (s::r)){x:Sp}(hx:x∈r):s.Jb x:=(List.pairwise_cons.1 h.2).1 x hx
set_option linter.unusedSectionVars false
section
variable {s s':Sp} {r r':List Sp} {E:List Rat} (h:DA (s :: r)) (h':DA (s' :: r')) (e:∀t,t ∉ E->CZ (s :: r) t->CZ (s' :: r') t)
include h h' e
end
theorem Sp.ext' {s t:Sp}(h1:s.a=t.a)(h2:s.b=t.b)(h3:s.lo=t.lo)(h4:s.hi=t.hi):s=t:=by
 cases s;cases t;simp at *;exact ⟨h3,h4,h1,h2⟩
end Go.Proofs.Tryz
namespace Go.Proofs.Tryz
open Go.Eng Go.Big
theorem Ci:Sz 2 (((2:Int):Rat)):=⟨by show (2:Int).natAbs<_;decide,by show (1:Nat)<_;decide⟩
theorem qg:Sz 2 (((1:Int):Rat)):=⟨by show (1:Int).natAbs<_;decide,by show (1:Nat)<_;decide⟩
theorem G6 {s:Sp}{k:Nat}(ss:s.sz k):Sz (2*k+10) s.cS:=by
 have z:Sz (2*k+10) (0:Rat):=⟨by show (0:Int).natAbs<_;exact Nat.lt_of_lt_of_le (by decide) (Nat.one_le_two_pow),Nat.one_lt_two_pow (by omega)⟩
 unfold Sp.cS
 split
 ·split
  ·exact z
  ·exact (ss.2.sub qg).mono (by omega)
 ·split
  ·exact (ss.1.add qg).mono (by omega)
  ·exact ((ss.1.add ss.2).mul (jC Ci)).mono (by omega)
theorem I8.raw {V:View}{v:Value}{l:L3}{s:Sp}(h:I8 V v l s)(ho:PU l s){k:Nat}(sl:ni k l)(ss:s.sz k)(hk:k<=1000000):∃f:FW,LG V v f/\f.ok=true/\f.ln=l/\f.sp=s/\f.short:=by
 obtain ⟨b1,I,J,K,b2,L,M,N,b3,O,P,Q,b,p,n,c,R,S,T,d,q,m,e,U,W,X,rfl,u,w⟩:=h
 obtain ⟨_,_,_,_,_,_,_,_,_,el,x,y,A⟩:=u
 have el:=congrArg Array.toList (Value.agg.inj el)
 simp only [List.cons.injEq,Value.bool.injEq,Value.slice.injEq,and_true] at el
 obtain ⟨rfl,⟨rfl,rfl,rfl⟩,rfl,⟨rfl,rfl,rfl⟩,rfl,rfl,rfl,rfl⟩:=el
 obtain ⟨_,_,_,_,_,_,_,_,_,_,_,_,_,_,es,B,C⟩:=w
 have es:=congrArg Array.toList (Value.agg.inj es)
 simp only [List.cons.injEq,Value.bool.injEq,Value.slice.injEq,and_true] at es
 obtain ⟨rfl,⟨rfl,rfl,rfl⟩,⟨rfl,rfl,rfl⟩,rfl,⟨rfl,rfl,rfl⟩,⟨rfl,rfl,rfl⟩⟩:=es
 obtain ⟨ok,can,emp⟩:=ho
 obtain ⟨Y,us,g,i,D,j,E⟩:=B.raw can.1
 obtain ⟨Z,ws,o,r,F,t,G⟩:=C.raw can.2
 have i1:=i
 have i2:=r
 obtain ⟨_,_,_,_,_,_,f1,-,-⟩:=i1
 obtain ⟨_,_,_,_,_,_,f2,-,-⟩:=i2
 have f1:=congrArg Array.toList (Value.agg.inj f1)
 have f2:=congrArg Array.toList (Value.agg.inj f2)
 simp only [List.cons.injEq,Value.bool.injEq,Value.slice.injEq,and_true] at f1 f2
 obtain ⟨rfl,-⟩:=f1
 obtain ⟨rfl,-⟩:=f2
 have len:∀{z:Int},Sz k (z:Rat)->(ae z.natAbs).length<=1000000:=fun h=>Nat.le_trans (af h.1) hk
 have d1:=E k ss.1
 have d2:=G k ss.2
 refine ⟨⟨decide (l.1<0),ae l.1.natAbs,decide (l.2.1<0),ae l.2.1.natAbs,decide (l.2.2<0),ae l.2.2.natAbs,b,us,g,d,ws,o,s.a,s.b⟩,⟨_,_,_,_,_,_,_,_,_,_,_,_,_,_,_,_,_,_,_,_,_,rfl,⟨_,_,_,_,_,_,_,_,_,rfl,x,y,A⟩,⟨_,_,_,_,_,_,_,_,_,_,_,_,rfl,i,r⟩⟩,?_,?_,?_,⟨len sl.1,len sl.2.1,len sl.2.2,Nat.le_trans d1.1 hk,Nat.le_trans d1.2 hk,Nat.le_trans d2.1 hk,Nat.le_trans d2.2 hk⟩⟩
 ·have H:Lg b us g d ws o s.a s.b=s:=by unfold Lg;rw [j,t]
  unfold FW.ok okW
  dsimp only
  rw [mw,D,F,H,emp]
  show okL l&&true=true
  rw [ok];rfl
 ·unfold FW.ln AK
  dsimp only
  rw [au,au,au]
 ·unfold FW.sp Lg
  dsimp only
  rw [j,t]
end Go.Proofs.Tryz
namespace Go.Proofs.Tryz
open Go.Eng
set_option maxRecDepth 100000
end Go.Proofs.Tryz
namespace Go.Proofs.Tryz
open Go.Eng Go.Big
theorem vU {c:List Rat}{i:Nat}(h:i<c.length):c.getD i 0=c[i]:=by rw [List.getD_eq_getElem?_getD,List.getElem?_eq_getElem h];rfl
def fL (cuts:List Rat)(i:Nat):Sp:=⟨if 0<i then cuts.getD (i-1) 0 else 0,if i<cuts.length then cuts.getD i 0 else 0,decide (i=0),decide (i=cuts.length)⟩
def Ez (out:List Sp)(s:Sp):List Sp:=out.dropLast++[⟨(out.getLastD Sp.zero).lo,s.hi,(out.getLastD Sp.zero).a,s.b⟩]
def eK (cuts:List Rat)(marks:List Bool):Nat->List Sp
 | 0=>[]
 | i+1=>if marks.getD i false=true then (if 0<i/\marks.getD (i-1) false=true/\0<(eK cuts marks i).length then Ez (eK cuts marks i) (fL cuts i) else eK cuts marks i++[fL cuts i]) else eK cuts marks i
end Go.Proofs.Tryz
namespace Go.Proofs.Tryz
open Go.Eng Go.Big
set_option linter.unusedSectionVars false
def asc (c:List Rat):Prop:=c.Pairwise (·< ·)
section
variable {c:List Rat} (h:asc c)
include h
theorem vx {i j:Nat}(Gf:i<j)(hj:j<c.length):c.getD i 0<c.getD j 0:=by
 rw [vU (by omega),vU hj]
 exact List.pairwise_iff_getElem.1 h i j (by omega) hj Gf
omit h
include h
theorem Ea {i:Nat}(hi:i<=c.length):(fL c i).nN:=by
 refine ⟨⟨fun e=>?_,fun e=>?_⟩,Sp.me.2 ?_⟩
 ·have e:i=0:=of_decide_eq_true e
  subst e;rfl
 ·have e:i=c.length:=of_decide_eq_true e
  subst e
  exact if_neg (Nat.lt_irrefl _)
 ·by_cases a:i=0
  ·exact .inl (decide_eq_true a)
  ·by_cases b:i=c.length
   ·exact .inr (.inl (decide_eq_true b))
   ·refine .inr (.inr ?_)
    show (if 0<i then c.getD (i-1) 0 else 0)<(if i<c.length then c.getD i 0 else 0)
    rw [if_pos (by omega),if_pos (by omega)]
    exact vx h (by omega) (by omega)
omit h
end
section
variable {c:List Rat} {ms:List Bool}
structure FI (c:List Rat) (ms:List Bool) (i:Nat):Prop where
 r:DA (eK c ms i)
 mem:∀t,t∉c->(CZ (eK c ms i) t↔∃j,j<i/\ms.getD j false=true/\(fL c j).nj t)
 top:0<i->i<=c.length->∀s∈eK c ms i,s.b=false/\s.hi<=c.getD (i-1) 0
 str:0<i->i<=c.length->ms.getD (i-1) false=false->∀s∈eK c ms i,s.hi<c.getD (i-1) 0
 last:0<i->i<=c.length->ms.getD (i-1) false=true->∃l0 l,eK c ms i=l0++[l]/\l.hi=c.getD (i-1) 0
theorem nT {ss:List Sp}{s:Sp}{t:Rat}:CZ (ss++[s]) t↔CZ ss t\/s.nj t:=by
 unfold CZ
 constructor
 ·rintro ⟨x,a,b⟩
  rcases List.mem_append.1 a with a|a
  ·exact .inl ⟨x,a,b⟩
  ·obtain rfl:x=s:=by simpa using a
   exact .inr b
 ·rintro (⟨x,a,b⟩|b)
  ·exact ⟨x,by simp [a],b⟩
  ·exact ⟨s,by simp,b⟩
theorem za {ss:List Sp}{s:Sp}(h:DA ss)(hs:s.nN)(hb:∀x∈ss,x.Jb s):DA (ss++[s]):=by
 refine ⟨fun x a=>?_,List.pairwise_append.2 ⟨h.2,by simp,fun x a y b=>?_⟩⟩
 ·rcases List.mem_append.1 a with a|a
  ·exact h.1 x a
  ·obtain rfl:x=s:=by simpa using a
   exact hs
 ·obtain rfl:y=s:=by simpa using b
  exact hb x a
theorem Fe {ss:List Sp}{s:Sp}(h:DA (ss++[s])):DA ss/\s.nN/\∀x∈ss,x.Jb s:=by
 obtain ⟨b,-,c⟩:=List.pairwise_append.1 h.2
 exact ⟨⟨fun x a=>h.1 x (by simp [a]),b⟩,h.1 s (by simp),fun x a=>c x a s (by simp)⟩
theorem vT {P:Nat->Prop}{i:Nat}:(∃j,j<i+1/\P j)↔(∃j,j<i/\P j)\/P i:=by
 constructor
 ·rintro ⟨j,b,a⟩
  rcases Nat.lt_or_ge j i with h|h
  ·exact .inl ⟨j,h,a⟩
  ·obtain rfl:j=i:=by omega
   exact .inr a
 ·rintro (⟨j,b,a⟩|a)
  ·exact ⟨j,by omega,a⟩
  ·exact ⟨i,by omega,a⟩
theorem F7 (h:asc c){i:Nat}(hi:i<=c.length)(F:FI c ms i):FI c ms (i+1):=by
 have z:=Ea h hi
 have A:i<c.length->(fL c i).hi=c.getD i 0:=fun j=>if_pos j
 have B:0<i->(fL c i).lo=c.getD (i-1) 0:=fun j=>if_pos j
 have C:0<i->(fL c i).a=false:=fun j=>decide_eq_false (by omega)
 have G:i<c.length->(fL c i).b=false:=fun j=>decide_eq_false (by omega)
 by_cases hm:ms.getD i false=true
 ·have w:¬ms.getD i false=false:=by rw [hm];decide
  by_cases j:0<i/\ms.getD (i-1) false=true
  ·obtain ⟨H,l,el,E⟩:=F.last j.1 hi j.2
   have e:eK c ms (i+1)=H++[⟨l.lo,(fL c i).hi,l.a,(fL c i).b⟩]:=by
    rw [eK,if_pos hm,if_pos ⟨j.1,j.2,by rw [el];simp⟩,el]
    simp [Ez]
   have I:=F.r
   rw [el] at I
   obtain ⟨f1,f2,f3⟩:=Fe I
   have m:l.b=false:=(F.top j.1 hi l (by rw [el];simp)).1
   have u:(⟨l.lo,(fL c i).hi,l.a,(fL c i).b⟩:Sp).nN:=by
    refine ⟨⟨f2.1.1,z.1.2⟩,Sp.me.2 ?_⟩
    dsimp only
    cases ha:l.a with
    | true=>exact .inl rfl
    | false=>
     cases hb:(fL c i).b with
     | true=>exact .inr (.inl rfl)
     | false=>
      have n:=yF f2.2 ha m
      have q:=yF z.2 (C j.1) hb
      rw [B j.1] at q
      exact .inr (.inr (by grind))
   refine ⟨?_,fun t v=>?_,fun _ d s f=>?_,fun _ d k=>?_,fun _ d _=>?_⟩
   ·rw [e]
    exact za f1 u fun x k=>⟨(f3 x k).1,(f3 x k).2.1,(f3 x k).2.2⟩
   ·rw [e,vT,←F.mem t v,nT,el,nT,or_assoc]
    refine or_congr Iff.rfl ?_
    have hk:(fL c i).nj t↔c.getD (i-1) 0<t/\((fL c i).b=true\/t<(fL c i).hi):=by
     unfold Sp.nj;rw [C j.1,B j.1];simp
    have J:t≠c.getD (i-1) 0:=by
     rintro rfl
     rw [vU (by omega)] at v
     exact v (List.getElem_mem _)
    rw [hk]
    show (l.a=true\/l.lo<t)/\((fL c i).b=true\/t<(fL c i).hi)↔((l.a=true\/l.lo<t)/\(l.b=true\/t<l.hi))\/_
    rw [E,m]
    have n:l.a=true\/l.lo<c.getD (i-1) 0:=by
     cases ha:l.a with
     | true=>exact .inl rfl
     | false=>have:=yF f2.2 ha m;rw [E] at this;exact .inr this
    have q:(fL c i).b=true\/c.getD (i-1) 0<(fL c i).hi:=by
     cases hb:(fL c i).b with
     | true=>exact .inl rfl
     | false=>have:=yF z.2 (C j.1) hb;rw [B j.1] at this;exact .inr this
    constructor
    ·rintro ⟨D,o⟩
     by_cases g:t<c.getD (i-1) 0
     ·exact .inl ⟨D,.inr g⟩
     ·exact .inr ⟨hm,by grind,o⟩
    ·rintro (⟨D,o⟩|⟨-,D,o⟩)
     ·have L:t<c.getD (i-1) 0:=by
       rcases o with o|o
       ·cases o
       ·exact o
      exact ⟨D,q.imp_right fun q=>by grind⟩
     ·exact ⟨n.imp_right fun n=>by grind,o⟩
   ·rw [e] at f
    rw [Nat.add_sub_cancel]
    rcases List.mem_append.1 f with f|f
    ·have b:=f3 s f
     refine ⟨b.1,?_⟩
     have n:l.lo<c.getD (i-1) 0:=by have:=yF f2.2 b.2.1 m;rwa [E] at this
     have q:=vx h (show i-1<i by omega) d
     have:=b.2.2
     grind
    ·obtain rfl:s=_:=by simpa using f
     refine ⟨G d,?_⟩
     show (fL c i).hi<=_
     rw [A d];grind
   ·rw [Nat.add_sub_cancel] at k;exact absurd k w
   ·rw [Nat.add_sub_cancel]
    exact ⟨H,_,e,A d⟩
  ·have e:eK c ms (i+1)=eK c ms i++[fL c i]:=by
    rw [eK,if_pos hm,if_neg (fun g=>j ⟨g.1,g.2.1⟩)]
   have hb:∀x∈eK c ms i,x.Jb (fL c i):=fun x k=>by
    by_cases p:0<i
    ·have K:ms.getD (i-1) false=false:=by
      cases hq:ms.getD (i-1) false with
      | false=>rfl
      | true=>exact absurd ⟨p,hq⟩ j
     exact ⟨(F.top p hi x k).1,C p,by rw [B p];exact F.str p hi K x k⟩
    ·obtain rfl:i=0:=by omega
     cases k
   refine ⟨?_,fun t v=>?_,fun _ d s f=>?_,fun _ d k=>?_,fun _ d _=>?_⟩
   ·rw [e];exact za F.r z hb
   ·rw [e,vT,←F.mem t v,nT]
    exact or_congr Iff.rfl ⟨fun g=>⟨hm,g⟩,fun g=>g.2⟩
   ·rw [e] at f
    rw [Nat.add_sub_cancel]
    rcases List.mem_append.1 f with f|f
    ·refine ⟨(hb s f).1,?_⟩
     by_cases p:0<i
     ·have n:=(F.top p hi s f).2
      have q:=vx h (show i-1<i by omega) d
      grind
     ·obtain rfl:i=0:=by omega
      cases f
    ·obtain rfl:s=_:=by simpa using f
     refine ⟨G d,?_⟩
     rw [A d];grind
   ·rw [Nat.add_sub_cancel] at k;exact absurd k w
   ·rw [Nat.add_sub_cancel]
    exact ⟨_,_,e,A d⟩
 ·have e:eK c ms (i+1)=eK c ms i:=by rw [eK,if_neg hm]
  have y:i<c.length->∀s∈eK c ms i,s.b=false/\s.hi<c.getD i 0:=fun d s f=>by
   by_cases p:0<i
   ·obtain ⟨n,q⟩:=F.top p hi s f
    have M:=vx h (show i-1<i by omega) d
    exact ⟨n,by grind⟩
   ·obtain rfl:i=0:=by omega
    cases f
  refine ⟨by rw [e];exact F.r,fun t v=>?_,fun _ d s f=>?_,fun _ d k s f=>?_,fun _ d k=>?_⟩
  ·rw [e,vT,F.mem t v]
   exact ⟨.inl,fun g=>g.elim id fun g=>absurd g.1 hm⟩
  ·rw [e] at f
   rw [Nat.add_sub_cancel]
   obtain ⟨n,q⟩:=y d s f
   exact ⟨n,by grind⟩
  ·rw [e] at f
   rw [Nat.add_sub_cancel]
   exact (y d s f).2
  ·rw [Nat.add_sub_cancel] at k;exact absurd k hm
theorem fi (h:asc c):∀{i:Nat},i<=c.length+1->FI c ms i:=by
 intro i
 induction i with
 | zero=>exact fun _=>⟨⟨(fun _ h=>by cases h),List.Pairwise.nil⟩,(fun t _=>⟨(fun ⟨_,h,_⟩=>by cases h),(fun ⟨_,h,_⟩=>absurd h (Nat.not_lt_zero _))⟩),(fun h=>absurd h (Nat.lt_irrefl _)),(fun h=>absurd h (Nat.lt_irrefl _)),(fun h=>absurd h (Nat.lt_irrefl _))⟩
 | succ i ih=>exact fun a=>F7 h (by omega) (ih (by omega))
end
end Go.Proofs.Tryz
namespace Go.Proofs.Tryz
open Go.Eng Go.Big
theorem yJ {s u:Sp}{t:Rat}:(s.meet u).nj t↔s.nj t/\u.nj t:=by
 have c:AL s.lo u.lo<t↔s.lo<t/\u.lo<t:=by
  unfold AL
  rcases vN u.lo s.lo with ⟨h,e⟩|⟨h,e⟩|⟨h,e⟩<;>rw [e]<;>simp<;>grind
 have d:t<AP s.hi u.hi↔t<s.hi/\t<u.hi:=by
  unfold AP
  rcases vN u.hi s.hi with ⟨h,e⟩|⟨h,e⟩|⟨h,e⟩<;>rw [e]<;>simp<;>grind
 unfold Sp.nj Sp.meet
 cases s.a<;>cases s.b<;>cases u.a<;>cases u.b<;>simp [c,d]<;>grind
theorem vy {l:L3}(h:Nz l)(t:Rat):ar l (jN l t) (jO l t)=0/\E0 l (jN l t) (jO l t)=t:=by
 have a:=h.norm
 have b:=Rat.mul_inv_cancel _ a
 unfold ar E0 jN jO
 unfold g_ at *
 constructor<;>grind
theorem BO (l:L3):jJ (jJ l)=jJ l:=by
 unfold jJ
 by_cases h:l.1<0\/l.1=0/\l.2.1<0
 ·rw [if_pos h,if_neg]
  unfold revL
  dsimp only
  omega
 ·rw [if_neg h,if_neg h]
theorem EP {l:L3}(h:okL l=true):okL (jJ l)=true:=by
 unfold jJ
 split
 ·unfold okL revL ij at *
  simp only [Int.natAbs_neg]
  rw [Bool.and_eq_true,decide_eq_true_iff,decide_eq_true_iff] at h ⊢
  exact ⟨fun e=>h.1 ⟨by omega,by omega⟩,h.2⟩
 ·exact h
theorem oQ {l:L3}(h:okL l=true):¬(l.1=0/\l.2.1=0):=by
 unfold okL at h
 rw [Bool.and_eq_true,decide_eq_true_iff] at h
 exact h.1
theorem vS {s:Sp}:s.emp=false↔∃t,s.nj t:=by
 constructor
 ·intro h
  obtain ⟨c,d⟩:=Sp.B_ h
  refine ⟨s.cS,?_,?_⟩
  ·cases ha:s.a
   ·exact .inr (c ha)
   ·exact .inl rfl
  ·cases hb:s.b
   ·exact .inr (d hb)
   ·exact .inl rfl
 ·rintro ⟨t,c,d⟩
  rw [Sp.me]
  rcases c with c|c
  ·exact .inl c
  ·rcases d with d|d
   ·exact .inr (.inl d)
   ·exact .inr (.inr (by grind))
theorem ma {l:L3}{s:Sp}{m:L3} :
  (eH l s m=true->∀t,(eI l s m).nj t↔s.nj t/\0<ar m (jN l t) (jO l t))/\(s.emp=false->eH l s m=false->∀t,s.nj t->¬0<ar m (jN l t) (jO l t)):=by
 have key:jo m l≠0->∀t,(eI l s m).nj t↔s.nj t/\0<jR m l+jo m l*t:=fun a t=>by
  have j:=Rat.mul_inv_cancel _ a
  unfold eI
  rcases qf (jo m l) with ⟨h,e⟩|⟨h,e⟩|⟨h,e⟩
  ·exact absurd h a
  ·rw [e]
   show (s.meet ⟨fw m l,0,false,true⟩).nj t↔_
   rw [yJ]
   have f:jo m l*(t-fw m l)=jR m l+jo m l*t:=by unfold fw;grind
   have:(⟨fw m l,0,false,true⟩:Sp).nj t↔fw m l<t:=by unfold Sp.nj;simp
   rw [this,←f]
   refine and_congr_right fun _=>⟨fun h'=>Rat.mul_pos h (by grind),fun h'=>?_⟩
   by_cases c:fw m l<t
   ·exact c
   ·have:=Rat.mul_nonneg (show 0<=jo m l by grind) (show 0<=fw m l-t by grind)
    grind
  ·rw [e]
   show (s.meet ⟨0,fw m l,true,false⟩).nj t↔_
   rw [yJ]
   have f:-jo m l*(fw m l-t)=jR m l+jo m l*t:=by unfold fw;grind
   have:(⟨0,fw m l,true,false⟩:Sp).nj t↔t<fw m l:=by unfold Sp.nj;simp
   rw [this,←f]
   refine and_congr_right fun _=>⟨fun h'=>Rat.mul_pos (by grind) (by grind),fun h'=>?_⟩
   by_cases c:t<fw m l
   ·exact c
   ·have:=Rat.mul_nonneg (show 0<=-jo m l by grind) (show 0<=t-fw m l by grind)
    grind
 by_cases a:jo m l=0
 ·have g:eI l s m=s:=by unfold eI;rw [a];rfl
  have b:eH l s m=decide ((jR m l).num.sign>0):=by unfold eH;rw [a];rfl
  constructor
  ·intro hb t
   rw [g,wN,a]
   rw [b] at hb
   have hb:(jR m l).num.sign>0:=by simpa using hb
   have:0<jR m l:=by
    rcases qf (jR m l) with ⟨h,e⟩|⟨h,e⟩|⟨h,e⟩
    ·omega
    ·exact h
    ·omega
   exact ⟨fun h=>⟨h,by grind⟩,fun h=>h.1⟩
  ·intro _ hb t _ d
   rw [wN,a] at d
   rw [b] at hb
   have hb:¬(jR m l).num.sign>0:=by simpa using hb
   rcases qf (jR m l) with ⟨h,e⟩|⟨h,e⟩|⟨h,e⟩
   ·grind
   ·omega
   ·grind
 ·have b:eH l s m=!(eI l s m).emp:=by
   unfold eH
   rcases qf (jo m l) with ⟨h,e⟩|⟨h,e⟩|⟨h,e⟩
   ·exact absurd h a
   ·rw [e];rfl
   ·rw [e];rfl
  constructor
  ·intro _ t
   rw [wN];exact key a t
  ·intro _ hb t i d
   rw [wN] at d
   rw [b] at hb
   have:=vS.2 ⟨t,(key a t).2 ⟨i,d⟩⟩
   rw [this] at hb;cases hb
theorem qN {l:L3}{s:Sp}{m:L3}(hs:s.nN)(hb:eH l s m=true):(eI l s m).nN:=⟨D3 hs.1,D2 hs.2 hb⟩
abbrev Sd:=L3×Sp
def cq:List Sd->L3->Sp->Option Sp
 | [],_,v=>some v
 | s::c,l,v=>if eH l v s.1 then cq c l (eI l v s.1) else none
theorem uS:∀{c:List Sd} {l:L3} {v w:Sp},v.nN->cq c l v=some w->w.nN/\∀t,w.nj t↔v.nj t/\∀s∈c,0<ar s.1 (jN l t) (jO l t)
 | [],_,v,w,h,e=>by cases e;exact ⟨h,fun t=>⟨fun g=>⟨g,fun s hs=>by cases hs⟩,fun g=>g.1⟩⟩
 | s::c,l,v,w,h,e=>by
  unfold cq at e
  split at e
  ·rename_i hb
   obtain ⟨g1,g2⟩:=uS (qN h hb) e
   refine ⟨g1,fun t=>?_⟩
   rw [g2,(ma.1 hb t)]
   simp only [List.forall_mem_cons,and_assoc]
  ·cases e
theorem uR:∀{c:List Sd} {l:L3} {v:Sp},v.nN->cq c l v=none->∀t,v.nj t->¬∀s∈c,0<ar s.1 (jN l t) (jO l t)
 | [],_,v,h,e=>by cases e
 | s::c,l,v,h,e=>by
  intro t ht hall
  unfold cq at e
  split at e
  ·rename_i hb
   exact uR (qN h hb) e t ((ma.1 hb t).2 ⟨ht,hall s (List.mem_cons_self ..)⟩) fun u hu=>hall u (List.mem_cons_of_mem _ hu)
  ·rename_i hb
   exact ma.2 h.2 (by simpa using hb) t ht (hall s (List.mem_cons_self ..))
theorem qI (l:L3):jJ l=l\/jJ l=revL l:=by unfold jJ;split;exact .inr rfl;exact .inl rfl
theorem rev_rev (l:L3):revL (revL l)=l:=by unfold revL;simp
theorem BT (l:L3):Sec.dirL (revL l)=(-(Sec.dirL l).1,-(Sec.dirL l).2):=by unfold Sec.dirL revL;simp only [Rat.intCast_neg]
theorem Gx {l:L3}(h:okL l=true):(Sec.dirL l).1≠0\/(Sec.dirL l).2≠0:=by
 have:=oQ h
 unfold Sec.dirL
 by_cases e:l.2.1=0
 ·right;intro a
  have:(l.1:Rat)=0:=by grind
  exact oQ h ⟨by exact_mod_cast this,e⟩
 ·left;show (l.2.1:Rat)≠0;exact_mod_cast e
theorem HE {l m:L3}(ol:okL l=true)(om:okL m=true){p:Sec.V2}(h1:ar l p.1 p.2=0)(h2:ar m p.1 p.2=0)(hc:Sec.cr (Sec.dirL l) (Sec.dirL m)=0):l=m\/l=revL m:=by
 have a:∀{x:L3},ar x p.1 p.2=0->ar (jJ x) p.1 p.2=0:=fun {x} h=>by
  rcases qI x with e|e<;>rw [e]
  ·exact h
  ·rw [val_rev];grind
 have b:Sec.cr (Sec.dirL (jJ l)) (Sec.dirL (jJ m))=0:=by
  unfold Sec.cr at *
  rcases qI l with e|e<;>rcases qI m with e'|e'<;>rw [e,e']<;>(try rw [BT l])<;>(try rw [BT m])<;>(try dsimp only)<;>grind
 have:=Sec.Df (EP ol) (EP om) (BO l) (BO m) (a h1) (a h2) b
 rcases qI l with e|e<;>rcases qI m with e'|e'<;>rw [e,e'] at this
 ·exact .inl this
 ·exact .inr this
 ·right;rw [←this,rev_rev]
 ·left;have:=congrArg revL this;rwa [rev_rev,rev_rev] at this
theorem HZ {M:List L3}(hk:∀m∈M,okL m=true){q:Sec.V2}(hq:Sec.pos M q):Sec.Oq M:=by
 intro l d m hm c p f g h
 rcases HE (hk l d) (hk m hm) f g h with e|e
 ·exact c e
 ·have a:=hq l d
  have b:=hq m hm
  rw [e,val_rev] at a
  grind
theorem B5 {l:L3}(h:Nz l){x y:Rat}(hp:ar l x y=0):∃t,x=jN l t/\y=jO l t:=by
 have a:=Rat.mul_inv_cancel _ h.norm
 unfold ar at hp
 refine ⟨E0 l x y,?_,?_⟩
 ·unfold jN E0 g_ at *;grind
 ·unfold jO E0 g_ at *;grind
def fullSp:Sp:=⟨0,0,true,true⟩
theorem uG:fullSp.nN:=⟨⟨fun _=>rfl,fun _=>rfl⟩,rfl⟩
theorem yg (t:Rat):fullSp.nj t:=⟨.inl rfl,.inl rfl⟩
structure CanC (M:List L3) (c:List Sd):Prop where
 pos:∃q,Sec.pos M q
 mem:∀s∈c,s.1∈M/\s.2.nN/\∀t,s.2.nj t↔∀m∈M,m≠s.1->0<ar m (jN s.1 t) (jO s.1 t)
 all:∀l∈M,Sec.Es M l->∃v,(l,v)∈c
 asc:c.Pairwise fun s u=>Sec.ang (Sec.dirL s.1) (Sec.dirL u.1)<0
def j9 (x:Sd):List Sd->List Sd
 | []=>[x]
 | s::r=>if Sec.ang (Sec.dirL s.1) (Sec.dirL x.1)<0 then s::j9 x r else x::s::r
def jK (c:List Sd)(l:L3):List Sd:=c.filterMap fun s=>if eH s.1 s.2 l then some (s.1,eI s.1 s.2 l) else none
def dw:List Sd->L3->Int
 | [],_=>-1
 | s::c,l=>if (ar l (jN s.1 s.2.cS) (jO s.1 s.2.cS)).num.sign≠0 then (ar l (jN s.1 s.2.cS) (jO s.1 s.2.cS)).num.sign else if s.1=l then 1 else dw c l
def clipC (c:List Sd)(l:L3):Option (List Sd):=
 match cq c l fullSp with
 | some v=>some (j9 (l,v) (jK c l))
 | none=>if 0<dw c l then some c else none
theorem j_ {x y:Sd}:∀{r:List Sd},y∈j9 x r↔y=x\/y∈r
 | []=>by simp [j9]
 | s::r=>by
  unfold j9
  split
  ·rw [List.mem_cons,j_,List.mem_cons];exact or_left_comm
  ·rw [List.mem_cons]
theorem BJ {a b d:Sec.V2}(h:Sec.ang a b<0)(h':Sec.ang b d<0):Sec.ang a d<0:=by
 by_cases q:Sec.ang a d<0
 ·exact q
 ·exact absurd h (Sec.qo _ _ _ q (Sec.BH _ _ h'))
theorem yx {x:Sd}:∀{r:List Sd},(r.Pairwise fun s u=>Sec.ang (Sec.dirL s.1) (Sec.dirL u.1)<0)->(∀s∈r,Sec.ang (Sec.dirL s.1) (Sec.dirL x.1)≠0)->(j9 x r).Pairwise fun s u=>Sec.ang (Sec.dirL s.1) (Sec.dirL u.1)<0
 | [],_,_=>List.pairwise_singleton ..
 | s::r,h,hn=>by
  obtain ⟨h1,h2⟩:=List.pairwise_cons.1 h
  unfold j9
  split
  ·rename_i b
   refine List.pairwise_cons.2 ⟨fun y a=>?_,yx h2 fun u hu=>hn u (List.mem_cons_of_mem _ hu)⟩
   rcases j_.1 a with rfl|a
   ·exact b
   ·exact h1 y a
  ·rename_i b
   have c:Sec.ang (Sec.dirL x.1) (Sec.dirL s.1)<0:=by
    rcases Sec.vr (Sec.dirL s.1) (Sec.dirL x.1) with g|g|g
    ·exact absurd g b
    ·exact absurd g (hn s (List.mem_cons_self ..))
    ·exact g
   refine List.pairwise_cons.2 ⟨fun y a=>?_,h⟩
   rcases List.mem_cons.1 a with rfl|a
   ·exact c
   ·exact BJ c (h1 y a)
theorem xX {c:List Sd}{l:L3}{y:Sd}:y∈jK c l↔∃s∈c,eH s.1 s.2 l=true/\y=(s.1,eI s.1 s.2 l):=by
 unfold jK
 rw [List.mem_filterMap]
 constructor
 ·rintro ⟨s,a,e⟩
  split at e
  ·rename_i hb;cases e;exact ⟨s,a,hb,rfl⟩
  ·cases e
 ·rintro ⟨s,a,hb,rfl⟩
  exact ⟨s,a,by rw [if_pos hb]⟩
theorem xW {c:List Sd}{l:L3}(h:c.Pairwise fun s u=>Sec.ang (Sec.dirL s.1) (Sec.dirL u.1)<0):(jK c l).Pairwise fun s u=>Sec.ang (Sec.dirL s.1) (Sec.dirL u.1)<0:=by
 unfold jK
 refine List.Pairwise.filterMap _ ?_ h
 intro a b d x e y f
 split at e
 ·split at f
  ·cases e;cases f;exact d
  ·cases f
 ·cases e
theorem E1 {l s:L3}(hl:Sec.nz (Sec.dirL s))(h:Sec.ang (Sec.dirL s) (Sec.dirL l)=0){p r:Sec.V2}(p0:ar l p.1 p.2=0)(p1:0<ar s p.1 p.2)(r0:ar s r.1 r.2=0)(r1:0<ar l r.1 r.2):False:=by
 obtain ⟨c,b,e⟩:=Sec.xu hl h
 have d:(s.2.1:Rat)=c*(l.2.1:Rat):=congrArg Prod.fst e
 have a:-(s.1:Rat)=c*-(l.1:Rat):=congrArg Prod.snd e
 have a:(s.1:Rat)=c*(l.1:Rat):=by grind
 have key:∀x:Sec.V2,ar s x.1 x.2=c*(ar l x.1 x.2-(l.2.2:Rat))+(s.2.2:Rat):=fun x=>by unfold ar;rw [d,a];grind
 have k:=Sec.mp b r1
 rw [key] at p1 r0
 rw [p0] at p1
 generalize ar l r.1 r.2=z at *
 grind
section
variable {M:List L3} {c:List Sd} (h:CanC M c) (hk:∀m ∈ M,okL m=true)
include h hk
theorem CanC.int {p:Sec.V2}(hp:∀s∈c,0<ar s.1 p.1 p.2):Sec.pos M p:=by
 obtain ⟨q,a⟩:=h.pos
 refine Sec.QC (HZ hk a) (fun m hm=>Gx (hk m hm)) a fun m hm he=>?_
 obtain ⟨v,b⟩:=h.all m hm he
 exact hp _ b
theorem CI {l:L3}(hl:okL l=true){v:Sp}(e:cq c l fullSp=some v):CanC (l::M) (j9 (l,v) (jK c l)):=by
 have J:Nz l:=oQ hl
 obtain ⟨A,B⟩:=uS uG e
 have C:∀t,v.nj t↔Sec.pos M (jN l t,jO l t):=fun t=>⟨fun g=>h.int hk ((B t).1 g).2,fun g=>(B t).2 ⟨yg t,fun s f=>g s.1 (h.mem s f).1⟩⟩
 obtain ⟨t0,u⟩:=vS.1 A.2
 have y:=(C t0).1 u
 have D:=(vy J t0).1
 have E:l∉M:=fun hm=>by have:=y l hm;dsimp only at this;grind
 have ne:∀m∈M,m≠l:=fun m hm e=>E (e▸hm)
 obtain ⟨q,K,L,-⟩:=Sec.D9 (M:=M) (x:=(jN l t0,jO l t0)) (Gx hl) D (fun m hm _=>y m hm) [] (fun m hm=>by cases hm)
 have F:∀s∈jK c l,s.1∈M/\s.2.nN/\∀t,s.2.nj t↔∀m∈l::M,m≠s.1->0<ar m (jN s.1 t) (jO s.1 t):=fun s f=>by
  obtain ⟨N,O,hb,rfl⟩:=xX.1 f
  obtain ⟨i,k,n⟩:=h.mem N O
  refine ⟨i,qN k hb,fun t=>?_⟩
  dsimp only
  rw [ma.1 hb t,n t,List.forall_mem_cons]
  exact ⟨fun g=>⟨fun _=>g.2,g.1⟩,fun g=>⟨g.2,g.1 (fun e=>ne _ i e.symm)⟩⟩
 refine ⟨⟨q,List.forall_mem_cons.2 ⟨L,K⟩⟩,fun s f=>?_,fun o d he=>?_,yx (xW h.asc) fun s f P=>?_⟩
 ·rcases j_.1 f with rfl|f
  ·refine ⟨List.mem_cons_self ..,A,fun t=>?_⟩
   rw [C t,List.forall_mem_cons]
   exact ⟨fun g=>⟨fun h=>absurd rfl h,fun m hm _=>g m hm⟩,fun g m hm=>g.2 m hm (ne m hm)⟩
  ·obtain ⟨a,b⟩:=F s f
   exact ⟨List.mem_cons_of_mem _ a,b⟩
 ·rcases List.mem_cons.1 d with rfl|d
  ·exact ⟨v,j_.2 (.inl rfl)⟩
  ·obtain ⟨p,G,z⟩:=he
   obtain ⟨w,hw⟩:=h.all o d ⟨p,G,fun m hm j=>z m (List.mem_cons_of_mem _ hm) j⟩
   obtain ⟨i,k,n⟩:=h.mem _ hw
   obtain ⟨t,H,I⟩:=B5 (oQ (hk o d)) G
   have hb:eH o w l=true:=by
    cases hb:eH o w l
    ·exfalso
     refine ma.2 k.2 hb t ((n t).2 fun m hm j=>?_) ?_
     ·dsimp only;rw [←H,←I];exact z m (List.mem_cons_of_mem _ hm) j
     ·rw [←H,←I];exact z l (List.mem_cons_self ..) (fun e=>E (e▸d))
    ·rfl
   exact ⟨eI o w l,j_.2 (.inr (xX.2 ⟨_,hw,hb,rfl⟩))⟩
 ·obtain ⟨i,k,n⟩:=F s f
  obtain ⟨t,Q⟩:=vS.1 k.2
  have R:=(n t).1 Q l (List.mem_cons_self ..) (fun e=>ne _ i e.symm)
  exact E1 (Gx (hk _ i)) P (p:=(jN l t0,jO l t0)) (r:=(jN s.1 t,jO s.1 t)) D (y _ i) (vy (oQ (hk _ i)) t).1 R
omit h in
theorem nI {l:L3}(hl:okL l=true)(hno:∀x:Sec.V2,ar l x.1 x.2=0->¬Sec.pos M x){q:Sec.V2}(hq:Sec.pos M q){s:L3}(hs:s∈M){x:Sec.V2}(xz:ar s x.1 x.2=0)(hx:∀m∈M,m≠s->0<ar m x.1 x.2) :
  (0<ar l q.1 q.2->0<ar l x.1 x.2\/s=l)/\(ar l q.1 q.2<0->ar l x.1 x.2<0\/ar l x.1 x.2=0/\s≠l):=by
 have side:∀g:L3,(∀x:Sec.V2,ar g x.1 x.2=0->¬Sec.pos M x)->0<ar g q.1 q.2->∀y:Sec.V2,ar s y.1 y.2=0->(∀m∈M,m≠s->0<ar m y.1 y.2)->¬ar g y.1 y.2<0:=fun g hno k y n b i=>by
  obtain ⟨C,o,-,c⟩:=Sec.D9 (Gx (hk s hs)) n b [revL g] (fun m hm=>by rcases List.mem_singleton.1 hm with rfl;rw [val_rev];grind)
  have c:=c _ (List.mem_singleton.2 rfl)
  rw [val_rev] at c
  have:=Sec.yP hno hq o k
  grind
 constructor
 ·intro a
  by_cases f:0<ar l x.1 x.2
  ·exact .inl f
  right
  have z:ar l x.1 x.2=0:=by have:=side l hno a x xz hx;grind
  by_cases e:s=l
  ·exact e
  exfalso
  have p:Sec.cr (Sec.dirL l) (Sec.dirL s)≠0:=fun t=>by
   rcases HE hl (hk s hs) z xz t with g|g
   ·exact e g.symm
   ·rw [g,val_rev] at a
    have:=hq s hs
    grind
  have step:∀d:Sec.V2,Sec.nv s d=0->Sec.nv l d<0->False:=fun d d0 d1=>by
   obtain ⟨r,u,v⟩:=Sec.wI ((M.filter fun m=>decide (m≠s)).map fun m=>(ar m x.1 x.2,Sec.nv m d)) (fun y b=>by
    obtain ⟨m,hm,rfl⟩:=List.mem_map.1 b
    have:=List.mem_filter.1 hm
    exact hx m this.1 (by simpa using this.2))
   refine side l hno a (x.1+r*d.1,x.2+r*d.2) ?_ (fun m hm h=>?_) ?_
   ·rw [Sec.h_,xz,d0];grind
   ·rw [Sec.h_]
    exact v (ar m x.1 x.2,Sec.nv m d) (List.mem_map.2 ⟨m,List.mem_filter.2 ⟨hm,by simpa using h⟩,rfl⟩)
   ·rw [Sec.h_,z]
    have:=Sec.mp u (show -Sec.nv l d>0 by grind)
    grind
  have j:Sec.nv s (Sec.dirL s)=0:=by rw [Sec.B3];exact Sec.BS _
  have ls:Sec.nv l (Sec.dirL s)≠0:=by rw [Sec.B3];exact p
  by_cases w:Sec.nv l (Sec.dirL s)<0
  ·exact step _ j w
  ·have A:Sec.nv s (-(Sec.dirL s).1,-(Sec.dirL s).2)=-Sec.nv s (Sec.dirL s):=by unfold Sec.nv;dsimp only;grind
   have B:Sec.nv l (-(Sec.dirL s).1,-(Sec.dirL s).2)=-Sec.nv l (Sec.dirL s):=by unfold Sec.nv;dsimp only;grind
   exact step (-(Sec.dirL s).1,-(Sec.dirL s).2) (by rw [A,j];grind) (by rw [B];grind)
 ·intro a
  have:=side (revL l) (fun x hx=>hno x (by rw [val_rev] at hx;grind)) (by rw [val_rev];grind) x xz hx
  rw [val_rev] at this
  by_cases f:ar l x.1 x.2<0
  ·exact .inl f
  ·refine .inr ⟨by grind,fun e=>?_⟩
   have:=hq s hs
   rw [e] at this
   grind
theorem oU {s:Sd}(hs:s∈c):ar s.1 (jN s.1 s.2.cS) (jO s.1 s.2.cS)=0/\∀m∈M,m≠s.1->0<ar m (jN s.1 s.2.cS) (jO s.1 s.2.cS):=by
 obtain ⟨d,e,f⟩:=h.mem s hs
 refine ⟨(vy (oQ (hk _ d)) _).1,(f _).1 ?_⟩
 obtain ⟨g,i⟩:=Sp.B_ e.2
 constructor
 ·cases ha:s.2.a
  ·exact .inr (g ha)
  ·exact .inl rfl
 ·cases hb:s.2.b
  ·exact .inr (i hb)
  ·exact .inl rfl
theorem C6 {l:L3}(hl:okL l=true)(hno:∀x:Sec.V2,ar l x.1 x.2=0->¬Sec.pos M x){q:Sec.V2}(hq:Sec.pos M q)(hp:0<ar l q.1 q.2)(h0:c≠[]):dw c l=1:=by
 cases hc:c with
 | nil=>exact absurd hc h0
 | cons s r=>
  have b:s∈c:=by rw [hc];exact List.mem_cons_self ..
  obtain ⟨d,f⟩:=oU h hk b
  have:=(nI hk hl hno hq (h.mem s b).1 (x:=(jN s.1 s.2.cS,jO s.1 s.2.cS)) d f).1 hp
  unfold dw
  dsimp only at this
  by_cases e:0<ar l (jN s.1 s.2.cS) (jO s.1 s.2.cS)
  ·rw [Sec.wH.2 e];rfl
  ·have a:s.1=l:=this.resolve_left e
   have z:ar l (jN s.1 s.2.cS) (jO s.1 s.2.cS)=0:=by
    have h:=d;rw [a] at h ⊢;exact h
   rw [Sec.hZ.2 z,if_neg (by simp),if_pos a]
theorem C5 {l:L3}(hl:okL l=true)(hno:∀x:Sec.V2,ar l x.1 x.2=0->¬Sec.pos M x){q:Sec.V2}(hq:Sec.pos M q)(hp:ar l q.1 q.2<0):dw c l=-1:=by
 have:∀r:List Sd,(∀s∈r,s∈c)->dw r l=-1:=by
  intro r
  induction r with
  | nil=>intro _;rfl
  | cons s r ih=>
   intro a
   have b:=a s (List.mem_cons_self ..)
   obtain ⟨d,e⟩:=oU h hk b
   have:=(nI hk hl hno hq (h.mem s b).1 (x:=(jN s.1 s.2.cS,jO s.1 s.2.cS)) d e).2 hp
   dsimp only at this
   unfold dw
   rcases this with g|⟨g,f⟩
   ·rw [Sec.rX.2 g];rfl
   ·rw [Sec.hZ.2 g,if_neg (by simp),if_neg f]
    exact ih fun u hu=>a u (List.mem_cons_of_mem _ hu)
 exact this c fun _ h=>h
theorem clip_ok {l:L3}(hl:okL l=true):(∀c',clipC c l=some c'->CanC (l::M) c')/\(clipC c l=none->¬∃q,Sec.pos (l::M) q):=by
 unfold clipC
 cases e:cq c l fullSp with
 | some v=>exact ⟨fun c' f=>by cases f;exact CI h hk hl e,fun f=>by cases f⟩
 | none=>
  dsimp only
  have d:∀x:Sec.V2,ar l x.1 x.2=0->¬Sec.pos M x:=fun x E n=>by
   obtain ⟨t,o,r⟩:=B5 (oQ hl) E
   refine uR uG e t (yg t) fun s u=>?_
   rw [←o,←r];exact n s.1 (h.mem s u).1
  have F:c≠[]:=fun G=>by rw [G] at e;cases e
  obtain ⟨q,j⟩:=h.pos
  by_cases w:0<ar l q.1 q.2
  ·rw [C6 h hk hl d j w F]
   refine ⟨fun c' f=>?_,fun f=>by cases f⟩
   cases f
   refine ⟨⟨q,List.forall_mem_cons.2 ⟨w,j⟩⟩,fun s u=>?_,fun y A he=>?_,h.asc⟩
   ·obtain ⟨B,H,I⟩:=h.mem s u
    refine ⟨List.mem_cons_of_mem _ B,H,fun t=>?_⟩
    rw [I t,List.forall_mem_cons]
    refine ⟨fun g=>⟨fun i=>?_,g⟩,fun g=>g.2⟩
    exact ((nI hk hl d j B (x:=(jN s.1 t,jO s.1 t)) (vy (oQ (hk _ B)) t).1 g).1 w).resolve_right fun e=>i e.symm
   ·obtain ⟨p,D,n⟩:=he
    by_cases hm:y∈M
    ·exact h.all y hm ⟨p,D,fun m hm i=>n m (List.mem_cons_of_mem _ hm) i⟩
    ·exfalso
     have o:y=l:=(List.mem_cons.1 A).resolve_right hm
     refine d p (o▸D) fun m k=>n m (List.mem_cons_of_mem _ k) fun r=>hm (r▸k)
  ·have J:ar l q.1 q.2<0:=by
    by_cases z:ar l q.1 q.2=0
    ·exact absurd j (d q z)
    ·grind
   rw [C5 h hk hl d j J]
   refine ⟨fun c' f=>(by cases f),fun _=>?_⟩
   rintro ⟨K,C⟩
   obtain ⟨a,b⟩:=List.forall_mem_cons.1 C
   have:=Sec.yP d (fun m hm=>b m hm) j a
   grind
end
theorem CanC.nil:CanC [] []:=⟨⟨(0,0),fun m hm=>by cases hm⟩,(fun s a=>by cases a),(fun l b=>by cases b),List.Pairwise.nil⟩
end Go.Proofs.Tryz
namespace Go.Proofs.Tryz
open Go.Eng Go.Big
theorem Es.of {M N:List L3}(h:∀x,x∈M->x∈N){l:L3}(e:Sec.Es N l):Sec.Es M l:=by
 obtain ⟨p,a,b⟩:=e
 exact ⟨p,a,fun m hm=>b m (h m hm)⟩
theorem ok_rev {l:L3}(h:okL l=true):okL (revL l)=true:=by
 unfold okL revL ij at *
 simp only [Int.natAbs_neg]
 rw [Bool.and_eq_true,decide_eq_true_iff,decide_eq_true_iff] at h ⊢
 exact ⟨fun e=>h.1 ⟨by omega,by omega⟩,h.2⟩
section
variable {M:List L3} {c:List Sd} (h:CanC M c) (hk:∀m ∈ M,okL m=true)
include h hk
end
end Go.Proofs.Tryz
namespace Go.Proofs.Tryz
open Go.Eng Go.Big
section
variable {M:List L3} {c:List Sd} (h:CanC M c) (hk:∀m ∈ M,okL m=true)
include h hk
end
end Go.Proofs.Tryz
namespace Go.Proofs.Tryz
open Go.Eng Go.Big
namespace Sec
end Sec
section
variable {M:List L3} {c:List Sd} (h:CanC M c) (hk:∀m ∈ M,okL m=true)
include h hk
end
end Go.Proofs.Tryz
namespace Go.Proofs.Tryz
open Go.Eng Go.Big
namespace Sec
end Sec
section
variable {M:List L3} {c:List Sd} (h:CanC M c) (hk:∀m ∈ M,okL m=true)
include h hk
end
end Go.Proofs.Tryz
namespace Go.Proofs.Tryz
open Go.Eng Go.Big
section
variable {M:List L3} {c:List Sd} (h:CanC M c) (hk:∀m ∈ M,okL m=true) (hb:∀s ∈ c,s.2.a=false/\s.2.b=false)
include h hk hb
end
end Go.Proofs.Tryz
namespace Go.Proofs.Tryz
open Go.Eng Go.Big
section
variable {M:List L3} {c:List Sd} (h:CanC M c) (hk:∀m ∈ M,okL m=true) (hb:∀s ∈ c,s.2.a=false/\s.2.b=false)
include h hk hb
end
end Go.Proofs.Tryz
namespace Go.Proofs.Tryz
open Go.Eng Go.Big
section
variable {M:List L3} {c:List Sd} (h:CanC M c) (hk:∀m ∈ M,okL m=true) (hb:∀s ∈ c,s.2.a=false/\s.2.b=false)
include h hk hb
end
end Go.Proofs.Tryz
namespace Go.Proofs.Tryz
open Go.Eng Go.Big
section
variable {M:List L3} {c:List Sd} (h:CanC M c) (hk:∀m ∈ M,okL m=true)
include h hk
end
end Go.Proofs.Tryz
namespace Go.Proofs.Tryz
open Go.Eng Go.Big
theorem ni.up {k K:Nat}{l:L3}(h:ni k l)(hk:k<=K):ni K l:=⟨h.1.mono hk,h.2.1.mono hk,h.2.2.mono hk⟩
theorem Ch {L M:L3}{s:Sp}{k K:Nat}(sl:ni k L)(sm:ni k M)(hs:s.sz K)(hk:60*k+60<=K):(eI L s M).sz K:=by
 have z:=Jo K (by omega)
 have c:=(wL sl sm).mono hk
 unfold eI
 split
 ·exact hs
 ·split
  ·exact Sp.wb hs ⟨c,z⟩
  ·exact Sp.wb hs ⟨z,c⟩
theorem F9 {k:Nat}(hk:0<k):fullSp.sz k:=⟨Jo k hk,Jo k hk⟩
def Mt (s:Sd):Prop:=Bd s.1/\s.2.sz 100000
theorem BV {x:Sd}:∀{r:List Sd} {i:Nat},i<=r.length->(∀k (h:k<r.length),k<i->Sec.ang (Sec.dirL r[k].1) (Sec.dirL x.1)<0)->(∀h:i<r.length,¬Sec.ang (Sec.dirL r[i].1) (Sec.dirL x.1)<0)->j9 x r=r.take i++x::r.drop i
 | [],i,hi,_,_=>by simp [j9]
 | s::r,0,_,_,h=>by
  have:¬Sec.ang (Sec.dirL s.1) (Sec.dirL x.1)<0:=h (Nat.zero_lt_succ _)
  unfold j9
  rw [if_neg this]
  rfl
 | s::r,i+1,hi,h1,h2=>by
  have:Sec.ang (Sec.dirL s.1) (Sec.dirL x.1)<0:=h1 0 (Nat.zero_lt_succ _) (Nat.zero_lt_succ _)
  unfold j9
  rw [if_pos this,BV (r:=r) (i:=i) (by simpa using hi) (fun k hk a=>h1 (k+1) (by simpa using hk) (by omega)) fun h=>h2 (by simpa using h)]
  rfl
structure Bs (r:List Sd) (l:L3) (i j:Nat):Prop where
 le:i<=j
 len:j<=r.length
 lo:∀k (h:k<r.length),k<i->Sec.ang (Sec.dirL r[k].1) (Sec.dirL l)<0
 hi:∀h:j<r.length,¬Sec.ang (Sec.dirL r[j].1) (Sec.dirL l)<0
theorem Bs.start (r:List Sd)(l:L3):Bs r l 0 r.length:=⟨Nat.zero_le _,Nat.le_refl _,fun k h hk=>absurd hk (Nat.not_lt_zero _),fun h=>absurd h (Nat.lt_irrefl _)⟩
theorem Bs.up {r:List Sd}{l:L3}{i j h:Nat}(b:Bs r l i j)(asc:r.Pairwise fun s u=>Sec.ang (Sec.dirL s.1) (Sec.dirL u.1)<0)(h2:h<j)(hl:h<r.length)(hc:Sec.ang (Sec.dirL r[h].1) (Sec.dirL l)<0):Bs r l (h+1) j:=
 ⟨h2,b.len,fun k hk a=>by
  by_cases e:k=h
  ·subst e;exact hc
  ·exact BJ (List.pairwise_iff_getElem.1 asc k h hk hl (by omega)) hc,b.hi⟩
theorem Bs.down {r:List Sd}{l:L3}{i j h:Nat}(b:Bs r l i j)(h1:i<=h)(hl:h<r.length)(hc:¬Sec.ang (Sec.dirL r[h].1) (Sec.dirL l)<0):Bs r l i h:=
 ⟨h1,by omega,b.lo,fun _=>hc⟩
theorem Bs.done {r:List Sd}{l:L3}{i:Nat}(b:Bs r l i i)(v:Sp):j9 (l,v) r=r.take i++(l,v)::r.drop i:=BV b.len b.lo b.hi
theorem RR.half (V:View):RR V (.agg #[.int .i64 1,.int .i64 1,.pointer none]) (((2:Int):Rat)⁻¹):=by
 have a:(((2:Int):Rat)⁻¹).num=1:=by decide +kernel
 have b:(((2:Int):Rat)⁻¹).den=2:=by decide +kernel
 refine .inl ⟨by rw [a,b];rfl,?_⟩
 unfold Wd
 rw [a,b];decide
theorem DV {V:View}{v:Value}{x:Rat}(hx:RR V v x){k:Nat}(hk:Sz k x)(hkm:k+2<1099511627776) :
  Acts prog 235 #[v] V fun r V'=>RR V' r (x*((2:Int):Rat)⁻¹):=by
 have d:=hx
 obtain ⟨a,b,c,rfl⟩:=hx.shape
 refine su a b c V _ fun e f=>(gS (d.le f) (RR.half e) hk (jC Ci) hkm).mono ?_
 rintro r V2 j g
 have h:=g
 obtain ⟨u,v,w,rfl⟩:=g.shape
 exact ⟨_,_,_,rfl,fun l i=>h.le i⟩
theorem xE {V:View}{v:Value}{s:Sp}(h:BE V v s){k:Nat}(hs:s.sz k)(hk:4*k+8<1099511627776) :
  Acts prog 211 #[v] V fun r V'=>RR V' r s.cS:=by
 obtain ⟨D,E,p,F,G,q,rfl,n,o⟩:=h
 have H:s.a=true->s.b=true->s.cS=0:=fun x y=>by simp [Sp.cS,x,y]
 have I:s.a=true->s.b=false->s.cS=s.hi-((1:Int):Rat):=fun x y=>by simp [Sp.cS,x,y]
 have J:s.a=false->s.b=true->s.cS=s.lo+((1:Int):Rat):=fun x y=>by simp [Sp.cS,x,y]
 have K:s.a=false->s.b=false->s.cS=(s.lo+s.hi)*((2:Int):Rat)⁻¹:=fun x y=>by simp [Sp.cS,x,y]
 have no:∀{P:Prop},s.a=true->s.a=false->P:=fun x y=>by rw [x] at y;cases y
 have N:∀{P:Prop},s.b=true->s.b=false->P:=fun x y=>by rw [x] at y;cases y
 refine oe D E p F G q s.a s.b V _ ⟨fun c=>⟨fun hb O Q=>?_,fun hb=>⟨fun _ V2 L=>(gj 1 (by decide) (by decide)).mono ?_,fun e=>no c e⟩⟩,fun c=>⟨fun e=>no e c,fun _=>⟨fun hb R M=>(gj 1 (by decide) (by decide)).mono ?_,fun hb S i=>(ja (n.le i) (o.le i) hs.1 hs.2 (by omega)).mono ?_⟩⟩⟩
 ·rw [H c hb];exact RR.zero _
 ·rintro r t m g
  have j:=g
  obtain ⟨u,v,w,rfl⟩:=g.shape
  refine ⟨_,_,_,rfl,fun z d=>(vF (o.le (L.trans (m.trans d))) (j.le d) hs.2 qg (by omega)).mono ?_⟩
  rintro r A B f
  have f0:=f
  obtain ⟨u,v,w,rfl⟩:=f.shape
  exact ⟨_,_,_,rfl,fun C l=>by rw [I c hb];exact f0.le l⟩
 ·rintro r t m g
  have j:=g
  obtain ⟨u,v,w,rfl⟩:=g.shape
  refine ⟨_,_,_,rfl,fun z d=>(ja (n.le (M.trans (m.trans d))) (j.le d) hs.1 qg (by omega)).mono ?_⟩
  rintro r A B f
  have f0:=f
  obtain ⟨u,v,w,rfl⟩:=f.shape
  exact ⟨_,_,_,rfl,fun C l=>by rw [J c hb];exact f0.le l⟩
 ·rintro r t m g
  have j:=g
  obtain ⟨u,v,w,rfl⟩:=g.shape
  refine ⟨_,_,_,rfl,fun z d=>(DV (j.le d) (hs.1.add hs.2) (by omega)).mono ?_⟩
  rintro r A B f
  have f0:=f
  obtain ⟨u,v,w,rfl⟩:=f.shape
  exact ⟨_,_,_,rfl,fun C l=>by rw [K c hb];exact f0.le l⟩
theorem JU {V:View}:Acts prog 209 #[] V fun r V'=>r=.agg #[.int .i64 0,.int .i64 0,.pointer none,.int .i64 0,.int .i64 0,.pointer none,.bool true,.bool true]:=
 Bh V _ fun a b=>rfl
def RSd (V:View)(v:Value)(s:Sd):Prop:=HN V v s.1 s.2/\Mt s
theorem RSd.le {V V':View}{v:Value}{s:Sd}(h:RSd V v s)(l:V.Le V'):RSd V' v s:=⟨h.1.le l,h.2⟩
theorem RSd.shape {V:View}{v:Value}{s:Sd}(h:RSd V v s):∃(x1:Int)(x2:Int)(p:OA)(y1:Int)(y2:Int)(q:OA)(z1:Int)(z2:Int)(r:OA)(u1:Int)(u2:Int)(t:OA)(w1:Int)(w2:Int)(o:OA),v=.agg #[.int .i64 x1,.int .i64 x2,.pointer p,.int .i64 y1,.int .i64 y2,.pointer q,.int .i64 z1,.int .i64 z2,.pointer r,.int .i64 u1,.int .i64 u2,.pointer t,.int .i64 w1,.int .i64 w2,.pointer o,.bool s.2.a,.bool s.2.b]:=by
 obtain ⟨x1,x2,p,y1,y2,q,z1,z2,r,u1,u2,t,w1,w2,o,e,-⟩:=h.1
 exact ⟨x1,x2,p,y1,y2,q,z1,z2,r,u1,u2,t,w1,w2,o,e⟩
theorem ER {x1:Int}{x2:Int}{p:OA}{y1:Int}{y2:Int}{q:OA}{z1:Int}{z2:Int}{r:OA}{u1:Int}{u2:Int}{t:OA}{w1:Int}{w2:Int}{o:OA}{c d:Bool}:∀v∈([.int .i64 x1,.int .i64 x2,.pointer p,.int .i64 y1,.int .i64 y2,.pointer q,.int .i64 z1,.int .i64 z2,.pointer r,.int .i64 u1,.int .i64 u2,.pointer t,.int .i64 w1,.int .i64 w2,.pointer o,.bool c,.bool d]:List Value),v.oneCell'=true:=by
 intro v hm
 simp only [List.mem_cons,List.not_mem_nil,or_false] at hm
 rcases hm with rfl|rfl|rfl|rfl|rfl|rfl|rfl|rfl|rfl|rfl|rfl|rfl|rfl|rfl|rfl|rfl|rfl<;>rfl
theorem GW {V:View}{s:Sd}:∀xs,RSd V (.agg (List.toArray xs)) s->∀v∈xs,v.oneCell'=true:=by
 intro xs h
 obtain ⟨a,b,p,c,d,q,f,g,r,i,j,t,k,l,o,e⟩:=h.shape
 have e:=congrArg Array.toList (Value.agg.inj e)
 dsimp only at e
 subst e
 exact ER
theorem lst_rsd {V:View}{c:OA}{n:Nat}{al:List Sd}(h:Lst 17 RSd V c n al){i:Nat}(hi:i<al.length) :
  c.isSome=true/\∃(x1:Int)(x2:Int)(p:OA)(y1:Int)(y2:Int)(q:OA)(z1:Int)(z2:Int)(r:OA)(u1:Int)(u2:Int)(t:OA)(w1:Int)(w2:Int)(o:OA)(a:Addr),addrAdd c (i*17)=some a/\V.at (a.add 0) (.int .i64 x1)/\V.at (a.add 1) (.int .i64 x2)/\V.at (a.add 2) (.pointer p)/\V.at (a.add 3) (.int .i64 y1)/\V.at (a.add 4) (.int .i64 y2)/\V.at (a.add 5) (.pointer q)/\V.at (a.add 6) (.int .i64 z1)/\V.at (a.add 7) (.int .i64 z2)/\V.at (a.add 8) (.pointer r)/\V.at (a.add 9) (.int .i64 u1)/\V.at (a.add 10) (.int .i64 u2)/\V.at (a.add 11) (.pointer t)/\V.at (a.add 12) (.int .i64 w1)/\V.at (a.add 13) (.int .i64 w2)/\V.at (a.add 14) (.pointer o)/\V.at (a.add 15) (.bool al[i].2.a)/\V.at (a.add 16) (.bool al[i].2.b) /\
   RSd V (.agg #[.int .i64 x1,.int .i64 x2,.pointer p,.int .i64 y1,.int .i64 y2,.pointer q,.int .i64 z1,.int .i64 z2,.pointer r,.int .i64 u1,.int .i64 u2,.pointer t,.int .i64 w1,.int .i64 w2,.pointer o,.bool al[i].2.a,.bool al[i].2.b]) al[i]:=by
 obtain ⟨k,g,xs,l,j,d⟩:=h.at_ i hi
 have f:=j
 obtain ⟨x1,x2,p,y1,y2,q,z1,z2,r,u1,u2,t,w1,w2,o,e⟩:=j.shape
 have e:=congrArg Array.toList (Value.agg.inj e)
 dsimp only at e
 subst e
 refine ⟨?_,x1,x2,p,y1,y2,q,z1,z2,r,u1,u2,t,w1,w2,o,k,g,d 0 _ rfl,d 1 _ rfl,d 2 _ rfl,d 3 _ rfl,d 4 _ rfl,d 5 _ rfl,d 6 _ rfl,d 7 _ rfl,d 8 _ rfl,d 9 _ rfl,d 10 _ rfl,d 11 _ rfl,d 12 _ rfl,d 13 _ rfl,d 14 _ rfl,d 15 _ rfl,d 16 _ rfl,f⟩
 cases c with
 | none=>cases g
 | some a=>rfl
theorem B9 {V:View}{vs:List Value}{al:List Sd}(h:Row 17 RSd V vs al){i:Nat}(hi:i<al.length):∃(x1:Int)(x2:Int)(p:OA)(y1:Int)(y2:Int)(q:OA)(z1:Int)(z2:Int)(r:OA)(u1:Int)(u2:Int)(t:OA)(w1:Int)(w2:Int)(o:OA),i*17+17<=vs.length/\(vs.drop (i*17)).take 17=[.int .i64 x1,.int .i64 x2,.pointer p,.int .i64 y1,.int .i64 y2,.pointer q,.int .i64 z1,.int .i64 z2,.pointer r,.int .i64 u1,.int .i64 u2,.pointer t,.int .i64 w1,.int .i64 w2,.pointer o,.bool al[i].2.a,.bool al[i].2.b] /\
  RSd V (.agg #[.int .i64 x1,.int .i64 x2,.pointer p,.int .i64 y1,.int .i64 y2,.pointer q,.int .i64 z1,.int .i64 z2,.pointer r,.int .i64 u1,.int .i64 u2,.pointer t,.int .i64 w1,.int .i64 w2,.pointer o,.bool al[i].2.a,.bool al[i].2.b]) al[i]:=by
 obtain ⟨xs,k,d,f⟩:=h.at_ i hi
 have l:=h.nQ (by decide)
 have c:=d
 obtain ⟨x1,x2,p,y1,y2,q,z1,z2,r,u1,u2,t,w1,w2,o,e⟩:=d.shape
 have e:=congrArg Array.toList (Value.agg.inj e)
 dsimp only at e
 subst e
 refine ⟨x1,x2,p,y1,y2,q,z1,z2,r,u1,u2,t,w1,w2,o,by omega,?_,c⟩
 apply List.ext_getElem?
 intro j
 rw [List.getElem?_take]
 split
 ·rename_i g
  rw [List.getElem?_drop]
  exact f j _ (List.getElem?_eq_getElem (by show j<17;omega))▸(List.getElem?_eq_getElem (by show j<17;omega)).symm
 ·rename_i g
  rw [List.getElem?_eq_none (by show 17<=j;omega)]
theorem RSd.both {V:View}{s:Sd}{x1:Int}{x2:Int}{p:OA}{y1:Int}{y2:Int}{q:OA}{z1:Int}{z2:Int}{r:OA}{u1:Int}{u2:Int}{t:OA}{w1:Int}{w2:Int}{o:OA}{c d:Bool}(h:RSd V (.agg #[.int .i64 x1,.int .i64 x2,.pointer p,.int .i64 y1,.int .i64 y2,.pointer q,.int .i64 z1,.int .i64 z2,.pointer r,.int .i64 u1,.int .i64 u2,.pointer t,.int .i64 w1,.int .i64 w2,.pointer o,.bool c,.bool d]) s) :
  RLi V (.agg #[.int .i64 x1,.int .i64 x2,.pointer p,.int .i64 y1,.int .i64 y2,.pointer q,.int .i64 z1,.int .i64 z2,.pointer r]) s.1/\BE V (.agg #[.int .i64 u1,.int .i64 u2,.pointer t,.int .i64 w1,.int .i64 w2,.pointer o,.bool s.2.a,.bool s.2.b]) s.2/\c=s.2.a/\d=s.2.b:=by
 obtain ⟨u,v,w,f,g,x,i,j,r',y,z,A,k,l,B,e,m,n⟩:=h.1
 have e:=congrArg Array.toList (Value.agg.inj e)
 simp only [List.cons.injEq,Value.bool.injEq,Value.int.injEq,Value.pointer.injEq,true_and,and_true] at e
 obtain ⟨rfl,rfl,rfl,rfl,rfl,rfl,rfl,rfl,rfl,rfl,rfl,rfl,rfl,rfl,rfl,rfl,rfl⟩:=e
 exact ⟨m,n,rfl,rfl⟩
theorem jv:∀{c d:List Sd} {l:L3} {v:Sp},cq (c++d) l v=(cq c l v).bind (cq d l)
 | [],_,_,_=>rfl
 | s::c,d,l,v=>by
  rw [List.cons_append]
  unfold cq
  split
  ·exact jv
  ·rfl
theorem oF {V:View}{cp:OA}{cn cc:Nat}{c:List Sd}{lv:Value}{l:L3}(h:Lst 17 RSd V cp cn c)(hl:RLi V lv l)(hb:Bd l)(hn:c.length<=1000000) :
  Acts prog 165 #[.slice cp cn cc,lv] V fun r V'=>∃w,r=.tuple #[w,.bool (cq c l fullSp).isSome]/\BE V' w ((cq c l fullSp).getD Sp.zero)/\((cq c l fullSp).getD Sp.zero).sz 100000:=by
 have n:=hl
 obtain rfl:=h.len
 obtain ⟨_,_,_,_,_,_,_,_,_,rfl,-,-,-⟩:=hl
 have K:∀{i:Nat} (o:i<c.length) {s:Sp},cq (c.take i) l fullSp=some s->cq (c.take (i+1)) l fullSp=if eH l s c[i].1=true then some (eI l s c[i].1) else none:=fun {i} o {s} e=>by
  rw [List.take_add_one,List.getElem?_eq_getElem o,jv,e]
  show cq [c[i]] l s=_
  unfold cq
  rfl
 refine oc cp _ cc _ _ _ _ _ _ _ _ _ V _ fun V1 L=>JU.mono ?_
 rintro r V2 M rfl
 have N:=L.trans M
 refine ⟨_,_,_,_,_,_,_,_,rfl,fun z V'=>∃(i:Nat)(s:Sp),z.1=(i:Int)/\i<=c.length/\cq (c.take i) l fullSp=some s/\s.sz 100000/\z.2.2.2.2.2.2.2.1=s.a/\z.2.2.2.2.2.2.2.2=s.b/\BE V' (.agg #[.int .i64 z.2.1,.int .i64 z.2.2.1,.pointer z.2.2.2.1,.int .i64 z.2.2.2.2.1,.int .i64 z.2.2.2.2.2.1,.pointer z.2.2.2.2.2.2.1,.bool s.a,.bool s.b]) s,
  fun z=>c.length-z.1.toNat,⟨(0,0,0,none,0,0,none,true,true),by and_intros<;>rfl,0,fullSp,rfl,Nat.zero_le _,rfl,F9 (by omega),rfl,rfl,⟨_,_,_,_,_,_,rfl,RR.zero _,RR.zero _⟩⟩,?_⟩
 rintro ⟨z1,x1,x2,p,y1,y2,q,ba,bb⟩ V3 O ⟨i,s,E,o,t,u,F,G,x⟩
 dsimp only at E F G x ⊢
 subst E F G
 have L3:=N.trans O
 refine ⟨rfl,fun f=>?_,fun f V7 P=>?_⟩
 ·have f:(i:Int)<c.length:=of_decide_eq_true f
  have j:i<c.length:=by omega
  have w:i64.wrap ((i:Int)+1)=((i+1:Nat):Int):=by rw [i64w (by omega)];rfl
  rw [Int.toNat_natCast,w]
  obtain ⟨Q,a1,a2,a3,a4,a5,a6,a7,a8,a9,b1,b2,b3,b4,b5,b6,a,R,S,T,U,W,X,Y,Z,h7,h8,h9,y,A,B,Jd,Dv,Je,C,H⟩:=lst_rsd (h.le L3 fun _ _ g=>RSd.le g L3) j
  obtain ⟨rl,ri,-,-⟩:=H.both
  have I:=K j t
  have J:=H.2
  refine ⟨Q,⟨by omega,by omega⟩,_,_,_,_,_,_,_,_,_,_,_,_,_,_,_,_,_,a,R,S,T,U,W,X,Y,Z,h7,h8,h9,y,A,B,Jd,Dv,Je,C,fun V4 D=>(xF (n.le (L3.trans D)) (x.le D) (rl.le D) (k:=100000) (hb.szl.up (by omega)) u (J.1.szl.up (by omega)) (by omega)).mono ?_⟩
  rintro r V5 l5 ⟨w5,rfl,g⟩
  have g0:=g
  obtain ⟨_,_,_,_,_,_,rfl,-,-⟩:=g
  refine ⟨_,_,_,_,_,_,_,_,_,rfl,fun m V6 l6=>?_,fun m=>⟨(((i+1:Nat):Int),_,_,_,_,_,_,_,_),by dsimp only;omega,by and_intros<;>rfl,i+1,eI l s c[i].1,rfl,j,?_,Ch hb.szl J.1.szl u (by omega),rfl,rfl,g0⟩⟩
  ·have m:eH l s c[i].1=false:=by simpa using m
   have e:cq c l fullSp=none:=by
    have:=jv (c:=c.take (i+1)) (d:=c.drop (i+1)) (l:=l) (v:=fullSp)
    rw [List.take_append_drop,I,m] at this
    exact this
   rw [e]
   exact ⟨_,rfl,⟨_,_,_,_,_,_,rfl,RR.zero _,RR.zero _⟩,Jo _ (by omega),Jo _ (by omega)⟩
  ·have m:eH l s c[i].1=true:=by simpa using m
   rw [I,if_pos m]
 ·have f:¬(i:Int)<c.length:=of_decide_eq_false f
  obtain rfl:i=c.length:=by omega
  rw [List.take_length] at t
  rw [t]
  exact ⟨_,rfl,x.le P,u⟩
def Jn (c:List Sd)(l:L3):Int:=if (cq c l fullSp).isSome=true then 0 else dw c l
theorem vD {V:View}{cp:OA}{cn cc:Nat}{c:List Sd}{lv:Value}{l:L3}(h:Lst 17 RSd V cp cn c)(hl:RLi V lv l)(hb:Bd l)(hn:c.length<=1000000) :
  Acts prog 166 #[.slice cp cn cc,lv] V fun r V'=>r=.int .i64 (Jn c l):=by
 have e:=hl
 obtain rfl:=h.len
 obtain ⟨_,_,_,_,_,_,_,_,_,rfl,-,-,-⟩:=hl
 refine mW cp _ cc _ _ _ _ _ _ _ _ _ V _ fun V1 s=>(oF (h.le s fun _ _ g=>RSd.le g s) (e.le s) hb hn).mono ?_
 rintro r V2 J ⟨w,rfl,g,-⟩
 obtain ⟨_,_,_,_,_,_,rfl,-,-⟩:=g
 have K:=s.trans J
 refine ⟨_,_,_,_,_,_,_,_,_,rfl,fun m V3 l3=>by unfold Jn;rw [if_pos m],fun m=>?_⟩
 have m:(cq c l fullSp).isSome=false:=m
 have L:Jn c l=dw c l:=by unfold Jn;rw [if_neg (by rw [m];exact Bool.false_ne_true)]
 rw [L]
 refine ⟨fun z V'=>∃i:Nat,z=(i:Int)/\i<=c.length/\dw c l=dw (c.drop i) l,fun z=>c.length-z.toNat,⟨0,by and_intros<;>rfl,0,rfl,Nat.zero_le _,rfl⟩,?_⟩
 rintro z V4 M ⟨i,rfl,hi,b⟩
 have t:=K.trans M
 refine ⟨rfl,fun d=>?_,fun d N en=>?_⟩
 ·have d:(i:Int)<c.length:=of_decide_eq_true d
  have f:i<c.length:=by omega
  have w:i64.wrap ((i:Int)+1)=((i+1:Nat):Int):=by rw [i64w (by omega)];rfl
  rw [Int.toNat_natCast,w]
  obtain ⟨O,a1,a2,a3,a4,a5,a6,a7,a8,a9,b1,b2,b3,b4,b5,b6,a,P,Q,R,T,U,W,X,Y,Z,h8,h9,x,y,A,Jd,Dv,Je,B,G⟩:=lst_rsd (h.le t fun _ _ g=>RSd.le g t) f
  obtain ⟨H,ri,-,-⟩:=G.both
  have j:=G.2
  have ed:c.drop i=c[i]::c.drop (i+1):=List.drop_eq_getElem_cons f
  rw [ed] at b
  have b:dw c l=if (ar l (jN c[i].1 c[i].2.cS) (jO c[i].1 c[i].2.cS)).num.sign≠0 then (ar l (jN c[i].1 c[i].2.cS) (jO c[i].1 c[i].2.cS)).num.sign else if c[i].1=l then 1 else dw (c.drop (i+1)) l:=b.trans (by rfl)
  generalize c[i]=S at *
  have C:=G6 j.2
  refine ⟨O,⟨by omega,by omega⟩,_,_,_,_,_,_,_,_,_,_,_,_,_,_,_,_,_,a,P,Q,R,T,U,W,X,Y,Z,h8,h9,x,y,A,Jd,Dv,Je,B,fun V5 n=>(xE (ri.le n) j.2 (by omega)).mono ?_⟩
  rintro r V6 u g
  have g0:=g
  obtain ⟨_,_,_,rfl⟩:=g.shape
  refine ⟨_,_,_,rfl,fun V7 o=>(Nk (H.le (n.trans (u.trans o))) (g0.le o) (k:=300000) (j.1.szl.up (by omega)) (C.mono (by omega)) (by omega)).mono ?_⟩
  rintro r V8 D I
  have E:=I
  obtain ⟨_,_,_,_,_,_,rfl,-,-⟩:=I
  have sx:=I0 (j.1.szl.up (show 1000<=300000 by omega)) (C.mono (show 2*100000+10<=300000 by omega))
  have sy:=I1 (j.1.szl.up (show 1000<=300000 by omega)) (C.mono (show 2*100000+10<=300000 by omega))
  refine ⟨_,_,_,_,_,_,rfl,fun V9 v=>(Is (e.le (t.trans (n.trans (u.trans (o.trans (D.trans v)))))) (E.le v) (hb.szl.up (by omega)) sx sy (by omega)).mono ?_⟩
  rintro r a0 p rfl
  refine ⟨_,rfl,fun F b0 b7=>?_,fun F b8 q=>(Gl (H.le (n.trans (u.trans (o.trans (D.trans (v.trans (p.trans q))))))) (e.le (t.trans (n.trans (u.trans (o.trans (D.trans (v.trans (p.trans q)))))))) (k:=1000) j.1.szl hb.szl (by omega)).mono ?_⟩
  ·rw [b,if_pos (by simpa using F)]
  ·rintro r b9 c0 rfl
   rw [if_neg (by simpa using F)] at b
   refine ⟨_,rfl,fun he c1 eh=>?_,fun he=>⟨((i+1:Nat):Int),by dsimp only;omega,by and_intros<;>rfl,i+1,rfl,f,?_⟩⟩
   ·rw [b,if_pos (of_decide_eq_true he)]
   ·rw [b,if_neg (of_decide_eq_false he)]
 ·have d:¬(i:Int)<c.length:=of_decide_eq_false d
  obtain rfl:i=c.length:=by omega
  rw [b,List.drop_length]
  rfl
end Go.Proofs.Tryz
namespace Go.Eng
open Go.Lib
variable {P:Program}
theorem hJ (w:World)(dT sT ty elem:TypeId)(sz b o dLen dCap:Nat)(a:Addr)(sLen sCap:Nat)(cs:List Value)
  (hu:P.underlying dT=some (.slice elem))(hs:(P.info? elem).map (·.size)=some sz)(hn:cs.length=Nat.min sLen dLen*sz)
  (hsrc:∀j v,cs[j]?=some v->w.cell? (a.add j)=some v)(hc:∀j,j<cs.length->(w.cell? ⟨b,o+j,none⟩).isSome=true)(hf:∀j,j<cs.length->w.frozen? ⟨b,o+j,none⟩=false)(h1:∀v∈cs,v.oneCell'=true) :
  (Builtin.copy_ #[dT,sT] ty #[.slice (some ⟨b,o,none⟩) dLen dCap,.slice (some a) sLen sCap]).run P w=.ok (goInt (Nat.min sLen dLen)) (w.setCells b o cs):=by
 have d:=run_loadCells_list (P:=P) w a cs hsrc
 have c:=run_storeCells_cells (P:=P) b o cs 0 w (by simpa using hc) (by simpa using hf) h1
 cases hq:P.info? elem with
 | none=>simp [hq] at hs
 | some i=>
  have e:i.size=sz:=by simpa [hq] using hs
  simp [Builtin.copy_,run_underlying hu,Builtin.lenOf,Builtin.firstCells,sizeOf,typeInfo,hq,e,←hn,d,c]
theorem xf (w:World){o:Oper}{a:Act}{K:Act->World->Prop}{Q:Exit->Act->World->Prop}(d s:Operand)(t t':TypeId)
  (ho:o.op=.call { callee:=.builtin .copy,args:=#[d,s],argTypes:=#[t,t'] })(v u:Value)(hd:a.eval d=v)(hs:a.eval s=u){v':Value}{w':World}
  (hr:(Builtin.copy_ #[t,t'] o.type #[v,u]).run P w=.ok v' w')(h:K (a.put o.dst v') w'):o.wp P a w K Q:=by
 unfold Oper.wp execOp
 simp only [ho,resolve,invoke,builtin,Sem.run_bind,Sem.run_pure,Result.andThen_ok,List.map_toArray,List.map_cons,List.map_nil,hd,hs,hr]
 exact h
theorem iW (w:World){ops:Array Oper}{rest:List Oper}{o:Oper}{a:Act}{Q:Exit->Act->World->Prop}(hgd:o.guard=none)(d s:Operand)(t t':TypeId)
  (ho:o.op=.call { callee:=.builtin .copy,args:=#[d,s],argTypes:=#[t,t'] })(v u:Value)(hd:a.eval d=v)(hs:a.eval s=u){v':Value}{w':World}
  (hr:(Builtin.copy_ #[t,t'] o.type #[v,u]).run P w=.ok v' w')(h:wpList P ops Q rest (a.put o.dst v') w'):wpList P ops Q (o::rest) a w:=
 wpList_plain hgd fun _ b=>xf w d s t t' ho v u hd hs hr (b _ _ h)
theorem kk {ops:Array Oper}{o:Oper}{a:Act}{w:World}{K:Act->World->Prop}{Q:Exit->Act->World->Prop}{E:Prop}
  (hg:o.guard=none)(d x:Operand)(dT sT:TypeId)(hop:o.op=Op.call { callee:=Callee.builtin Builtin.copy,args:=#[d,x],argTypes:=#[dT,sT] })
  (v u:Value)(hd:a.eval d=v)(hx:a.eval x=u){v':Value}{w':World}(hr:(Builtin.copy_ #[dT,sT] o.type #[v,u]).run P w=.ok v' w')(hK:K (a.put o.dst v') w') :
  if Region.wanted o (yielded ops a.tmps)=true then Oper.wp P o a w K Q else E:=by
 have hw:Region.wanted o (yielded ops a.tmps)=true:=by simp [Region.wanted,hg]
 rw [if_pos hw]
 unfold Oper.wp
 simp [execOp,hop,resolve,invoke,builtin,hd,hx,hr,Result.andThen]
 exact hK
theorem dQ {w:World}{b o:Nat}{vs:List Value}{ty:TypeId}(h:w.heap[b]?=some (.cells vs.toArray ty (0,0))):w.frozen? ⟨b,o,none⟩=false:=by simp [World.frozen?,h]
theorem vd {w:World}{b:Nat}{vs:List Value}{ty:TypeId}(h:w.heap[b]?=some (.cells vs.toArray ty (0,0))):w.shape? b=some (ty,vs.length):=by simp [World.shape?,h]
theorem bo {w:World}{b o:Nat}{vs:List Value}{ty:TypeId}(h:w.heap[b]?=some (.cells vs.toArray ty (0,0))):w.cell? ⟨b,o,none⟩=vs[o]?:=cell_of_row h
theorem qV (X:Nat->Prop)(w:World):du X w w.drew:=⟨Nat.le_refl _,fun _ _ _=>rfl,rfl,rfl,rfl⟩
theorem nK (X:Nat->Prop)(w:World)(o:Obj):du X w (w.alloc o):=⟨by rw [show (w.alloc o).heap.size=w.heap.size+1 from Array.size_push ..];omega,fun b hb _=>br w o hb,rfl,rfl,rfl⟩
theorem Au {w:World}{g:Nat}{old cs:Array Value}{ty:TypeId}(h:w.heap[g]?=some (.cells old ty (0,0))):du (·=g) w (w.setRow g cs):=by
 refine ⟨?_,fun b hb a=>?_,?_,?_,?_⟩
 ·rw [cU h,Array.size_setIfInBounds];exact Nat.le_refl _
 ·rw [cU h,Array.getElem?_setIfInBounds_ne (fun e=>a e.symm)]
 all_goals simp [World.setRow,h]
theorem bS {b:Nat}{ty:TypeId}:∀(xs:List Value)(o:Nat)(vs:List Value)(w:World),w.heap[b]?=some (.cells vs.toArray ty (0,0))->o+xs.length<=vs.length ->
  (w.setCells b o xs).heap[b]?=some (.cells (vs.take o++xs++vs.drop (o+xs.length)).toArray ty (0,0))/\du (·=b) w (w.setCells b o xs)
 | [],o,vs,w,h,hl=>⟨by rw [World.setCells,List.append_nil,List.length_nil,Nat.add_zero,List.take_append_drop];exact h,du.refl _ _⟩
 | x::xs,o,vs,w,h,hl=>by
  rw [List.length_cons] at hl
  have e1:w.setCell ⟨b,o,none⟩ x=w.setRow b (vs.toArray.setIfInBounds o x):=setCell_eq_setRow w b o vs.toArray ty (0,0) x h
  have a:vs.toArray.setIfInBounds o x=(vs.set o x).toArray:=by simp
  rw [World.setCells,e1,a]
  have c:(w.setRow b (vs.set o x).toArray).heap[b]?=some (.cells (vs.set o x).toArray ty (0,0)):=setRow_heap w b vs.toArray _ ty (0,0) h
  obtain ⟨d,e⟩:=bS xs (o+1) (vs.set o x) _ c (by rw [List.length_set];omega)
  refine ⟨?_,(Au h).trans e⟩
  rw [d]
  congr 3
  rw [List.take_set,List.take_add_one,List.getElem?_eq_getElem (by omega),List.drop_set_of_lt (by omega),List.length_cons,show o+1+xs.length=o+(xs.length+1) by omega]
  rw [List.set_append_right _ _ (by rw [List.length_take];omega),List.length_take,Nat.min_eq_left (by omega),Nat.sub_self]
  simp
end Go.Eng
namespace Go.Proofs.Tryz
open Go.Eng Go.RowKit Go.Lib
theorem mo:∃i z,prog.info? 193=some i/\i.zero=some z/\i.size=17/\i.bytes=128/\z.cells.size=17:=by
 have h:=nY 193 _ rfl
 unfold iO at h
 split at h
 ·rename_i i d a c
  split at h
  ·rename_i z b
   have h:=Option.some.inj h
   injection h with h1 h2 h3 h4
   refine ⟨i,z,a,b,h2,h3,?_⟩
   have:=congrArg List.length h4
   rw [List.length_map,Array.length_toList] at this
   rw [this]
   rfl
  ·cases h
 ·cases h
theorem cK (b o j:Nat):(⟨b,o,none⟩:Addr).add j=⟨b,o+j,none⟩:=by
 unfold Addr.add
 split
 ·rename_i h;subst h;rfl
 ·rfl
theorem HF (w:World){t:TypeId}{i:TypeInfo}(h:prog.info? t=some i):(Go.sizeOf t).run prog w=.ok i.size w:=by
 simp [sizeOf,typeInfo,h]
set_option maxHeartbeats 4000000 in
set_option maxRecDepth 100000 in
theorem CW (b n c i vb:Nat)(cs vs:List Value)(w:World)(hi:i<n)(hroom:n+1<=c)(hn63:n<=1000000)(hvb:vb≠b)(hcl:c*17<=cs.length)(hvl:vs.length=17)
  (hb:w.heap[b]?=some (.cells cs.toArray 193 (0,0)))(hv:w.heap[vb]?=some (.cells vs.toArray 193 (0,0)))
  (h1c:∀v∈(cs.take (n*17)).drop (i*17),v.oneCell'=true)(h1v:∀v∈vs,v.oneCell'=true) :
  Calls prog 172 #[.slice (some ⟨b,0,none⟩) n c,.int .i64 i,.slice (some ⟨vb,0,none⟩) 1 1] w fun e w'=>
   e=.returned (.slice (some ⟨b,0,none⟩) (n+1) c)/\w'=(w.drew.setCells b ((i+1)*17) ((cs.take (n*17)).drop (i*17))).setCells b (i*17) vs:=by
 obtain ⟨X,z,G,Y,H,Z,e5⟩:=mo
 have K:¬((i:Int)=(n:Int)):=by omega
 have q:(prog.info? 193).map (·.size)=some 17:=by rw [G];simp [H]
 have y:=underlying112
 have I:=underlying111
 have L:∀w,(Go.sizeOf 193).run prog w=.ok 17 w:=fun w=>by rw [HF w G,H]
 have ru:=run_underlying y
 have rv:=run_underlying I
 have A:∀lb B,(callFunc 217 #[.slice (some ⟨vb,0,none⟩) 1 1,.slice (some ⟨b,(i+1)*17,none⟩) lb B]).run prog w=.ok (.value (.bool false)) w:=fun lb B=>by
  rw [run_callFunc_extern func217 (by kernel_rfl) (by kernel_rfl) (by kernel_rfl) (e:=Extern.SlicesOverlaps.overlaps #[111,111] #[4]) (by kernel_rfl),
   Lib.run_overlaps_apart w 111 4 193 I 17 L ⟨vb,0,none⟩ ⟨b,(i+1)*17,none⟩ 1 1 lb B hvb _ _ _ _ (vd hv) (vd hb) (by omega) (dQ hv) (dQ hv)]
  rfl
 obtain ⟨a,d⟩:∃a,a=(cs.take (n*17)).drop (i*17):=⟨_,rfl⟩
 rw [←d] at h1c ⊢
 have g:a.length=(n-i)*17:=by rw [d,List.length_drop,List.length_take];omega
 have l:∀(W:World)(o:Nat),W.heap[b]?=some (.cells cs.toArray 193 (0,0))->o<cs.length->(W.cell? ⟨b,o,none⟩).isSome=true:=fun W o M N=>by rw [bo M,List.getElem?_eq_getElem N];rfl
 have h:(w.drew).heap[b]?=some (.cells cs.toArray 193 (0,0)):=hb
 have r:∀x:Nat,Nat.min (n+1-i) (n+1-(i+1))=n-i:=fun _=>by simp only [Nat.min_def];split<;>omega
 have k:∀ty m C,(Builtin.copy_ #[112,112] ty #[.slice (some ⟨b,(i+1)*17,none⟩) (n+1-(i+1)) m,.slice (some ⟨b,i*17,none⟩) (n+1-i) C]).run prog w.drew=  .ok (goInt ((n-i:Nat):Int)) (w.drew.setCells b ((i+1)*17) a):=fun ty m C=>by
  have:=hJ (P:=prog) w.drew 112 112 ty 193 17 b ((i+1)*17) (n+1-(i+1)) m ⟨b,i*17,none⟩ (n+1-i) C a y q (by rw [r 0,g])
   (fun j v f=>by
    rw [cK b,bo h]
    rw [d,List.getElem?_drop,List.getElem?_take] at f
    split at f
    ·exact f
    ·cases f)
   (fun j f=>l _ _ h (by rw [g] at f;omega)) (fun j f=>dQ h) h1c
  rw [r 0] at this
  exact this
 obtain ⟨u,D⟩:=bS a ((i+1)*17) cs w.drew h (by rw [g];omega)
 obtain ⟨p,s⟩:∃p,p=w.drew.setCells b ((i+1)*17) a:=⟨_,rfl⟩
 rw [←s] at k u D ⊢
 have J:Nat.min 1 (n+1-i)=1:=by simp only [Nat.min_def];split<;>omega
 have E:vb<w.heap.size:=(Array.getElem?_eq_some_iff.1 hv).1
 have F:p.heap[vb]?=some (.cells vs.toArray 193 (0,0)):=by rw [D.aZ vb E hvb];exact hv
 have t:∀ty m,(Builtin.copy_ #[112,111] ty #[.slice (some ⟨b,i*17,none⟩) (n+1-i) m,.slice (some ⟨vb,0,none⟩) 1 1]).run prog p=.ok (goInt 1) (p.setCells b (i*17) vs):=fun ty m=>by
  have:=hJ (P:=prog) p 112 111 ty 193 17 b (i*17) (n+1-i) m ⟨vb,0,none⟩ 1 1 vs y q (by rw [J,hvl])
   (fun j v f=>by rw [cK vb,Nat.zero_add,bo F];exact f)
   (fun j f=>by rw [bo u,List.getElem?_eq_getElem (by rw [hvl] at f;simp only [List.length_append,List.length_take,List.length_drop,g];omega)];rfl) (fun j f=>dQ u) h1v
  rw [J] at this
  exact this
 clear u D d h1c s
 have mixed:=mixed
 have O:i64.wrap ((i:Int)+1)=(i:Int)+1:=by rw [IntKind.wrap_i64];omega
 have Q:(0:Int)<=(i:Int)+1:=by omega
 have R:i<=n:=by omega
 have S:((i:Int)+1).toNat=i+1:=by omega
 have T:¬(c=i+1):=by omega
 have U:(i:Int)<=(n:Int)+1:=by omega
 have V:¬(c=i):=by omega
 go_enter func172,ntmps172
 go_wp2_with (simp only [A])
 go_region_law_o (refine kk rfl _ _ 112 112 rfl (.slice (some ⟨b,(i+1)*17,none⟩) (n+1-(i+1)) (c-(i+1))) (.slice (some ⟨b,i*17,none⟩) (n+1-i) (c-i)) (by simp [Act.eval,Act.put]) (by simp [Act.eval,Act.put]) (k 3 _ _) ?_)
 go_wp2_with (at_builtin;refine iW _ rfl _ _ 112 111 rfl _ _ rfl rfl (t _ _) ?_)
 go_ret
 exact ⟨rfl,rfl⟩
set_option maxHeartbeats 4000000 in
set_option maxRecDepth 100000 in
theorem Gj (b n c vb:Nat)(cs vs:List Value)(w:World)(hroom:n+1<=c)(hn63:n<=1000000)(hcl:c*17<=cs.length)(hvl:vs.length=17)
  (hb:w.heap[b]?=some (.cells cs.toArray 193 (0,0)))(hv:w.heap[vb]?=some (.cells vs.toArray 193 (0,0)))(h1v:∀v∈vs,v.oneCell'=true) :
  Calls prog 172 #[.slice (some ⟨b,0,none⟩) n c,.int .i64 n,.slice (some ⟨vb,0,none⟩) 1 1] w fun e w'=>
   e=.returned (.slice (some ⟨b,0,none⟩) (n+1) c)/\w'=w.setCells b (0+n*17) vs:=by
 obtain ⟨d,z,k,o,g,p,q⟩:=mo
 have h:=underlying112
 have i:=underlying111
 have r:=run_underlying h
 have s:=run_underlying i
 have mixed:=mixed
 have a:Src prog d.size 111 (.slice (some ⟨vb,0,none⟩) 1 1) 1 vs w:=Src.ofSlice w i ⟨vb,0,none⟩ 1 1 vs (by rw [g,hvl]) (fun j u f=>by rw [cK vb,Nat.zero_add,bo hv];exact f) h1v
 have l:∀j,j<vs.length->(w.cell? ⟨b,0+n*d.size+j,none⟩).isSome=true:=fun j f=>by rw [bo hb,g,List.getElem?_eq_getElem (by rw [hvl] at f;omega)];rfl
 have m:∀j,j<vs.length->w.frozen? ⟨b,0+n*d.size+j,none⟩=false:=fun j f=>dQ hb
 go_enter func172,ntmps172
 go_wp2_with (at_builtin;refine wpList_append_room_src _ rfl _ _ 112 111 rfl 193 d h k b 0 n c rfl _ rfl 1 vs a hroom l m ?_)
 go_ret
 exact ⟨rfl,by rw [Nat.zero_add]⟩
set_option maxHeartbeats 4000000 in
set_option maxRecDepth 100000 in
theorem vZ (b n c vb:Nat)(cs vs:List Value)(w:World)(hnc:n<=c)(hroom:c<n+1)(hn63:n<=1000000)(hcl:c*17<=cs.length)(hvl:vs.length=17)
  (hb:w.heap[b]?=some (.cells cs.toArray 193 (0,0)))(hv:w.heap[vb]?=some (.cells vs.toArray 193 (0,0)))(h1v:∀v∈vs,v.oneCell'=true) :
  ∃z:Array Value,z.size=17/\Calls prog 172 #[.slice (some ⟨b,0,none⟩) n c,.int .i64 n,.slice (some ⟨vb,0,none⟩) 1 1] w fun e w'=>
   e=.returned (.slice (some ⟨w.heap.size,0,none⟩) (n+1) (grownCap w (n+1) c 193)) /\
   w'=w.drew.alloc (.cells ((cs.take (n*17)++vs).toArray++Builtin.zeroCells z (grownCap w (n+1) c 193-(n+1))) 193):=by
 obtain ⟨k,z,s,t,o,x,p⟩:=mo
 refine ⟨z.cells,p,?_⟩
 have q:=underlying112
 have r:=underlying111
 have y:=run_underlying q
 have A:=run_underlying r
 have mixed:=mixed
 have g:Src prog k.size 111 (.slice (some ⟨vb,0,none⟩) 1 1) 1 vs w:=Src.ofSlice w r ⟨vb,0,none⟩ 1 1 vs (by rw [o,hvl]) (fun j u f=>by rw [cK vb,Nat.zero_add,bo hv];exact f) h1v
 have l:(w.drew).heap[b]?=some (.cells cs.toArray 193 (0,0)):=hb
 have hold:(Builtin.firstCells k.size n (.slice (some ⟨b,0,none⟩) n c)).run prog w.drew=.ok (cs.take (n*17)).toArray w.drew:=by
  rw [o]
  exact run_firstCells_some w.drew 17 n ⟨b,0,none⟩ n c (cs.take (n*17)) (by rw [List.length_take];omega) (fun j v f=>by
   rw [cK b,Nat.zero_add,bo l]
   rw [List.getElem?_take] at f
   split at f
   ·exact f
   ·cases f)
 have a:∀ty,(Builtin.append_ #[112,111] ty #[.slice (some ⟨b,0,none⟩) n c,.slice (some ⟨vb,0,none⟩) 1 1]).run prog w=_:=fun ty=>
  run_append_grow_src w 112 111 ty 193 k z q s t (some ⟨b,0,none⟩) n c (cs.take (n*17)) hold _ 1 vs g hroom (by omega) (by rw [x];exact growslice_fits hroom (by omega))
 obtain ⟨m,h⟩:∃m,m=z.cells:=⟨_,rfl⟩
 rw [←h] at a ⊢
 obtain ⟨i,d⟩:∃i:Array Value,i=(cs.take (n*17)++vs).toArray++Builtin.zeroCells m (grownCap w (n+1) c 193-(n+1)):=⟨_,rfl⟩
 rw [←d] at a ⊢
 clear h p hold d
 go_enter func172,ntmps172
 go_wp2_with (at_builtin;refine Lib.wpList_append_run _ rfl _ _ _ _ rfl _ _ rfl rfl _ _ (a _) ?_)
 all_goals (go_ret;exact ⟨rfl,rfl⟩)
set_option maxHeartbeats 4000000 in
set_option maxRecDepth 100000 in
theorem Eo (b n c i vb:Nat)(cs vs:List Value)(w:World)(hi:i<n)(hnc:n<=c)(hroom:c<n+1)(hn63:n<=1000000)(hvb:vb≠b)(hcl:c*17<=cs.length)(hvl:vs.length=17)
  (hb:w.heap[b]?=some (.cells cs.toArray 193 (0,0)))(hv:w.heap[vb]?=some (.cells vs.toArray 193 (0,0)))
  (h1c:∀v∈(cs.take (n*17)).drop (i*17),v.oneCell'=true)(h1v:∀v∈vs,v.oneCell'=true) :
  ∃z:Array Value,z.size=17/\Calls prog 172 #[.slice (some ⟨b,0,none⟩) n c,.int .i64 i,.slice (some ⟨vb,0,none⟩) 1 1] w fun e w'=>
   e=.returned (.slice (some ⟨w.heap.size,0,none⟩) (n+1) (grownCap w (n+1) c 193)) /\
   w'=(((w.alloc (.cells ((cs.take (i*17)).toArray++Builtin.zeroCells z (n+1-i)++Builtin.zeroCells z (grownCap w (n+1) c 193-(n+1))) 193)).drew.setCells w.heap.size (i*17) vs).drew).setCells w.heap.size ((i+1)*17) ((cs.take (n*17)).drop (i*17)):=by
 obtain ⟨X,z,I,e2,J,Y,D⟩:=mo
 refine ⟨z.cells,D,?_⟩
 have E:=underlying112
 have uV:=underlying111
 have uI:=underlying3
 have ru:=run_underlying E
 have rv:=run_underlying uV
 have rz:∀w,(Go.sizeOf 193).run prog w=.ok 17 w:=fun w=>by rw [HF w I,J]
 have mixed:=mixed
 have a2:¬((i:Int)=(n:Int)):=by omega
 have a3:(c:Int)<(n:Int)+1:=by omega
 have A:(prog.info? 193).map (·.size)=some 17:=by rw [I];simp [J]
 have K:b<w.heap.size:=(Array.getElem?_eq_some_iff.1 hb).1
 have L:vb<w.heap.size:=(Array.getElem?_eq_some_iff.1 hv).1
 have B:(n:Int)+1-(i:Int)=((n+1-i:Nat):Int):=by omega
 have s:i+(n+1-i)=n+1:=by omega
 have M:(w.drew).heap[b]?=some (.cells cs.toArray 193 (0,0)):=hb
 have hold:(Builtin.firstCells X.size i (.slice (some ⟨b,0,none⟩) i c)).run prog w.drew=.ok (cs.take (i*17)).toArray w.drew:=by
  rw [J]
  exact run_firstCells_some w.drew 17 i ⟨b,0,none⟩ i c (cs.take (i*17)) (by rw [List.length_take];omega) (fun j v d=>by
   rw [cK b,Nat.zero_add,bo M]
   rw [List.getElem?_take] at d
   split at d
   ·exact d
   ·cases d)
 obtain ⟨p,t⟩:∃p,p=z.cells:=⟨_,rfl⟩
 rw [←t] at D ⊢
 have o:∀ty,(Builtin.append_ #[112,3] ty #[.slice (some ⟨b,0,none⟩) i c,.int .i64 ((n:Int)+1-(i:Int))]).run prog w =
   .ok (.slice (some ⟨w.heap.size,0,none⟩) (n+1) (grownCap w (n+1) c 193)) (w.drew.alloc (.cells ((cs.take (i*17)).toArray++Builtin.zeroCells p (n+1-i)++Builtin.zeroCells p (grownCap w (n+1) c 193-(n+1))) 193)):=fun ty=>by
  have h:=Lib.run_append_grow_zeros w 112 3 ty 193 X z .i64 .i64 E uI I e2 (some ⟨b,0,none⟩) i c (cs.take (i*17)) hold (n+1-i) (by omega) (by omega) (by omega) (by omega) (by rw [Y];omega) (by rw [Y,s];exact growslice_fits hroom (by omega))
  rw [s,←t] at h
  rw [B]
  exact h
 obtain ⟨G,F⟩:∃G,G=grownCap w (n+1) c 193:=⟨_,rfl⟩
 obtain ⟨a,k⟩:∃a:List Value,a.toArray=(cs.take (i*17)).toArray++Builtin.zeroCells p (n+1-i)++Builtin.zeroCells p (G-(n+1)):=⟨((cs.take (i*17)).toArray++Builtin.zeroCells p (n+1-i)++Builtin.zeroCells p (G-(n+1))).toList,by simp⟩
 rw [←F] at o ⊢
 rw [←k] at o ⊢
 have N:(n+1)*17<=a.length:=by
  have:=congrArg Array.size k
  simp [Builtin.zeroCells,D] at this
  omega
 obtain ⟨l,g⟩:∃l,l=(cs.take (n*17)).drop (i*17):=⟨_,rfl⟩
 rw [←g] at h1c ⊢
 have u:l.length=(n-i)*17:=by rw [g,List.length_drop,List.length_take];omega
 obtain ⟨q,f⟩:∃q,q=w.drew.alloc (.cells a.toArray 193):=⟨_,rfl⟩
 rw [←f] at o
 have H:q.heap[w.heap.size]?=some (.cells a.toArray 193 (0,0)):=by rw [f];exact Array.getElem?_push_size
 have O:q.heap[b]?=some (.cells cs.toArray 193 (0,0)):=by rw [f];exact (br w.drew _ K).trans hb
 have Z:q.heap[vb]?=some (.cells vs.toArray 193 (0,0)):=by rw [f];exact (br w.drew _ L).trans hv
 have Q:Nat.min 1 (n+1-i)=1:=by simp only [Nat.min_def];split<;>omega
 have m:∀(W:World),W.heap=q.heap->∀ty x,(Builtin.copy_ #[112,111] ty #[.slice (some ⟨w.heap.size,i*17,none⟩) (n+1-i) x,.slice (some ⟨vb,0,none⟩) 1 1]).run prog W=.ok (goInt 1) (W.setCells w.heap.size (i*17) vs):=fun W y ty x=>by
  have:=hJ (P:=prog) W 112 111 ty 193 17 w.heap.size (i*17) (n+1-i) x ⟨vb,0,none⟩ 1 1 vs E A (by rw [Q,hvl])
   (fun j v d=>by rw [cK vb,Nat.zero_add,bo (by rw [y];exact Z)];exact d)
   (fun j d=>by rw [bo (by rw [y];exact H),List.getElem?_eq_getElem (by omega)];rfl) (fun j d=>dQ (by rw [y];exact H)) h1v
  rw [Q] at this
  exact this
 have R:b≠w.heap.size:=by omega
 have S:Nat.min (n-i) (n+1-(i+1))=n-i:=by simp only [Nat.min_def];split<;>omega
 have r:∀(W:World),W.heap=q.heap->∀ty x T,(Builtin.copy_ #[112,112] ty #[.slice (some ⟨w.heap.size,(i+1)*17,none⟩) (n+1-(i+1)) x,.slice (some ⟨b,i*17,none⟩) (n-i) T]).run prog (W.setCells w.heap.size (i*17) vs).drew=.ok (goInt ((n-i:Nat):Int)) ((W.setCells w.heap.size (i*17) vs).drew.setCells w.heap.size ((i+1)*17) l):=fun W y ty x T=>by
  obtain ⟨g1,g2⟩:=bS vs (i*17) a W (by rw [y];exact H) (by omega)
  have U:(W.setCells w.heap.size (i*17) vs).drew.heap[b]?=some (.cells cs.toArray 193 (0,0)):=by
   have:=g2.aZ b (by rw [y];exact (Array.getElem?_eq_some_iff.1 O).1) R
   rw [y,O] at this
   exact this
  have C:(W.setCells w.heap.size (i*17) vs).drew.heap[w.heap.size]?=_:=g1
  have:=hJ (P:=prog) (W.setCells w.heap.size (i*17) vs).drew 112 112 ty 193 17 w.heap.size ((i+1)*17) (n+1-(i+1)) x ⟨b,i*17,none⟩ (n-i) T l E A (by rw [S,u])
   (fun j v d=>by
    rw [cK b,bo U]
    rw [g,List.getElem?_drop,List.getElem?_take] at d
    split at d
    ·exact d
    ·cases d)
   (fun j d=>by rw [bo C,List.getElem?_eq_getElem (by rw [u] at d;simp only [List.length_append,List.length_take,List.length_drop,hvl];omega)];rfl) (fun j d=>dQ C) h1c
  rw [S] at this
  exact this
 have a4:n+1<=G:=by rw [F];exact grownCap_ge w _ _ _
 have a0:G<=9223372036854775807:=by
  have:=grownCap_le_maxLen w (n+1) c 193 (by unfold maxLen;omega)
  rw [←F] at this
  unfold maxLen at this
  omega
 have a5:¬(G=i):=by omega
 have a1:¬(G=i+1):=by omega
 have a6:¬(c=i):=by omega
 have hA:=m ((w.alloc (.cells a.toArray 193)).drew) (by rw [f];rfl)
 have a7:=m q rfl
 have V:=r ((w.alloc (.cells a.toArray 193)).drew) (by rw [f];rfl)
 subst f
 have a8:i64.wrap ((i:Int)+1)=(i:Int)+1:=by rw [IntKind.wrap_i64];omega
 have a9:i64.wrap ((n:Int)+1)=(n:Int)+1:=by rw [IntKind.wrap_i64];omega
 have b0:(0:Int)<=(i:Int)+1:=by omega
 have b5:i<=n:=by omega
 have b6:((i:Int)+1).toNat=i+1:=by omega
 have b7:(i:Int)<=(n:Int):=by omega
 clear B s hold k F N m r H O Z t D g h1c Q S u
 go_enter func172,ntmps172
 go_wp2_with (first
  | (at_builtin;refine Lib.wpList_append_run _ rfl _ _ _ _ rfl _ _ rfl rfl _ _ (o _) ?_)
  | (at_builtin;refine iW _ rfl _ _ 112 111 rfl _ _ rfl rfl (hA _ _) ?_))
 go_region_law_o (refine kk rfl _ _ 112 112 rfl (.slice (some ⟨w.heap.size,(i+1)*17,none⟩) (n+1-(i+1)) (G-(i+1))) (.slice (some ⟨b,i*17,none⟩) (n-i) (c-i)) (by simp [Act.eval,Act.put]) (by simp [Act.eval,Act.put]) (V 3 (G-(i+1)) (c-i)) ?_)
 go_wp2
 go_ret
 exact ⟨rfl,rfl⟩
end Go.Proofs.Tryz
namespace Go.Proofs.Tryz
open Go.Eng
theorem I3 {α:Type}{A B:List α}{k:Nat}(h:k<=A.length):(A.take k++B).drop k=B:=by
 rw [List.drop_append_of_le_length (by rw [List.length_take];omega),List.drop_eq_nil_of_le (by rw [List.length_take];omega),List.nil_append]
theorem Li {α:Type}{A B:List α}{j k:Nat}(hj:j<=k)(h:k<=A.length):(A.take k++B).take j=A.take j:=by
 rw [List.take_append_of_le_length (by rw [List.length_take];omega),List.take_take,Nat.min_eq_left hj]
theorem DU {V:View}{ob vb n c i:Nat}{vs xs:List Value}(hs:V.w.heap[ob]?=some (.cells vs.toArray 193 (0,0)))(hx:V.X ob)(hv:V.w.heap[vb]?=some (.cells xs.toArray 193 (0,0)))
  (hne:ob≠vb)(hi:i<=n)(hnc:n<=c)(hc:n<=1000000)(hcl:c*17<=vs.length)(hl:xs.length=17)(h1c:∀v∈(vs.take (n*17)).drop (i*17),v.oneCell'=true)(h1v:∀v∈xs,v.oneCell'=true) :
  Acts prog 172 #[.slice (some ⟨ob,0,none⟩) n c,.int .i64 i,.slice (some ⟨vb,0,none⟩) 1 1] V fun r V'=>∃(q c':Nat)(sp:List Value),r=.slice (some ⟨q,0,none⟩) (n+1) c' /\
   V'.w.heap[q]?=some (.cells (vs.take (i*17)++(xs++(vs.take (n*17)).drop (i*17))++sp).toArray 193 (0,0))/\(V.w.heap.size<=q\/q=ob)/\n+1<=c'/\c'*17<=(n+1)*17+sp.length /\
   V'.w.heap[vb]?=some (.cells xs.toArray 193 (0,0)):=by
 refine ⟨⟨f172,func172,rfl,by kernel_rfl⟩,?_⟩
 have L:ob<V.w.heap.size:=(Array.getElem?_eq_some_iff.1 hs).1
 have g:vb<V.w.heap.size:=(Array.getElem?_eq_some_iff.1 hv).1
 have d:((vs.take (n*17)).drop (i*17)).length=(n-i)*17:=by rw [List.length_drop,List.length_take];omega
 by_cases t:n+1<=c
 ·by_cases l:i<n
  ·refine (CW ob n c i vb vs xs V.w l t hc (fun e=>hne e.symm) hcl hl hs hv h1c h1v).mono ?_
   rintro e y ⟨m,rfl⟩
   obtain ⟨A,h⟩:=bS ((vs.take (n*17)).drop (i*17)) ((i+1)*17) vs V.w.drew hs (by rw [d];omega)
   have M:(vs.take ((i+1)*17)).length=(i+1)*17:=by rw [List.length_take];omega
   obtain ⟨s,f⟩:=bS xs (i*17) _ _ A (by simp only [List.length_append,M,d];omega)
   have ex:=((qV (·=ob) V.w).trans h).trans f
   refine ⟨_,m,ex.mono fun b e=>e▸hx,ob,c,vs.drop ((i+1)*17+((vs.take (n*17)).drop (i*17)).length),rfl,?_,.inr rfl,t,?_,?_⟩
   ·refine s.trans ?_
    congr 3
    rw [List.append_assoc,hl,List.append_assoc (vs.take ((i+1)*17)),Li (by omega) (by omega),show i*17+17=(i+1)*17 by omega,I3 (by omega)]
    simp only [List.append_assoc]
   ·rw [List.length_drop,d];omega
   ·exact (ex.aZ vb g fun e=>hne e.symm).trans hv
  ·obtain rfl:i=n:=by omega
   refine (Gj ob i c vb vs xs V.w t hc hcl hl hs hv h1v).mono ?_
   rintro e y ⟨m,rfl⟩
   obtain ⟨s,f⟩:=bS xs (0+i*17) vs V.w hs (by omega)
   refine ⟨_,m,f.mono fun b e=>e▸hx,ob,c,vs.drop (0+i*17+xs.length),rfl,?_,.inr rfl,t,?_,?_⟩
   ·refine s.trans ?_
    congr 3
    rw [show (vs.take (i*17)).drop (i*17)=[] from List.drop_eq_nil_of_le (by rw [List.length_take];omega),Nat.zero_add,List.append_nil]
   ·rw [List.length_drop];omega
   ·exact (f.aZ vb g fun e=>hne e.symm).trans hv
 ·by_cases l:i<n
  ·obtain ⟨z,B,C⟩:=Eo ob n c i vb vs xs V.w l hnc (by omega) hc (fun e=>hne e.symm) hcl hl hs hv h1c h1v
   refine C.mono ?_
   rintro e y ⟨m,rfl⟩
   have D:=Go.grownCap_ge V.w (n+1) c 193
   generalize Go.grownCap V.w (n+1) c 193=G at *
   obtain ⟨a,j⟩:∃a:List Value,a.toArray=(vs.take (i*17)).toArray++Builtin.zeroCells z (n+1-i)++Builtin.zeroCells z (G-(n+1)):=⟨((vs.take (i*17)).toArray++Builtin.zeroCells z (n+1-i)++Builtin.zeroCells z (G-(n+1))).toList,by simp⟩
   have I:a=vs.take (i*17)++((Builtin.zeroCells z (n+1-i)).toList++(Builtin.zeroCells z (G-(n+1))).toList):=by
    have:=congrArg Array.toList j
    simpa using this
   have p:∀k,(Builtin.zeroCells z k).toList.length=k*17:=fun k=>by simp [Builtin.zeroCells,B]
   have u:(vs.take (i*17)).length=i*17:=by rw [List.length_take];omega
   have E:a.length=i*17+(n+1-i)*17+(G-(n+1))*17:=by rw [I];simp only [List.length_append,p,u];omega
   rw [←j]
   have N:(V.w.alloc (.cells a.toArray 193)).drew.heap[V.w.heap.size]?=some (.cells a.toArray 193 (0,0)):=Array.getElem?_push_size
   have x:du (·=ob) V.w (V.w.alloc (.cells a.toArray 193)).drew:=(nK _ _ _).trans (qV _ _)
   obtain ⟨A,h⟩:=bS xs (i*17) a _ N (by omega)
   obtain ⟨s,f⟩:=bS ((vs.take (n*17)).drop (i*17)) ((i+1)*17) _ (World.drew _) A (by simp only [List.length_append,List.length_take,List.length_drop,d];omega)
   have F:V.w.heap.size<=_:=x.size
   have J:∀{X:Nat->Prop},du X V.w _:=fun {X}=>by
    refine ⟨Nat.le_trans F (Nat.le_trans h.size f.size),fun b hb _=>?_,?_,?_,?_⟩
    ·exact (f.aZ b (Nat.lt_of_lt_of_le hb (Nat.le_trans F h.size)) (by omega)).trans ((h.aZ b (Nat.lt_of_lt_of_le hb F) (by omega)).trans ((nK (fun _=>False) V.w (.cells a.toArray 193)).aZ b hb id))
    ·exact f.os.trans (h.os.trans x.os)
    ·exact f.tape.trans (h.tape.trans x.tape)
    ·exact f.out.trans (h.out.trans x.out)
   refine ⟨_,m,J,V.w.heap.size,G,(a.drop ((n+1)*17)),rfl,?_,.inl (Nat.le_refl _),D,?_,?_⟩
   ·refine s.trans ?_
    have K:a.take (i*17)=vs.take (i*17):=by rw [I,List.take_append_of_le_length (by rw [u];exact Nat.le_refl _),List.take_of_length_le (by rw [u];exact Nat.le_refl _)]
    have H:(a.take (i*17)++xs).length=(i+1)*17:=by rw [List.length_append,K,u,hl];omega
    have O:(a.take (i*17)++xs++a.drop (i*17+xs.length)).take ((i+1)*17)=a.take (i*17)++xs:=by rw [←H,List.take_left'];rfl
    have P:(a.take (i*17)++xs++a.drop (i*17+xs.length)).drop ((i+1)*17+((vs.take (n*17)).drop (i*17)).length)=a.drop ((n+1)*17):=by
     rw [List.drop_append,List.drop_eq_nil_of_le (by rw [H];omega),List.nil_append,List.drop_drop,H,d,hl]
     congr 1;omega
    rw [O,P,K]
    simp only [List.append_assoc]
   ·rw [List.length_drop,E];omega
   ·exact (@J fun _=>False).aZ vb g id |>.trans hv
  ·obtain rfl:i=n:=by omega
   obtain ⟨z,B,C⟩:=vZ ob i c vb vs xs V.w hnc (by omega) hc hcl hl hs hv h1v
   refine C.mono ?_
   rintro e y ⟨m,rfl⟩
   have D:=Go.grownCap_ge V.w (i+1) c 193
   generalize Go.grownCap V.w (i+1) c 193=G at *
   have p:∀k,(Builtin.zeroCells z k).toList.length=k*17:=fun k=>by simp [Builtin.zeroCells,B]
   have ex:∀{X:Nat->Prop} {o:Obj},du X V.w (V.w.drew.alloc o):=(qV _ _).trans (nK _ _ _)
   refine ⟨_,m,ex,V.w.heap.size,G,(Builtin.zeroCells z (G-(i+1))).toList,rfl,?_,.inl (Nat.le_refl _),D,?_,?_⟩
   ·refine (Array.getElem?_push_size (xs:=V.w.heap)).trans ?_
    congr 2
    rw [show (vs.take (i*17)).drop (i*17)=[] from List.drop_eq_nil_of_le (by rw [List.length_take];omega),List.append_nil]
    apply Array.ext'
    simp
   ·rw [p];omega
   ·exact ((ex (X:=fun _=>False)).aZ vb g id).trans hv
end Go.Proofs.Tryz
