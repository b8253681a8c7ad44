import Derived.Test.YtmamnfmhdcahmaaGreatDoorW20
import Derived.Test.YtmamnfmhdcahmaaGreatDoorW10
set_option linter.all false
open Go.IntKind (i64 u64 u32)
open Go.Value renaming slice→pT,agg→dB,bool→Õ,pointer→qvZ,tuple→æ,int→Ô
namespace Go.Proofs.Tryz
open Go.Eng Go.Big
open Go.Value renaming slice→pT,agg→dB,bool→Õ,pointer→qvZ,tuple→æ,int→Ô
variable{c lb n:Nat}{vs:List Value}{l m:L3}{V:Ó}{p:OA}{v:Value}{s:Sp}
theorem pE {V:un}{l:zA (L3×Sp)}(hw:V.w.heap[lb]?=some (.cells vs.toArray 80 (0,0)))(E:V.X lb)(h:vB V n vs l){a b k:Nat}(hab:a+k<=b)(M:b+k<=l.length:=by omega):À 294 #[pT (some ⟨lb,0,none⟩) n c,Ô .i64 a,Ô .i64 b,Ô .i64 k,.func (.func 116) #[] #[]] V λr W=>r=æ #[]/\∃F l',W.w.heap[lb]?=some (.cells F.toArray 80 (0,0))/\vB W n F l'/\Wm fY l l' a b k:=by have iY:=h.iY;have len:=h.len;refine kn lb n c vs a b k V _ hw E ⟨λz V'=>∃(i:Nat)(m:zA (L3×Sp)),z.1=(i:Int)/\i<=k/\vB V' n z.2 m/\Wm fY l m a b i,λz=>(k-z.1).toNat,⟨(0,vs),σ,0,l,rfl,ã _,h,.nil⟩,?_⟩;rintro ⟨z,us⟩ x y ⟨i,m,e,A,f,E⟩;dsimp only at e f;subst e;dsimp only;have B:=E.qJ.len;refine ⟨rfl,λd=>?_,λd C D g=>⟨rfl,us,m,g,ra,?_⟩⟩;{have d:(i:Int)<k:=Á d;have o:i64.wrap ((a:Int)+i)=((a+i:Nat):Int):=by{rw [au ω];omega};have p:i64.wrap ((b:Int)+i)=((b+i:Nat):Int):=by{rw [au ω];omega};have q:i64.wrap ((i:Int)+1)=((i+1:Nat):Int):=by{rw [au ω];omega};rw [o,p,q,Ü,Ü];have ⟨_,_,_,_,_,_,_,_,_,_,_,_,_,_,_,_,_,s,t⟩:=f.get (k:=b+i) ω;have ⟨_,_,_,_,_,_,_,_,_,_,_,_,_,_,_,_,_,u,v⟩:=f.get (k:=a+i) ω;obtain ⟨s1,s2,s3⟩:=f.swap (i:=a+i) (j:=b+i) ω ω v t;exact ⟨ū,_,_,_,_,_,_,_,_,_,_,_,_,_,_,_,_,_,s,ū,_,_,_,_,_,_,_,_,_,_,_,_,_,_,_,_,_,u,ū,s1,ū,s2,(((i+1:Nat):Int),_),ω,σ,i+1,_,rfl,ω,s3,E.snoc ω ω⟩};{have d:¬(i:Int)<k:=Â d;obtain rfl:i=k:=ω;exact E}
theorem QK {V:un}{l:zA (L3×Sp)}(hw:V.w.heap[lb]?=some (.cells vs.toArray 80 (0,0)))(hx:V.X lb)(h:vB V n vs l){a m b:Nat}(ham:a<m)(hmb:m<b)(hb:b<=l.length:=by omega):À 276 #[pT (some ⟨lb,0,none⟩) n c,Ô .i64 a,Ô .i64 m,Ô .i64 b,.func (.func 116) #[] #[]] V λr W=>r=æ #[]/\∃vs' l',W.w.heap[lb]?=some (.cells vs'.toArray 80 (0,0))/\vB W n vs' l'/\Ea fY l l' a m b:=by
 have iY:=h.iY;have len:=h.len;have L:i64.wrap ((m:Int)-a)=((m-a:Nat):Int):=by rw [au ω];omega
 have M:i64.wrap ((b:Int)-m)=((b-m:Nat):Int):=by rw [au ω];omega
 refine mu lb n c vs a m b V _ hw hx ⟨λz V'=>∃(i j:Nat)(g:zA (L3×Sp)),z.1=(i:Int)/\z.2.1=(j:Int)/\0<i/\0<j/\a+i<=m/\m+j<=b/\vB V' n z.2.2 g/\g.length=l.length/\∀l',Ea fY g l' (m-i) m (m+j)->Ea fY l l' a m b,λz=>(z.1+z.2.1).toNat,
  ⟨(_,_,vs),σ,m-a,b-m,l,L,M,ω,ω,ω,ω,h,rfl,λl' h=>by rwa [show m-(m-a)=a by omega,show m+(b-m)=b by omega] at h⟩,?_⟩
 rintro ⟨T,U,us⟩ W Y ⟨i,j,g,G,H,N,O,y,A,x,I,B⟩;dsimp only at G H x;subst G H;dsimp only;have P:i64.wrap ((m:Int)-i)=((m-i:Nat):Int):=by rw [au ω];omega
 have Q:i64.wrap ((m:Int)+j)=((m+j:Nat):Int):=by rw [au ω];omega
 have R:i64.wrap (((m+j:Nat):Int)-i)=((m+j-i:Nat):Int):=by rw [au ω];omega
 rw [P,Q,R];refine ⟨rfl,λC=>⟨λf V2 q s t u=>?_,λf V2 q s t u=>?_⟩,λheq V2 q s t u=>?_⟩
 ·have f:(i:Int)>j:=Á f;have D:i64.wrap ((i:Int)-j)=((i-j:Nat):Int):=by rw [au ω];omega
  refine (pE (V:=V2.aw [s]) t ⟨ψ,u⟩ (x.le λb o h=>q b o h) (a:=m-i) (b:=m) (k:=j) ω).s λr J K ⟨rfl,ws,k,v,p,d⟩=>⟨rfl,ws,v,(((i-j:Nat):Int),(j:Int),ws),by dsimp only;omega,by and_intros<;>first|rfl|exact D,i-j,j,k,rfl,rfl,ω,O,ω,A,p.le λb o h=>h,d.qJ.len.m I,λl' h=>B l' (rot_gt ω ω d h)⟩
 ·have f:¬(i:Int)>j:=Â f;have E:i≠j:=λe=>by subst e;simp at C
  have D:i64.wrap ((j:Int)-i)=((j-i:Nat):Int):=by rw [au ω];omega
  refine (pE (V:=V2.aw [s]) t ⟨ψ,u⟩ (x.le λb o h=>q b o h) (a:=m-i) (b:=m+j-i) (k:=i) ω).s λr J K ⟨rfl,ws,k,v,p,d⟩=>⟨rfl,ws,v,((i:Int),((j-i:Nat):Int),ws),by dsimp only;omega,by and_intros<;>first|rfl|exact D,i,j-i,k,rfl,rfl,N,ω,y,ω,p.le λb o h=>h,d.qJ.len.m I,λl' h=>B l' (rot_lt ω ω d h)⟩
 ·have E:(i:Int)=j:=by{simpa using heq};obtain rfl:i=j:=ω;refine (pE (V:=V2.aw [s]) t ⟨ψ,u⟩ (x.le λb o h=>q b o h) (a:=m-i) (b:=m) (k:=i) ω).s λr J K ⟨rfl,ws,k,v,p,d⟩=>⟨rfl,ws,v,λZ S F=>⟨rfl,ws,k,F,p.le λb o h=>S b o h,B k (rot_eq ω d)⟩⟩
theorem HQ {x y:Nat}(h:x+y<2^62:=by omega):i64.wrap ((u64.wrap (i64.wrap ((x:Int)+y))).fdiv (2^1))=(((x+y)/2:Nat):Int):=by have e:(x:Int)+y=((x+y:Nat):Int):=ω;rw [e,au (x:=((x+y:Nat):Int)) ω,bq ω,jT,au ω]
set_option maxHeartbeats 4000000 in
theorem mI:∀(N:Nat) {V:un} {lb n c:Nat} {vs:zA um} {l:zA (L3×Sp)},V.w.heap[lb]?=some (.cells vs.toArray 80 (0,0))->V.X lb->vB V n vs l->∀{a m b:Nat},b<=a+N->a<m->m<b->b<=l.length->qf uD fY l a m->qf uD fY l m b ->À 247 #[pT (some ⟨lb,0,none⟩) n c,Jq a,Jq m,Jq b,.func (.func 116) #[] #[]] V λr W=>r=æ #[]/\My lb n l a b W λl'=>qf uD fY l' a b
 | 0,_,_,_,_,_,_,_,_,_,a,m,b,h1,h2,h3,_,_,_=>ω
 | N+1,V,lb,n,c,vs,l,hw,hx,h,a,m,b,hN,ham,hmb,hb,ua,ub=>by
  have iY:=h.iY;have len:=h.len;have f:=U2;have a5:i64.wrap ((m:Int)-a)=((m-a:Nat):Int):=by rw [au ω];omega
  have a6:i64.wrap ((b:Int)-m)=((b-m:Nat):Int):=by rw [au ω];omega
  have Q:i64.wrap ((u64.wrap (i64.wrap ((a:Int)+b))).fdiv (2^1))=(((a+b)/2:Nat):Int):=HQ;have hM:a<(a+b)/2/\(a+b)/2<b/\a+b<2*((a+b)/2)+2/\2*((a+b)/2)<a+b+1:=ω
  generalize (a+b)/2=mid at *;have wn:i64.wrap ((mid:Int)+m)=((mid+m:Nat):Int):=by rw [au ω];omega
  have wp:i64.wrap (((mid+m:Nat):Int)-1)=((mid+m-1:Nat):Int):=by rw [au ω];omega
  refine kS lb n c vs a m b V _ hw hx ?_;rw [a5,a6,Q,wn,wp];refine ⟨λc1=>?_,λc1=>⟨λc2=>?_,λc2=>⟨φ,?_⟩⟩⟩
  ·
   obtain rfl:m=a+1:=by have:=Ê c1;omega
   refine ⟨λz V'=>∃i j:Nat,z.1=(i:Int)/\z.2=(j:Int)/\a+1<=i/\i<=j/\j<=b/\(∀y,a+1<=y->y<i->uD (l.getD y fY) (l.getD a fY)<0)/\∀y,j<=y->y<b->¬uD (l.getD y fY) (l.getD a fY)<0,λz=>(z.2-z.1).toNat,
    ⟨(_,_),σ,a+1,b,rfl,rfl,Ù _,ω,Ù _,λy h1 h2=>ω,λy h1 h2=>ω⟩,?_⟩
   rintro ⟨R,z2⟩ V1 l1 ⟨i,j,u,F,H,S,I,J,v⟩;dsimp only at u F;subst u F;dsimp only;refine ⟨rfl,λd=>⟨φ,?_⟩,λd=>?_⟩
   ·have d:(i:Int)<j:=Á d;rw [HQ];have hH:i<=(i+j)/2/\(i+j)/2<j:=ω
    generalize (i+j)/2=k at *;have T:i64.wrap ((k:Int)+1)=((k+1:Nat):Int):=by rw [au ω];omega
    rw [T,Ü,Ü];have ⟨_,_,_,_,_,_,_,_,_,_,_,_,_,_,_,_,_,A,M⟩:=h.get (k:=k) ω;have ⟨_,_,_,_,_,_,_,_,_,_,_,_,_,_,_,_,_,t,O⟩:=h.get (k:=a) ω;refine ⟨ū,_,_,_,_,_,_,_,_,_,_,_,_,_,_,_,_,_,A,ū,_,_,_,_,_,_,_,_,_,_,_,_,_,_,_,_,_,t,λV2 l2=>(oY ra ra).s ?_⟩;rintro r V3 l3 rfl;refine ⟨_,rfl,λp=>⟨(((k+1:Nat):Int),(j:Int)),ω,σ,k+1,j,rfl,rfl,ω,ω,I,λy h1 h2=>?_,v⟩,λp=>⟨((i:Int),(k:Int)),ω,σ,i,k,rfl,rfl,H,ω,ω,J,λy h1 h2=>?_⟩⟩
    ·have p:=Á p;exact Qv0 λg=>f.tr _ _ _ (ub.le f h1 (show y<=k by omega) ω) g p
    ·exact f.tr _ _ _ (ub.le f ω h1 h2) (Â p)
   ·have d:¬(i:Int)<j:=Â d;obtain rfl:i=j:=ω
    have w4:i64.wrap ((i:Int)-1)=((i-1:Nat):Int):=by rw [au ω];omega
    rw [w4];refine ⟨λz V'=>∃(k:Nat)(g:zA (L3×Sp)),z.1=(k:Int)/\a<=k/\k+1<=i/\vB V' n z.2 g/\Ea fY l g a (a+1) (k+1),λz=>(i-z.1).toNat,⟨((a:Int),vs),σ,a,l,rfl,Ù _,H,ra,.nil2⟩,?_⟩;rintro ⟨R,us⟩ V4 l4 ⟨k,g,u,a7,b5,E,C⟩;dsimp only at u E;subst u;dsimp only;have gl:=C.qJ.len;refine ⟨rfl,λd=>?_,λd V5 l5 P=>⟨rfl,us,g,P,ra,C.qJ.wide (Ù _) ω,?_⟩⟩
    ·have d:(k:Int)<((i-1:Nat):Int):=Á d;have U:i64.wrap ((k:Int)+1)=((k+1:Nat):Int):=by rw [au ω];omega
     rw [U,Ü,Ü];have ⟨_,_,_,_,_,_,_,_,_,_,_,_,_,_,_,_,_,A,M⟩:=E.get (k:=k+1) ω;have ⟨_,_,_,_,_,_,_,_,_,_,_,_,_,_,_,_,_,t,O⟩:=E.get (k:=k) ω;obtain ⟨s1,s2,s3⟩:=E.swap (i:=k) (j:=k+1) ω ω O M;exact ⟨ū,_,_,_,_,_,_,_,_,_,_,_,_,_,_,_,_,_,A,ū,_,_,_,_,_,_,_,_,_,_,_,_,_,_,_,_,_,t,ū,s1,ū,s2,(((k+1:Nat):Int),_),ω,σ,k+1,_,rfl,ω,ω,s3,rot_up C a7⟩
    ·have d:¬(k:Int)<((i-1:Nat):Int):=Â d;obtain rfl:i=k+1:=ω
     exact asc_up H I C ub J v f
  ·
   obtain rfl:b=m+1:=by have:=Ê c2;omega
   refine ⟨λz V'=>∃i j:Nat,z.1=(i:Int)/\z.2=(j:Int)/\a<=i/\i<=j/\j<=m/\(∀x,a<=x->x<i->¬uD (l.getD m fY) (l.getD x fY)<0)/\∀x,j<=x->x<m->uD (l.getD m fY) (l.getD x fY)<0,λz=>(z.2-z.1).toNat,
    ⟨(_,_),σ,a,m,rfl,rfl,Ù _,ω,Ù _,λy h1 h2=>ω,λy h1 h2=>ω⟩,?_⟩
   rintro ⟨R,z2⟩ V1 l1 ⟨i,j,u,F,H,S,I,J,v⟩;dsimp only at u F;subst u F;dsimp only;refine ⟨rfl,λd=>⟨φ,?_⟩,λd=>?_⟩
   ·have d:(i:Int)<j:=Á d;rw [HQ];have hH:i<=(i+j)/2/\(i+j)/2<j:=ω
    generalize (i+j)/2=k at *;have T:i64.wrap ((k:Int)+1)=((k+1:Nat):Int):=by rw [au ω];omega
    rw [T,Ü,Ü];have ⟨_,_,_,_,_,_,_,_,_,_,_,_,_,_,_,_,_,A,M⟩:=h.get (k:=m) ω;have ⟨_,_,_,_,_,_,_,_,_,_,_,_,_,_,_,_,_,t,O⟩:=h.get (k:=k) ω;refine ⟨ū,_,_,_,_,_,_,_,_,_,_,_,_,_,_,_,_,_,A,ū,_,_,_,_,_,_,_,_,_,_,_,_,_,_,_,_,_,t,λV2 l2=>(oY ra ra).s ?_⟩;rintro r V3 l3 rfl;refine ⟨_,rfl,λp=>⟨(((k+1:Nat):Int),(j:Int)),ω,σ,k+1,j,rfl,rfl,ω,ω,I,λx h1 h2=>?_,v⟩,λp=>⟨((i:Int),(k:Int)),ω,σ,i,k,rfl,rfl,H,ω,ω,J,λx h1 h2=>?_⟩⟩
    ·have p:¬uD (l.getD m fY) (l.getD k fY)<0:=Â (by simpa using p);exact f.tr _ _ _ p (ua.le f h1 (show x<=k by omega) ω)
    ·have p:uD (l.getD m fY) (l.getD k fY)<0:=Á (by simpa using p);exact Qv0 λg=>f.tr _ _ _ g (ua.le f ω h1 h2) p
   ·have d:¬(i:Int)<j:=Â d;obtain rfl:i=j:=ω
    refine ⟨λz V'=>∃(k:Nat)(g:zA (L3×Sp)),z.1=(k:Int)/\i<=k/\k<=m/\vB V' n z.2 g/\Ea fY l g k m (m+1),λz=>z.1.toNat,⟨((m:Int),vs),σ,m,l,rfl,I,Ù _,h.le l1,.nil1⟩,?_⟩;rintro ⟨R,us⟩ V4 l4 ⟨k,g,u,b6,a8,E,C⟩;dsimp only at u E;subst u;dsimp only;have gl:=C.qJ.len;refine ⟨rfl,λd=>?_,λd V5 l5 P=>⟨rfl,us,g,P,ra,C.qJ.wide ω (Ù _),?_⟩⟩
    ·have d:(k:Int)>(i:Int):=Á d;have U:i64.wrap ((k:Int)-1)=((k-1:Nat):Int):=by rw [au ω];omega
     rw [U,Ü,Ü];have ⟨_,_,_,_,_,_,_,_,_,_,_,_,_,_,_,_,_,A,M⟩:=E.get (k:=k-1) ω;have ⟨_,_,_,_,_,_,_,_,_,_,_,_,_,_,_,_,_,t,O⟩:=E.get (k:=k) ω;obtain ⟨s1,s2,s3⟩:=E.swap (i:=k) (j:=k-1) ω ω O M;exact ⟨ū,_,_,_,_,_,_,_,_,_,_,_,_,_,_,_,_,_,A,ū,_,_,_,_,_,_,_,_,_,_,_,_,_,_,_,_,_,t,ū,s1,ū,s2,(((k-1:Nat):Int),_),ω,σ,k-1,_,rfl,ω,ω,s3,Vq C ω a8⟩
    ·have d:¬(k:Int)>(i:Int):=Â d;obtain rfl:i=k:=ω
     exact SM H I C ua v J f
  refine ⟨λz V'=>∃s r:Nat,z.1=(s:Int)/\z.2=(r:Int)/\a<=s/\s<=r/\r<=m/\r<=mid/\mid+m<=s+b/\(s=a\/s+b=mid+m)/\(r=m\/r=mid),⟨λB=>⟨(((mid+m-b:Nat):Int),(mid:Int)),?_,mid+m-b,mid,rfl,rfl,?_⟩,λB=>⟨((a:Int),(m:Int)),σ,a,m,rfl,rfl,?_⟩⟩,?_⟩
  ·have B:(m:Int)>mid:=Á B;have w:i64.wrap (((mid+m:Nat):Int)-b)=((mid+m-b:Nat):Int):=by rw [au ω];omega
   and_intros<;>first|rfl|exact w
  ·have B:(m:Int)>mid:=Á B;omega
  ·have B:¬(m:Int)>mid:=Â B;omega
  rintro ⟨R,z2⟩ fu dM ⟨s0,r0,u,F,b7,a9,b8,rd0,b9,sa,ra⟩;dsimp only at u F;subst u F;dsimp only
  refine ⟨rfl,λz V'=>∃i j:Nat,z.1=(i:Int)/\z.2=(j:Int)/\s0<=i/\i<=j/\j<=r0/\(∀x,s0<=x->x<i->¬uD (l.getD (mid+m-1-x) fY) (l.getD x fY)<0)/\∀x,j<=x->x<r0->uD (l.getD (mid+m-1-x) fY) (l.getD x fY)<0,λz=>(z.2-z.1).toNat,
   ⟨(_,_),σ,s0,r0,rfl,rfl,Ù _,a9,Ù _,λy h1 h2=>ω,λy h1 h2=>ω⟩,?_⟩
  rintro ⟨R,z2⟩ iD eN ⟨i,j,u,F,H,S,I,J,v⟩;dsimp only at u F;subst u F;dsimp only;have XJ:=dM.m eN;refine ⟨rfl,λd=>⟨φ,?_⟩,λd=>?_⟩
  ·have d:(i:Int)<j:=Á d;rw [HQ];have hH:i<=(i+j)/2/\(i+j)/2<j:=ω
   generalize (i+j)/2=k at *;have T:i64.wrap ((k:Int)+1)=((k+1:Nat):Int):=by rw [au ω];omega
   have w4:i64.wrap (((mid+m-1:Nat):Int)-k)=((mid+m-1-k:Nat):Int):=by rw [au ω];omega
   rw [T,w4,Ü,Ü];have ⟨_,_,_,_,_,_,_,_,_,_,_,_,_,_,_,_,_,A,M⟩:=h.get (k:=mid+m-1-k) ω;have ⟨_,_,_,_,_,_,_,_,_,_,_,_,_,_,_,_,_,t,O⟩:=h.get (k:=k) ω;refine ⟨ū,_,_,_,_,_,_,_,_,_,_,_,_,_,_,_,_,_,A,ū,_,_,_,_,_,_,_,_,_,_,_,_,_,_,_,_,_,t,λkE fw=>(oY (M.le ax) (O.le ax)).s ?_⟩;rintro r mg hZ rfl;refine ⟨_,rfl,λp=>⟨(((k+1:Nat):Int),(j:Int)),ω,σ,k+1,j,rfl,rfl,ω,ω,I,λx h1 h2=>?_,v⟩,λp=>⟨((i:Int),(k:Int)),ω,σ,i,k,rfl,rfl,H,ω,ω,J,λx h1 h2=>?_⟩⟩
   ·have p:¬uD (l.getD (mid+m-1-k) fY) (l.getD k fY)<0:=Â (by simpa using p);exact f.tr _ _ _ (ub.le f ω (show mid+m-1-k<=mid+m-1-x by omega) ω) (f.tr _ _ _ p (ua.le f ω (show x<=k by omega) ω))
   ·have p:uD (l.getD (mid+m-1-k) fY) (l.getD k fY)<0:=Á (by simpa using p);exact Qv0 λg=>f.tr _ _ _ (ub.le f ω (show mid+m-1-x<=mid+m-1-k by omega) ω) (f.tr _ _ _ g (ua.le f ω h1 ω)) p
  have d:¬(i:Int)<j:=Â d;obtain rfl:i=j:=ω
  have U:i64.wrap (((mid+m:Nat):Int)-i)=((mid+m-i:Nat):Int):=by rw [au ω];omega
  rw [U];obtain ⟨e,he⟩:∃e,e=mid+m-i:=⟨_,rfl⟩;rw [<-he]
  have hA:∀x y,a<=x->x<i->e<=y->y<b->¬uD (l.getD y fY) (l.getD x fY)<0:=λx y h1 h2 h3 h4=>by
   have q:=J (i-1) ω ω;rw [show mid+m-1-(i-1)=e by omega] at q;exact f.tr _ _ _ (ub.le f ω h3 h4) (f.tr _ _ _ q (ua.le f h1 (show x<=i-1 by omega) ω))
  have hB:∀x y,i<=x->x<m->m<=y->y<e->¬uD (l.getD x fY) (l.getD y fY)<0:=λx y h1 h2 h3 h4=>by
   have q:=f.asy _ _ (v i (Ù _) ω);rw [show mid+m-1-i=e-1 by omega] at q;exact f.tr _ _ _ (ua.le f ω h1 h2) (f.tr _ _ _ q (ub.le f h3 (show y<=e-1 by omega) ω))
  refine ⟨λz V'=>z=decide (i<m/\m<e),⟨λg=>⟨_,σ,?_⟩,λg=>⟨_,σ,?_⟩⟩,?_⟩
  ·have g:(i:Int)<m:=Á g;exact É.2 ⟨λh=>ū,λh=>ω⟩
  ·have g:¬(i:Int)<m:=Â g;exact (È λh=>ω).symm
  rintro z mz eH rfl;have K:=XJ.m eH;refine ⟨rfl,λus V'=>∃g,vB V' n us g/\Ea fY l g i m e,⟨λg mh fP W Y h3=>?_,λg=>⟨_,σ,l,h.le K,?_⟩⟩,?_⟩
  ·have g:=Á g;refine (QK (V:=mh.aw [W]) Y ⟨ψ,h3⟩ (h.le λb o h=>fP b o (K b o h)) g.1 g.2).s λr mX gX ⟨rfl,ws,k,Z,G,b0⟩=>⟨rfl,ws,Z,ws,σ,k,G.le λb o h=>h,b0⟩
  ·have g:=Â g;rcases Ď i m with A|A
   ·obtain rfl:m=e:=ω
    exact .nil2
   ·obtain rfl:i=m:=ω
    exact .nil1
  rintro us nM gy ⟨g,E,C⟩;have gl:=C.qJ.len;have ⟨t1,t2,t3,t4,t5⟩:=Hc (a:=a) (b:=b) ω ω ω ω C ua ub hA hB;refine ⟨rfl,λz V'=>z=decide (a<i/\i<mid),⟨λg=>⟨_,σ,?_⟩,λg=>⟨_,σ,?_⟩⟩,?_⟩
  ·have g:(a:Int)<i:=Á g;exact É.2 ⟨λh=>ū,λh=>ω⟩
  ·have g:¬(a:Int)<i:=Â g;exact (È λh=>ω).symm
  rintro z qh iX rfl;refine ⟨rfl,λws V'=>∃t,vB V' n ws t/\uv fY g t a mid/\qf uD fY t a mid,⟨λq jZ gG W Y h3=>?_,λq=>⟨_,σ,g,E.le iX,.refl _ _ _,?_⟩⟩,?_⟩
  ·have q:=Á q;refine (mI N (V:=jZ.aw [W]) Y ⟨ψ,h3⟩ (E.le λb o h=>gG b o (iX b o h)) ω q.1 q.2 ω t2 λx y h1 h2 h3=>t3 x y h1 h2 ω).s λr qN mo ⟨rfl,ws,k,Z,G,sg,asc⟩=>⟨rfl,ws,Z,ws,σ,k,G.le λb o h=>h,sg,asc⟩
  ·have q:=Â q;rcases Ď a i with A|A
   ·obtain rfl:i=mid:=ω
    exact t2
   ·obtain rfl:a=i:=ω
    exact λx y h1 h2 h3=>t3 x y h1 h2 ω
  rintro ws tR oB ⟨t,a0,D,L⟩;have c0:=D.len;refine ⟨rfl,λz V'=>z=decide (mid<e/\e<b),⟨λg=>⟨_,σ,?_⟩,λg=>⟨_,σ,?_⟩⟩,?_⟩
  ·have g:(mid:Int)<e:=Á g;exact É.2 ⟨λh=>ū,λh=>ω⟩
  ·have g:¬(mid:Int)<e:=Â g;exact (È λh=>ω).symm
  have a1:qf uD fY t mid e:=qf.qJ (λx y h1 h2 h3=>t4 x y ω h2 h3) D (.inr (Ù _));have a2:qf uD fY t e b:=t5.qJ D (.inr ω);have cr:∀x y,a<=x->x<mid->mid<=y->y<b->¬uD (g.getD y fY) (g.getD x fY)<0:=λx y h1 h2 h3 h4=>t1 x y h1 ω ω h4;have sl:uv fY l t a b:=(C.qJ.wide ω ω).m (D.wide (Ù _) ω);rintro z sO mL rfl;refine ⟨rfl,λq Ec oC W Y h3=>?_,λq Ec oC a3=>⟨rfl,ws,t,a3,a0.le ax,sl,?_⟩⟩
  ·have q:=Á q;refine (mI N (V:=Ec.aw [W]) Y ⟨ψ,h3⟩ (a0.le λb o h=>oC b o (mL b o h)) ω q.1 q.2 ω a1 a2).s λr Bw zC ⟨rfl,xs,k,Z,G,sg,asc⟩=>⟨rfl,xs,Z,λJw yr a4=>⟨rfl,xs,k,a4,G.le λb o h=>yr b o h,sl.m (sg.wide ω (Ù _)),OU cr D L sg asc⟩⟩
  ·have q:=Â q;refine OU cr D L (.refl _ _ _) ?_;rcases Ď mid e with A|A
   ·obtain rfl:e=b:=ω
    exact a1
   ·obtain rfl:mid=e:=ω
    exact a2
set_option maxHeartbeats 1000000 in
theorem QL {V l}(hw:V.w.heap[lb]?=some (.cells vs.toArray 80 (0,0)))(hx:V.X lb)(h:vB V n vs l):À 182 #[pT (some ⟨lb,0,none⟩) n c,Jq n,.func (.func 116) #[] #[]] V λr W=>r=æ #[]/\My lb n l 0 n W λl'=>qf uD fY l' 0 n:=by
 have len:=h.len;have iY:=h.iY;refine mw lb n c vs n V _ hw hx ⟨λz V'=>∃(q:Nat)(g:zA (L3×Sp)),z.1=((q*20:Nat):Int)/\z.2.1=((q*20+20:Nat):Int)/\q*20<=n/\vB V' n z.2.2 g/\uv fY l g 0 n/\Wi uD fY g 20 q,λz=>n-z.1.toNat,⟨(0,20,vs),σ,0,l,rfl,rfl,ã _,h,.refl _ _ _,λp D=>ω⟩,?_⟩;rintro ⟨z1,z2,us⟩ V1 l1 ⟨q,g,H,I,Y,Z,J,fr⟩;subst H I;dsimp only;have gl:=J.len;refine ⟨rfl,λd V2 K t L M=>?_,λd V2 K t L M=>?_⟩
 ·have d:=Á d;have w:i64.wrap (((q*20+20:Nat):Int)+20)=(((q+1)*20+20:Nat):Int):=by{rw [au ω];omega};refine (nS (V:=V2.aw [t]) L ⟨ψ,M⟩ (Z.le λb o h=>K b o h) (a:=q*20) (b:=q*20+20) ω).s λr V3 l3 ⟨rfl,ws,k,N,u,f,asc⟩=>⟨rfl,ws,N,(((q*20+20:Nat):Int),_,ws),ω,σ,q+1,k,ω,w,ω,u.le λb o h=>h,J.m (f.wide ω ω),fr.snoc f asc⟩
 have d:=Â d;refine (nS (V:=V2.aw [t]) L ⟨ψ,M⟩ (Z.le λb o h=>K b o h) (a:=q*20) (b:=n) Y).s ?_;rintro r V3 l3 ⟨rfl,ws,k,N,u,f,asc⟩;refine ⟨rfl,ws,N,λz V'=>∃(B:Nat)(g:zA (L3×Sp)),z.1=(B:Int)/\0<B/\B<=20000/\vB V' n z.2 g/\uv fY l g 0 n/\Blk uD fY g B n,λz=>n-z.1.toNat,⟨(20,ws),σ,20,k,rfl,ω,ω,u.le λb o h=>h,J.m (f.wide ω ω),fr.bh f asc ω⟩,?_⟩;rintro ⟨z,xs⟩ V6 l6 ⟨B,g2,e,B0,Bn,O,E,s⟩;subst e;refine ⟨rfl,λd=>?_,λd iD eN XB=>⟨rfl,xs,g2,XB,ra,E,?_⟩⟩;rotate_left
 ·have d:=Â d;have:=s 0;grind
 have d:=Á d;have w1:i64.wrap (2*(B:Int))=((2*B:Nat):Int):=by rw [au ω];omega
 have w2:i64.wrap ((B:Int)*2)=((2*B:Nat):Int):=by rw [au ω];omega
 rw [w1,w2]
 refine ⟨λz V'=>∃(q:Nat)(g:zA (L3×Sp)),z.1=((q*(2*B):Nat):Int)/\z.2.1=((q*(2*B)+2*B:Nat):Int)/\q*(2*B)<=n/\vB V' n z.2.2 g/\uv fY l g 0 n/\Wi uD fY g (2*B) q/\∀p,2*q<=p->qf uD fY g (p*B) (min ((p+1)*B) n),λz=>n-z.1.toNat,
  ⟨(0,((2*B:Nat):Int),xs),σ,0,g2,by rw [œ];rfl,by rw [œ,Ĉ],ω,O,E,λp D=>ω,λp _=>s p⟩,?_⟩
 rintro ⟨z1,z2,ys⟩ V7 l7 ⟨q,g3,H,I,Y,v,i,x,rest⟩;subst H I;dsimp only;have a0:=i.len;have G:=rest (2*q) (Ù _);have P:=rest (2*q+1) ω
 have Q:∀p,2*(q+1)<=p->q*(2*B)+2*B<=p*B:=λp D=>by have:=Ă B D;grind
 have q1:(q+1)*(2*B)=q*(2*B)+2*B:=χ
 rw [show 2*q*B=q*(2*B) by grind,show (2*q+1)*B=q*(2*B)+B by grind] at G;rw [show (2*q+1)*B=q*(2*B)+B by grind,show (2*q+1+1)*B=q*(2*B)+2*B by grind] at P;generalize hA:q*(2*B)=A at *;have w3:i64.wrap ((A:Int)+B)=((A+B:Nat):Int):=by rw [au ω];omega
 rw [w3];refine ⟨rfl,λy R S t T U=>?_,λy=>⟨λhm R S t T U=>?_,λhm=>?_⟩⟩
 ·have y:=Á y;have w4:i64.wrap (((A+2*B:Nat):Int)+((2*B:Nat):Int))=((A+2*B+2*B:Nat):Int):=by rw [au ω];omega
  refine (mI (2*B) (V:=R.aw [t]) T ⟨ψ,U⟩ (v.le λb o h=>S b o h) (a:=A) (m:=A+B) (b:=A+2*B) ω ω ω ω (G.sub (Ù _) ω) (P.sub (Ù _) ω)).s λr V9 l9 ⟨rfl,us,k,W,C,j,F⟩=>⟨rfl,us,W,(((A+2*B:Nat):Int),((A+2*B+2*B:Nat):Int),us),ω,by and_intros<;>first|rfl|exact w4,q+1,k,by rw [q1],by rw [q1],ω,C.le λb o h=>h,i.m (j.wide ω ω),?_,λp D=>(rest p ω).qJ j (.inr (Q p D))⟩<;>grind [x.snoc]
 ·have y:=Â y;have hm:=Á hm;refine (mI (2*B) (V:=R.aw [t]) T ⟨ψ,U⟩ (v.le λb o h=>S b o h) (a:=A) (m:=A+B) (b:=n) ω ω ω ω (G.sub (Ù _) ω) (P.sub (Ù _) ω)).s λr V9 l9 ⟨rfl,us,k,W,C,j,F⟩=>⟨rfl,us,W,(((2*B:Nat):Int),us),ω,σ,2*B,k,rfl,ω,ω,C.le λb o h=>h,i.m (j.wide ω ω),?_⟩<;>grind [x.bh]
 ·have y:=Â y;have hm:=Â hm;refine ⟨(((2*B:Nat):Int),ys),ω,σ,2*B,g3,rfl,ω,ω,v,i,?_⟩;subst hA;exact x.bh (.refl _ _ _) (G.sub (Ù _) ω) ω
theorem Ej {V lb n c vs l}(hw:V.w.heap[lb]?=some (.cells vs.toArray 80 (0,0)))(F:V.X lb)(h:vB V n vs l):À 115 #[pT (some ⟨lb,0,none⟩) n c,.func (.func 116) #[] #[]] V λr W=>r=æ #[]/\∃E l',W.w.heap[lb]?=some (.cells E.toArray 80 (0,0))/\vB W n E l'/\l'.Perm l/\l'.Pairwise λx y=>¬jP y.1 x.1<0:=by have len:=h.len;refine mf lb n c vs V _ hw F λf g k p q=>(QL (V:=f.aw [k]) p ⟨ψ,q⟩ (h.le λb o h=>g b o h)).s λr V2 A ⟨rfl,ws,m,s,t,e,asc⟩=>⟨rfl,ws,s,λB u a=>⟨rfl,ws,m,a,t.le λb o h=>u b o h,e.perm,?_⟩⟩;have sl:=e.len;refine Ţ.2 λi j v z d=>?_;have:=asc i j ω d ω;rw [ĕ,ĕ,ï v,ï z] at this;exact this
theorem vH:À 115 #[pT none 0 0,.func (.func 116) #[] #[]] V λr W=>r=æ #[]:=by refine jA V _ λb f=>?_;have st:À 182 #[pT none 0 0,Jq 0,.func (.func 116) #[] #[]] b λr W=>r=æ #[]:=by{refine jX 0 b _ ⟨λz _=>z=(0,20),λ_=>0,⟨(0,20),σ,rfl⟩,?_⟩;rintro z V2 g rfl;refine ⟨rfl,λa=>Å (Á a) φ,λ_ c i=>?_⟩;have ins:À 246 #[pT none 0 0,Jq 0,Jq 0,.func (.func 116) #[] #[]] c λr W=>r=æ #[]:=by{(refine gK 0 0 c _ ⟨λz _=>z=1,λ_=>0,⟨1,by and_intros<;>first|rfl|exact au ω,rfl⟩,?_⟩;rintro z d e rfl;exact ⟨rfl,λh=>Å (Á h) ω,λ_ j k=>rfl⟩)};refine ins.s ?_;rintro r d e rfl;refine ⟨rfl,λz _=>z=20,λ_=>0,⟨20,σ,rfl⟩,?_⟩<;>grind};grind
theorem Ta {fs}(h:bM 17 qD V p n fs)(O:fs.length<=1000000)(N:fs=[]->p=none):À 114 #[pT p n c] V λr V'=>∃(M:Nat)(vs:zA um),(vs≠[]->V'.w.heap[M]?=some (.cells vs.toArray 80 (0,0)))/\(vs≠[]->V.w.heap.size<=M)/\∃e,r=pT (mA M e) fs.length e/\fs.length<=e/\(vs=[]↔e=0)/\(vs≠[]↔fs≠[])/\é 17 qD (V'.bf (vs≠[]) M) vs fs/\V.Le (V'.bf (vs≠[]) M):=by obtain rfl:=h.len;refine xy p _ c V _ ⟨λg C q=>?_,λg=>?_⟩;{have s:p=none:=by{simpa using g};have e:fs=[]:=by{rcases fs with-| ⟨x,r⟩;{rfl};{obtain ⟨D,e,-⟩:=h.at_ 0 (Nat.succ_pos _);rw [s] at e;cases e}};subst e;exact ⟨0,[],λh=>Å rfl h,λh=>Å rfl h,0,rfl,Ù _,⟨λ_=>rfl,λ_=>rfl⟩,⟨λh=>Å rfl h,λh=>Å rfl h⟩,é.nil,Rj q λh=>h rfl⟩};{have b:fs≠[]:=λe=>by{rw [N e] at g;cases g};have i:=Qh6.2 b;have ⟨xs,t,j,k⟩:=eC h φ;refine ⟨xs,t,j,ω,Ù _,Ù _,j,λv u=>?_,λE J sp y l F V2 d z A B=>?_⟩;{obtain ⟨m,hm,rfl⟩:=Qm2.1 u;exact kL k φ (λxs a g=>Lf g) (m:=m) ω (ï hm)};rw [Ĉ] at l ⊢;have o:V.Le (V2.bf ((([]:zA um).take (0*17)++xs++sp)≠[]) d):=Nh z;have f:(([]:zA um).take (0*17)++xs++sp)≠[]:=λe=>χ;exact ⟨d,_,λ_=>A,λ_=>B.elim id False.elim,y,by rw [mA,Ã ω],l,⟨λe=>Å e f,λe=>ω⟩,⟨λ_=>b,λ_=>f⟩,(ie (vs:=[]) (sp:=sp) é.nil k φ).le λ_ _ g=>xF.le g o,o⟩}
def í (l m:L3):List Sp:=if ß l m=0 then (if 0<ay m (cP l 0) (cR l 0) then [ä] else []) else if 0<Û m l then [⟨Ø m l,0,false,true⟩] else [⟨0,Ø m l,true,false⟩]
theorem yj (l m):í l m=[]\/∃u,í l m=[u]/\u.can:=by unfold í;split;{grind [iw.1]};{split;{exact .inr ⟨_,rfl,⟨Ū,λ_=>rfl⟩⟩};{exact .inr ⟨_,rfl,⟨λ_=>rfl,Ū⟩⟩}}
theorem comb_nil (a):Ú 2 a []=[]:=by (cases e:Ú 2 a [] with|nil=>rfl|cons s r=>{exfalso;have d:=comb_reg 2 a [];rw [e] at d;have ⟨g,i,b,c⟩:=T0 (d.1 s (Ć ..));have ⟨t,t1,t2,t3⟩:=SP (à (a++[])) b;have f:=comb_inB 2 a [] (t:=t) (λh=>t3 t h rfl);rw [e] at f;have j:ë (s::r) t=true:=jI.2 ⟨s,Ć ..,c t t1 t2⟩;have k:ë [] t=false:=rfl;have l:ģ 2 (ë a t) false=(ë a t&&false):=rfl;grind})
theorem Rw {v:Sp}(u:v.can):v.meet ä=v:=by obtain ⟨c,d,a,b⟩:=v;unfold Sp.can at u;unfold Sp.meet ä;grind
theorem Rd {v}(u:v.can):ä.meet v=v:=by obtain ⟨c,d,a,b⟩:=v;unfold Sp.meet ä;cases a<;>cases b<;>simp at u⊢<;>simp
theorem CP {u:Sp}(hu:u.good):Ú 2 [ä] [u]=[u]:=by rw [vT iw.1 hu.1,Rd hu.1,Ã (by rw [hu.2];exact ŧ)]
theorem R8 {l m v}(y:v.good):Ú 2 [v] (Ú 2 [ä] (í l m))=if cU l v m=true then [bD l v m] else []:=by unfold í;by_cases a:ß l m=0;{have b:Û m l=0:=by{rw [cross_dot] at a;grind};have d:bD l v m=v:=by{unfold bD;rw [b];rfl};have c:cU l v m=decide ((j9 m l).num.sign>0):=by{unfold cU;rw [b];rfl};rw [Ä a,d,c];by_cases g:0<ay m (cP l 0) (cR l 0);{rw [Ä g,CP iw,vT y.1 iw.1,Rw y.1,Ã (by rw [y.2];exact ŧ),Ä (Ç (show (j9 m l).num.sign>0 from aq.qt.2 g))]};{rw [Ã g,comb_nil,comb_nil,Ã (by rw [Ñ];exact λh=>g (aq.qt.1 h))]}};{have b:Û m l≠0:=λe=>a (by rw [cross_dot,e];grind);have c:cU l v m=!(bD l v m).emp:=by{unfold cU;grind [cZ]};have fin:∀{u:Sp},u.good->v.meet u=bD l v m->Ú 2 [v] (Ú 2 [ä] [u])=if cU l v m=true then [bD l v m] else []:=λ{u} hu e=>by{rw [CP hu,vT y.1 hu.1,e,c];grind};rw [Ã a];rcases cZ (Û m l) with ⟨h,e⟩|⟨h,e⟩|⟨h,e⟩;{exact Å h b};{rw [Ä h];refine fin ⟨⟨Ū,λ_=>rfl⟩,Sp.iL.2 (.inr (.inl rfl))⟩ ?_;unfold bD;rw [e];rfl};{rw [Ã χ];refine fin ⟨⟨λ_=>rfl,Ū⟩,Sp.iL.2 (.inl rfl)⟩ ?_;unfold bD;rw [e];rfl}}
def ñ (m:L3)(k:Int):L3:=if k=1 then m else Ö m
theorem Lh {q:Rat}{k:Int}(u:k=1\/k=-1):(q.num.sign==k)=decide (0<(if k=1 then q else -q)):=by rcases cZ q with ⟨h,e⟩|⟨h,e⟩|⟨h,e⟩<;>rcases u with rfl|rfl<;>rw [e]<;>simp<;>grind
theorem Lm (m k x y):ay (ñ m k) x y=if k=1 then ay m x y else -ay m x y:=by unfold ñ;split;{rfl};{exact val_rev ..}
theorem Ll (m l k):Û (ñ m k) l=if k=1 then Û m l else -Û m l:=by unfold ñ;split;{rfl};{exact dot_rev ..}
theorem side_cross (m l k):ß l (ñ m k)=0↔ß l m=0:=by rw [cross_dot,cross_dot,Ll];split<;>grind
theorem VB (k)(h:Û m l≠0):Ø (ñ m k) l=Ø m l:=by unfold ñ;split;{rfl};{exact cutP_rev h}
def onP (l m:L3):Bool:=decide (ß l m=0/\ay m (cP l 0) (cR l 0)=0)
theorem vN {w l m k}(hk:k=1\/k=-1)(hl:dh V v l)(hm:dh V w m)(nz:Nz l)(bl:Bd l)(bm:Bd m):À 225 #[v,w,Jq k] V λr W=>∃q n c,r=æ #[pT q n c,Õ (onP l m)]/\bM 8 qK W q n (í l (ñ m k)):=by have i:=hl;have j:=hm;obtain ⟨_,_,_,_,_,_,_,_,_,_,_,_,rfl⟩:=bT hl;obtain ⟨_,_,_,_,_,_,_,_,_,_,_,_,rfl⟩:=bT hm;have sl:=bl.iS;have sm:=bm.iS;refine Fq V _ λV1 x=>(Vj (dh.le i x) (dh.le j x) sl sm).s ?_;rintro r V2 W ⟨u,rfl,X,Y⟩;have ⟨s1,s2⟩:=P9 sl sm;have s:=x.m W;by_cases f:ß l m=0;{have H:=X f;unfold Sx at H;subst H;refine ⟨_,_,_,_,_,_,_,_,_,_,_,_,_,_,_,rfl,λ_ V3 Z=>(PM (dh.le i ax) nz bl).s ?_,λh=>by simp [f] at h⟩;rintro r V4 l4 I;have y:=I;obtain ⟨_,_,_,_,_,_,_,_,_,_,_,_,rfl,-⟩:=I;have z:=s.m (Z.m l4);refine qyJ ⟨rfl,λV5 l5=>(Ir (dh.le j ax) (y.le l5) (sm.up (K:=30000) ω) (II bl).1 (II bl).2).s ?_⟩;rintro r V6 l6 rfl;have a0:=z.m ax;have a:((ay m (cP l 0) (cR l 0)).num.sign==(0:Int))=onP l m:=by{unfold onP;rcases cZ (ay m (cP l 0) (cR l 0)) with ⟨h,e⟩|⟨h,e⟩|⟨h,e⟩<;>rw [e]<;>simp [f]<;>grind};have b:í l (ñ m k)=if ((ay m (cP l 0) (cR l 0)).num.sign==k)=true then [ä] else []:=by{unfold í;rw [Ä ((side_cross m l k).2 f),Lh hk,Lm];by_cases g:0<(if k=1 then ay m (cP l 0) (cR l 0) else -ay m (cP l 0) (cR l 0));{rw [Ä g,Ä (Ç g)]};{rw [Ã g,Ã (by rw [È g];exact ŧ)]}};refine ⟨_,rfl,λh V7 l7=>vM.s ?_,λh gx a1=>⟨_,_,_,by rw [a],?_⟩⟩;{rintro r V8 l8 J;have A:=J;obtain ⟨_,_,_,_,_,_,_,_,_,_,_,_,_,_,rfl,-⟩:=J;refine ⟨_,_,_,_,_,_,_,_,_,_,_,_,_,_,_,_,rfl,λV9 l9 L d=>⟨_,_,_,by rw [a],?_⟩⟩;rw [b,Ä h];exact bM.h_ (V:=V9) d (row_one rfl (A.le l9))};{rw [b,Ã (by rw [h];exact ŧ)];exact bM.nil}};have M:Û m l≠0:=λh=>f (by rw [cross_dot,h];grind);have N:=Y f;have B:=N;obtain ⟨_,_,_,_,_,_,_,_,_,_,_,_,rfl,-⟩:=N;have a:onP l m=false:=by{unfold onP;rw [È λh=>f h.1]};refine ⟨_,_,_,_,_,_,_,_,_,_,_,_,_,_,_,rfl,λh=>by simp [f] at h,λ_ fu dM=>(Bl (dh.le i ax) (B.le dM) nz (sl.up (K:=30000) ω) (s1.s ω) (s2.s ω)).s ?_⟩;rintro r iD eN gt;have o:RQ iD r (pU l m):=gt;rw [CU nz f] at o;clear gt;have p:=o;obtain ⟨_,_,_,_,_,_,rfl⟩:=o.shape;have st:Sz 70000 (Ø m l):=(qc sl sm).s ω;refine qyK ⟨rfl,λkE fw=>(dR 1 ω).s ?_⟩;rintro r mg hZ O;obtain ⟨_,_,_,_,_,_,rfl⟩:=O.shape;have P:=fw.m hZ;refine qyK ⟨rfl,λmz C=>(dY (p.le ax) (O.le C) st jM ω).s ?_⟩;rintro r mh Q gs;obtain ⟨_,_,_,_,_,_,rfl⟩:=gs.shape;have t:=(s.m ax).m (P.m (C.m Q));have D:Sz 80000 (Ø m l+((1:Int):Rat)):=(st.add jM).s ω;refine qyK ⟨rfl,λmX E=>(r_At (dh.le i ax) (gs.le E) nz (sl.up (K:=80000) ω) D).s ?_⟩;rintro r nM R S;have F:=S;obtain ⟨_,_,_,_,_,_,_,_,_,_,_,_,rfl,-⟩:=S;have XK:=t.m (E.m R);refine qyJ ⟨rfl,λqh T=>(Ir (k:=10000000) (dh.le j ax) (F.le T) (sm.up ω) ((nt (sl.up (K:=80000) ω) D).s ω) ((ny (sl.up (K:=80000) ω) D).s ω)).s ?_⟩;rintro r jZ gG rfl;have U:=XK.m ax;have ev:ay m (cP l (Ø m l+((1:Int):Rat))) (cR l (Ø m l+((1:Int):Rat)))=Û m l:=by{rw [qe];have hi:=Qn7 _ M;unfold Ø;have e1:((1:Int):Rat)=1:=rfl;rw [e1];grind};rw [ev];have G:=P.m (C.m (Q.m (E.m (R.m (T.m gG)))));have b:í l (ñ m k)=if ((Û m l).num.sign==k)=true then [⟨Ø m l,0,false,true⟩] else [⟨0,Ø m l,true,false⟩]:=by{unfold í;rw [Ã (λh=>f ((side_cross m l k).1 h)),Lh hk,Ll,VB k M];by_cases g:0<(if k=1 then Û m l else -Û m l);{rw [Ä g,Ä (Ç g)]};{rw [Ã g,Ã (by rw [È g];exact ŧ)]}};refine ⟨_,rfl,λh qN mo L d=>⟨_,_,_,by rw [a],?_⟩,λh tR oB L d=>⟨_,_,_,by rw [a],?_⟩⟩;{rw [b,Ä h];exact bM.h_ (V:=qN) d (row_one rfl (qyJ ⟨rfl,p.le ax,rq0 _⟩))};{rw [b,Ã (by rw [h];exact ŧ)];exact bM.h_ (V:=tR) d (row_one rfl (qyJ ⟨rfl,rq0 _,p.le ax⟩))}
theorem PE {u}{xs:zA um}{ty m}(y:V.bh u (.cells xs.toArray ty m))(h:qK V (.agg xs.toArray) s):OR V (some ⟨u,0,none⟩) 1 [s]:=
 wq (bM.h_ y (row_one (by obtain ⟨_,_,_,_,_,_,_,_,_,_,_,_,_,_,e,-⟩:=wN h;rw [e];rfl) h))
def vA (V:Ó)(v:Value)(x:L3×Sp):Prop:=RF V v x.1 x.2
theorem vA.le {V V' x}(h:vA V v x)(l:V.Le V'):vA V' v x:=RF.le h l
theorem Ba (h:onP l m=true)(k):í l (ñ m k)=[]:=by have h:=Á h;unfold í;rw [Ä ((side_cross m l k).2 h.1),Lm,h.2];split<;>rw [Ã χ]
theorem Xv (y:Bd l)(u:Bd m)(k):∀s∈í l (ñ m k),s.sz 100000:=by have b:Bd (ñ m k):=by{unfold ñ;split;exact u;exact u.rev};have st:Sz 100000 (Ø (ñ m k) l):=(qc y.iS b.iS).s ω;have z:=Dt 100000;intro s a;unfold í at a;split at a;{split at a;{rw [õ.1 a];exact ⟨z,z⟩};{cases a}};{split at a;{rw [õ.1 a];exact ⟨st,z⟩};{rw [õ.1 a];exact ⟨z,st⟩}}
theorem EB (y:s.can)(l m):(Ú 2 [s] (í l m)).length<=1:=by rcases yj l m with h|⟨u,h,hu⟩;{rw [h,comb_nil];exact ã _};{rw [h,vT y hu];split;{exact ã _};{exact Ù _}}
theorem T4 (l m):(í l m).length<=1:=by rcases yj l m with h|⟨u,h,hu⟩<;>rw [h];{exact ã _};{exact Ù _}
theorem Ps {al}(h:bM 8 qK V p n al){i:Nat}(hi:i<al.length):p.isSome=true/\∃(b:ut)(u:OA)(y c1:Nat)(z:OA)(E F:Nat)(d:ut)(M:OA)(N O:Nat)(Z:OA)(n4 c4:Nat)(a:Addr),af p (i*8)=some a/\V.at (a.add 0) (Õ b)/\V.at (a.add 1) (pT u y c1)/\V.at (a.add 2) (pT z E F)/\V.at (a.add 3) (Õ d)/\V.at (a.add 4) (pT M N O)/\V.at (a.add 5) (pT Z n4 c4)/\V.at (a.add 6) (Õ al[i].a)/\V.at (a.add 7) (Õ al[i].b)/\qK V (dB #[Õ b,pT u y c1,pT z E F,Õ d,pT M N O,pT Z n4 c4,Õ al[i].a,Õ al[i].b]) al[i]:=by have ⟨j,f,xs,k,g,c⟩:=h.at_ i hi;have e:=g;obtain ⟨_,_,_,_,_,_,_,_,_,_,_,_,_,_,ex,-,-⟩:=g;have ex:=Æ Array.toList (Value.agg.inj ex);dsimp only at ex;subst ex;refine ⟨?_,_,_,_,_,_,_,_,_,_,_,_,_,_,_,j,f,c 0 _ rfl,c 1 _ rfl,c 2 _ rfl,c 3 _ rfl,c 4 _ rfl,c 5 _ rfl,c 6 _ rfl,c 7 _ rfl,e⟩;(cases p with|none=>{cases f}|some a=>rfl)
theorem PC {b1 u z c1 b2 E F M b3 N O Z b q1 m1 e1 q2 m2 e2 d q3 m3 e3 q4 m4 e4 x y}:∀v∈([Õ b1,pT u z c1,Õ b2,pT E F M,Õ b3,pT N O Z,Õ b,pT q1 m1 e1,pT q2 m2 e2,Õ d,pT q3 m3 e3,pT q4 m4 e4,Õ x,Õ y]:zA um),v.oneCell'=true:=by intro v a;simp only [ç,Ġ,Ì] at a;rcases a with rfl|rfl|rfl|rfl|rfl|rfl|rfl|rfl|rfl|rfl|rfl|rfl|rfl|rfl<;>rfl
def Ak (l:L3)(s:Sp)(m:L3):List (L3×Sp):=(Ú 2 [s] (í l m)).map λu=>(l,u)
theorem Ex {w l m s}(hf:RF V v l s)(hm:dh V w m)(nz:Nz l)(bl:Bd l)(bm:Bd m)(hs:s.can)(ss:s.sz 1000000):À 169 #[v,w] V λr W=>∃p1 n1 c1 p2 n2 c2,r=æ #[pT p1 n1 c1,pT p2 n2 c2]/\bM 14 vA W p1 n1 (Ak l s m)/\bM 14 vA W p2 n2 (Ak l s (Ö m)):=by have q:=hm;obtain ⟨_,_,_,_,_,_,_,_,_,_,_,_,_,_,_,_,_,_,_,_,_,_,_,_,_,_,rfl,D,W⟩:=hf;obtain ⟨_,_,_,_,_,_,_,_,_,_,_,_,rfl⟩:=bT hm;have s1:ñ m 1=m:=rfl;have s2:ñ m (-1)=Ö m:=rfl;have c:=Xv bl bm;have f:=λk=>EB hs l (ñ m k);have i:=λk=>T4 l (ñ m k);refine D1 V _ ⟨λ_=>⟨φ,λV1 X=>(vN (l:=l) (.inl rfl) (RL.le D X) (dh.le q X) nz bl bm).s ?_⟩,λh=>by cases h⟩;rintro r V2 l2 ⟨q1,n1,c1,rfl,hH⟩;refine qyW ⟨rfl,λn V3 l3=>⟨_,_,_,_,_,_,rfl,?_,?_⟩,λn V4 Y Y_ G=>(qm (op:=2) (la':=[s]) (lb':=í l (ñ m 1)) (PE G (W.le ax)) (wq (hH.le Y λ_ _ g=>qK.le g Y)) (by have:=i 1;rw [Qc3];omega) (k:=1000000) (λz d=>õ.1 d▸ss) (λz d=>⟨(c 1 z d).1.s ω,(c 1 z d).2.s ω⟩) ω).s ?_⟩;{unfold Ak;rw [<-s1,Ba n,comb_nil];exact bM.nil};{unfold Ak;rw [<-s2,Ba n,comb_nil];exact bM.nil};rintro r V5 l5 ⟨p4,n4,c4,rfl,E⟩;have E:=E.lst;have la:=f 1;have a2:=E.len;generalize hA:Ú 2 [s] (í l (ñ m 1))=A at *;refine ⟨_,_,_,rfl,λ_=>⟨λz V'=>∃j:Nat,z.1=(j:Int)/\j<=A.length/\z.2.2.2.1=0/\z.2.2.2.2.1=0/\z.2.2.2.2.2.2=[]/\GR 14 vA V' z.2.1 z.2.2.1 z.2.2.2.2.2.1 ((A.take j).map λu=>(l,u)),λz=>A.length-z.1.toNat,⟨(0,0,0,0,0,[],[]),σ,0,rfl,ã _,rfl,rfl,rfl,GR.nil⟩,?_⟩⟩;rintro ⟨zi,Z,x2,x3,x4,xs,ys⟩ V6 l6 ⟨j,t,yo,e3,e4,e5,o⟩;dsimp only at t e3 e4 e5 o ⊢;subst t e3 e4 e5;refine ⟨θ,λb=>?_,λb=>⟨λ_=>⟨φ,λV7 l7=>(vN (l:=l) (.inr rfl) (RL.le D ax) (dh.le q ax) nz bl bm).s ?_⟩,λh=>by cases h⟩⟩;{have b:=Á b;have p:j<A.length:=ω;have wr:i64.wrap ((j:Int)+1)=((j+1:Nat):Int):=by{rw [au ω];rfl};rw [wr,Ü];obtain ⟨is,_,_,_,_,_,_,_,_,_,_,_,_,_,_,H,I,J,b1,b2,b3,b4,K,L,M,gs⟩:=Ps (E.le l6 λ_ _ g=>qK.le g l6) p;have N:=(š p).symm;have O:=o.len;rw [ē,ê] at O;generalize A[j]=u at *;refine ⟨is,ū,_,_,_,_,_,_,_,_,_,_,_,_,_,_,_,_,H,I,J,b1,b2,b3,b4,K,L,M,φ,ω,o.le,o.cap,rfl,PC,λsp P Q R=>⟨φ,(((j+1:Nat):Int),Z+1,P,0,0,_,[]),ω,σ,j+1,rfl,p,rfl,rfl,rfl,?_⟩⟩;rw [N,ş];exact o.snoc (a:=(l,u)) rfl ⟨_,_,_,_,_,_,_,_,_,_,_,_,_,_,_,_,_,_,_,_,_,_,_,_,_,_,rfl,RL.le D ax,gs⟩ φ Q R};have b:=Â b;obtain rfl:j=A.length:=ω;rw [Ĥ] at o;rintro r V8 l8 ⟨q2,n2,c2,rfl,S⟩;refine qyW ⟨rfl,λn V9 l9=>⟨_,_,_,_,_,_,rfl,?_,?_⟩,λn gx x WO y=>(qm (op:=2) (la':=[s]) (lb':=í l (ñ m (-1))) (PE y (W.le ax)) (wq (S.le x λ_ _ g=>qK.le g x)) (by have:=i (-1);rw [Qc3];omega) (k:=1000000) (λz d=>õ.1 d▸ss) (λz d=>⟨(c (-1) z d).1.s ω,(c (-1) z d).2.s ω⟩) ω).s ?_⟩;{unfold Ak;rw [<-s1,Ba n,comb_nil];exact bM.nil};{unfold Ak;rw [<-s2,Ba n,comb_nil];exact bM.nil};rintro r fu dM ⟨a3,a4,a5,rfl,F⟩;have F:=F.lst;have lb:=f (-1);have a1:=F.len;generalize hB:Ú 2 [s] (í l (ñ m (-1)))=B at *;refine ⟨_,_,_,rfl,λ_=>⟨λz V'=>∃j:Nat,z.1=(j:Int)/\j<=B.length/\GR 14 vA V' z.2.1 z.2.2.1 z.2.2.2.2.2.1 (A.map λu=>(l,u))/\GR 14 vA V' z.2.2.2.1 z.2.2.2.2.1 z.2.2.2.2.2.2 ((B.take j).map λu=>(l,u)),λz=>B.length-z.1.toNat,⟨(0,Z,x2,0,0,xs,[]),σ,0,rfl,ã _,o.s λ_ _ g=>vA.le g ax,GR.nil⟩,?_⟩⟩;rintro ⟨zi,y1,y2,y3,y4,us,ws⟩ iD eN ⟨j,t,yo,C,e⟩;dsimp only at t C e ⊢;subst t;refine ⟨θ,λb=>?_,λb=>⟨Ū,λ_=>⟨φ,φ,λkE fw a6 a7 T U=>?_⟩⟩⟩;{have b:=Á b;have p:j<B.length:=ω;have wr:i64.wrap ((j:Int)+1)=((j+1:Nat):Int):=by{rw [au ω];rfl};rw [wr,Ü];obtain ⟨is,_,_,_,_,_,_,_,_,_,_,_,_,_,_,H,I,J,b1,b2,b3,b4,K,L,M,gs⟩:=Ps (F.le eN λ_ _ g=>qK.le g eN) p;have N:=(š p).symm;have O:=e.len;rw [ē,ê] at O;generalize B[j]=u at *;refine ⟨is,ū,_,_,_,_,_,_,_,_,_,_,_,_,_,_,_,_,H,I,J,b1,b2,b3,b4,K,L,M,φ,ω,e.le,e.cap,rfl,PC,λsp P Q R=>⟨φ,(((j+1:Nat):Int),y1,y2,y3+1,P,us,_),ω,σ,j+1,rfl,p,C,?_⟩⟩;rw [N,ş];exact e.snoc (a:=(l,u)) rfl ⟨_,_,_,_,_,_,_,_,_,_,_,_,_,_,_,_,_,_,_,_,_,_,_,_,_,_,rfl,RL.le D ax,gs⟩ φ Q R};{have b:=Â b;obtain rfl:j=B.length:=ω;rw [Ĥ] at e;have e1:=C.len;have e2:=e.len;have g1:Ak l s m=A.map λu=>(l,u):=by{unfold Ak;rw [<-hA];rfl};have g2:Ak l s (Ö m)=B.map λu=>(l,u):=by{unfold Ak;rw [<-hB];rfl};rw [g1,g2];subst e1 e2;exact qyZ ⟨rfl,bM.bI T (C.row.le λ_ _ g=>vA.le g fw) φ C.le,bM.bI U (e.row.le λ_ _ g=>vA.le g fw) φ e.le⟩}
def MD (l:List Rat):List Rat:=l.foldl (λo x=>dE x o) []
theorem Qr (l):asc (MD l)/\∀x,x∈MD l↔x∈l:=by
 have:∀(l o:zA Rat),asc o->asc (l.foldl (λo x=>dE x o) o)/\∀x,x∈l.foldl (λo x=>dE x o) o↔x∈o\/x∈l:=by
  intro l
  induction l<;>grind [Kz,Cq]
 have ⟨a,b⟩:=this l [] List.Pairwise.nil;grind [MD]
theorem Rg:∀u∈í l m,u.good:=λu hu=>by
 unfold í at hu;split at hu
 ·grind [iw]
 ·split at hu
  ·rw [õ.1 hu];exact ⟨⟨Ū,λ_=>rfl⟩,rfl⟩
  ·rw [õ.1 hu];exact ⟨⟨λ_=>rfl,Ū⟩,rfl⟩
theorem UX (l m):Ú 2 [ä] (í l m)=í l m:=by grind [yj,comb_nil,CP,Rg]
theorem VF (u:s.good):Ak l s m=qu l s m:=by have h:=R8 (l:=l) (m:=m) u;rw [UX] at h;unfold Ak qu;rw [h];split<;>rfl
theorem inB_nil (t):ë [] t=false:=rfl
def gH (l:List L3):List L3:=l.foldl (λo x=>jU x o) []
theorem cE (l):(gH l).Pairwise rE/\∀x,x∈gH l↔x∈l:=by
 have:∀(l o:zA L3),o.Pairwise rE->(l.foldl (λo x=>jU x o) o).Pairwise rE/\∀x,x∈l.foldl (λo x=>jU x o) o↔x∈o\/x∈l:=by
  intro l
  induction l with
  | nil=>intro o h;exact ⟨h,λx=>ψ⟩
  | cons y r u=>
   intro o h;have ⟨a,b⟩:=u (jU y o) (Co h);refine ⟨a,λx=>?_⟩;rw [Š,b x,wg,ç];constructor
   ·rintro ((h|h)|h)<;>simp [h]
   ·rintro (h|h|h)<;>simp [h]
 have ⟨a,b⟩:=this l [] List.Pairwise.nil;exact ⟨a,λx=>by rw [gH,b x];simp⟩
theorem Rq {l m}(h:∀x,x∈l↔x∈m):gH l=gH m:=
 Hb (cE l).1 (cE m).1 λx=>by rw [(cE l).2 x,(cE m).2 x];exact h x
def aJ (m:L3)(l:List (L3×Sp)):List Sp:=(l.filter λx=>decide (x.1=m)).map Prod.snd
def bY (l:List (L3×Sp)):List (L3×Sp):=(gH (l.map Prod.fst)).flatMap λm=>(Ú 1 (aJ m l) []).map λs=>(m,s)
theorem QR {A B}(h:A.Perm B):Ú 1 A []=Ú 1 B []:=by refine reg_eq (à (A++[])++à (B++[])) (comb_reg ..) (comb_reg ..) λt a=>?_;rw [ú,not_or] at a;rw [comb_inB 1 _ _ a.1,comb_inB 1 _ _ a.2];have:ë A t=ë B t:=by{unfold ë;rw [ļ,Qh8,Qh8];exact ⟨λ⟨x,b,c⟩=>⟨x,h.mem_iff.1 b,c⟩,λ⟨x,b,c⟩=>⟨x,h.mem_iff.2 b,c⟩⟩};rw [this]
theorem Nq {l m}(h:l.Perm m):bY l=bY m:=by unfold bY;rw [Rq (l:=l.map Prod.fst) (m:=m.map Prod.fst) λx=>(h.map _).mem_iff];refine Æ (λf=>(gH (m.map Prod.fst)).flatMap f) (funext λk=>?_);rw [QR (A:=aJ k l) (B:=aJ k m) ((h.filter _).map _)]
theorem Nr {P Q:zA (L3×Sp)}(E:∀x∈P,rE x.1 m)(u:∀x∈Q,x.1=m)(hne:Q≠[]):bY (P++Q)=bY P++(Ú 1 (Q.map Prod.snd) []).map λs=>(m,s):=by
 have i:gH ((P++Q).map Prod.fst)=gH (P.map Prod.fst)++[m]:=by have ⟨j,k⟩:=cE ((P++Q).map Prod.fst);have ⟨n,g⟩:=cE (P.map Prod.fst);refine Hb j (Qf2.2 ⟨n,Qf3 _ _,λx c y d=>?_⟩) λx=>?_;{rw [õ.1 d];obtain ⟨z,b,rfl⟩:=ù.1 ((g x).1 c);exact E z b};{rw [k x,ş,ú,ú,g x,õ];refine or_congr_right ⟨λh=>?_,λh=>?_⟩;{obtain ⟨z,b,rfl⟩:=ù.1 h;exact u z b};{have ⟨z,b⟩:=Wz3 Q hne;exact ù.2 ⟨z,b,(u z b).m h.symm⟩}}
 have c:∀x∈gH (P.map Prod.fst),aJ x (P++Q)=aJ x P:=λx c=>by obtain ⟨z,b,rfl⟩:=ù.1 (((cE _).2 x).1 c);have f:=E z b;unfold aJ;rw [Qt3,(Qp1 (l:=Q)).2 λy d=>?_,ą];intro e;have e:=Á e;rw [<-e,u y d] at f;exact wz f
 have hm:aJ m (P++Q)=Q.map Prod.snd:=by unfold aJ;rw [Qt3,(Qp1 (l:=P)).2 λy d=>?_,ŗ,(Qs0 (l:=Q)).2 λy d=>Ç (u y d)];intro e;exact wz ((Á e)▸E y d)
 unfold bY;rw [i,Qc1,List.flatMap_singleton,hm];congr 1;generalize gH (P.map Prod.fst)=L at c
 induction L with
 | nil=>rfl
 | cons a r F=>rw [Ė,Ė,c a (Ć ..),F λx h=>c x (ø _ h)]
theorem PT {α:Type}{sz}{R u:un->um->α->Prop}{V' l}(h:é sz R V vs l)(m:∀v a,a∈l->R V v a->u V' v a):é sz u V' vs l:=
 ⟨λi b=>by have ⟨xs,c,d,e⟩:=h.at_ i b;exact ⟨xs,c,m _ _ (ô b) d,e⟩⟩
theorem N5 {ws m}(h:é 17 qD V ws m){i:Nat}(hi:i<m.length):∃(u y:Int)(p:OA)(z E:Int)(q:OA)(F M:Int)(r:OA)(u1 u2:Int)(t:OA)(N O:Int)(o:OA),((i*17+0)+9<=ws.length/\(ws.drop (i*17+0)).take 9=[Jq u,Jq y,qvZ p,Jq z,Jq E,qvZ q,Jq F,Jq M,qvZ r])/\((i*17+9)+8<=ws.length/\(ws.drop (i*17+9)).take 8=[Jq u1,Jq u2,qvZ t,Jq N,Jq O,qvZ o,Õ m[i].2.a,Õ m[i].2.b])/\vy V (dB #[Jq u,Jq y,qvZ p,Jq z,Jq E,qvZ q,Jq F,Jq M,qvZ r]) m[i].1/\fQ V (dB #[Jq u1,Jq u2,qvZ t,Jq N,Jq O,qvZ o,Õ m[i].2.a,Õ m[i].2.b]) m[i].2:=by obtain ⟨xs,-,c,k,f⟩:=h.get (d:=fY) hi φ;have e:m.getD i fY=m[i]:=by{rw [ĕ,ï hi];rfl};rw [e] at c;obtain ⟨_,_,_,_,_,_,_,_,_,_,_,_,_,_,_,ex,g,j⟩:=c;have ex:=Æ Array.toList (Value.agg.inj ex);subst ex;refine ⟨_,_,_,_,_,_,_,_,_,_,_,_,_,_,_,⟨ω,?_⟩,⟨ω,?_⟩,g,j⟩;{have:=Æ (List.take 9) f;rw [Wq1] at this;exact this};{have:=Æ (List.drop 9) f;rw [List.drop_take,Qh9] at this;exact this}
theorem Yt {V}{xs:zA um}{x}(h:fQ V (.agg xs.toArray) x):∀v∈xs,v.oneCell'=true:=by obtain ⟨_,_,_,_,_,_,ex,-,-⟩:=h;have ex:=Æ Array.toList (Value.agg.inj ex);subst ex;intro v a;simp only [ç,Ġ,Ì] at a;rcases a with rfl|rfl|rfl|rfl|rfl|rfl|rfl|rfl<;>rfl
theorem lt_le {a b c}(h:rE a b)(u:¬jP c b<0):rE a c:=by by_cases e:b=c;{rw [<-e];exact h};{exact Uq h (Pt u λk=>e k.symm)}
set_option maxHeartbeats 2000000 in
theorem FO {fs}(h:bM 17 qD V p n fs)(h0:fs=[]->p=none)(iY:fs.length<10000)(each:∀m,(aJ m fs).length<70)(hb:∀f∈fs,jC 10000 f.1)(hg:∀f∈fs,f.2.good)(hs:∀f∈fs,f.2.sz 1000000)(so:∀i,qM i):À 60 #[pT p n c] V λr W=>∃q m e,r=pT q m e/\bM 17 qD W q m (bY fs):=by
 refine DC V _ λV1 l1=>(Ta ra ω h0).s ?_;rintro r V2-⟨bm,vs,a1,a2,e,rfl,hle,X,Y,row,lW⟩;refine ⟨bm,vs,a1,λh=>.inl (a2 h),none,fs.length,e,rfl,?_⟩;have F:é 17 qD (V2.shut.bf (vs≠[]) bm) vs fs:=row.le λ_ _ g=>xF.le g λb o h=>h;clear a1 a2 row lW;refine ⟨λws V'=>∃m:zA (L3×Sp),m.Perm fs/\(m.Pairwise λx y=>¬jP y.1 x.1<0)/\é 17 qD V' ws m,⟨λD=>?_,λD V5 l5 U e1 e2=>?_⟩,?_⟩
 ·have Z:=Qv0 λh=>Y.2 h D;subst Z;obtain rfl:=X.1 D;refine ⟨rfl,λV3 l3=>vH.s λr V4 l4 rfl=>⟨rfl,vs,σ,[],.refl _,List.Pairwise.nil,é.nil⟩⟩
 ·have a0:e≠0:=λh=>D (X.2 h);have HU:∀b,mA b e=some ⟨b,0,none⟩:=λb=>by{unfold mA;rw [Ã a0]};rw [HU];refine (Ej (V:=V5.aw [vb vs V5.w.heap.size U]) (lb:=U) (vs:=vs) (l:=fs) (e1 D) ⟨by simp [kt D],e2 D⟩ ⟨PT F λv a ha g=>⟨xF.le g λb o h=>l5 b o h,hb a ha⟩,rfl,iY⟩).s ?_;rintro r V6 l6 ⟨rfl,ws,m,e3,sr,pm,pw⟩;have H3:=pm.length_eq;have hw:ws≠[]:=λe=>by{have:=sr.row.dN φ;rw [e,H3] at this;exact Y.1 D (Ĝ.1 (by rw [Ļ] at this;omega))};exact ⟨rfl,D,ws,hw,e3,ws,σ,m,pm,pw,PT sr.row λv a _ g=>xF.le g.1 λb o h=>h⟩
 rintro ws V7 l7 ⟨m,pm,pw,R⟩;rw [Nq pm.symm]
 replace hb:∀f∈m,jC 10000 f.1:=λf P=>hb f (pm.mem_iff.1 P)
 replace hg:∀f∈m,f.2.good:=λf P=>hg f (pm.mem_iff.1 P)
 replace hs:∀f∈m,f.2.sz 1000000:=λf P=>hs f (pm.mem_iff.1 P)
 replace each:∀u,(aJ u m).length<70:=λu=>by have:=((pm.filter λx=>decide (x.1=u)).map Prod.snd).length_eq;have:=each u;unfold aJ at *;omega
 rw [<-pm.length_eq] at iY hle ⊢;clear h0 h pm F X Y;have S:∀i j (A:i<m.length) (I:j<m.length),i<j->¬jP m[j].1 m[i].1<0:=λi j A I=>Ţ.1 pw i j A I;refine ⟨rfl,λz V'=>∃j:Nat,z.2.2.2=(j:Int)/\j<=m.length/\GR 17 qD V' z.1 z.2.1 z.2.2.1 (bY (m.take j))/\(bY (m.take j)).length<=300*j/\∀x∈m.take j,∀y∈m.drop j,rE x.1 y.1,λz=>m.length-z.2.2.2.toNat,⟨(0,0,[],0),σ,0,rfl,ã _,GR.nil,ã _,λx d=>by simp at d⟩,?_⟩;rintro ⟨n1,c1,os,i1⟩ V8 l8 ⟨j,ej,yo,Q,ol,sep⟩;subst ej;refine ⟨rfl,λB=>?_,λB mh fP U K=>?_⟩;rotate_left
 ·have B:¬(j:Int)<(m.length:Nat):=Â B;obtain rfl:j=m.length:=ω;rw [Ĥ] at Q;have:=bM.bI K (Q.row.le λ_ _ g=>xF.le g fP) φ (by rw [<-Q.len];exact Q.le);rw [<-Q.len] at this;exact ⟨_,_,_,rfl,this⟩
 have B:(j:Int)<(m.length:Nat):=Á B;have I:j<m.length:=ω
 refine ⟨λz V'=>∃k:Nat,z.2.2.2=(k:Int)/\j<=k/\k<=m.length/\GR 8 fQ V' z.1 z.2.1 z.2.2.1 (((m.take k).drop j).map Prod.snd)/\∀x∈(m.take k).drop j,x.1=m[j].1,λz=>m.length-z.2.2.2.toNat,⟨(0,0,[],(j:Int)),σ,j,rfl,Ù _,ω,?_,?_⟩,?_⟩
 ·rw [List.drop_eq_nil_of_le (by rw [ê];omega)];exact GR.nil
 ·rw [List.drop_eq_nil_of_le (by rw [ê];omega)];intro x d;cases d
 rintro ⟨n2,c2,us,i2⟩ V9 l9 ⟨k,ek,jk,a3,E,same⟩;dsimp only at ek E;subst ek;have L:=R.le λ_ _ g=>xF.le g (l8.m l9);obtain ⟨b1,b2,b3,b4,b5,b6,b7,b8,b9,-,-,-,-,-,-,jl,-,jr,-⟩:=N5 L I;refine ⟨rfl,λb V'=>V9.Le V'/\b=decide (∃h:k<m.length,m[k].1=m[j].1),⟨λt=>?_,λt=>?_⟩,?_⟩
 ·have t:(k:Int)<(m.length:Nat):=Á t;have t:k<m.length:=ω;dsimp only;rw [Ü,Ü];obtain ⟨d1,d2,d3,d4,d5,d6,d7,d8,d9,-,-,-,-,-,-,kl,-,kr,-⟩:=N5 L t;refine ⟨ū,hle,d1,d2,d3,d4,d5,d6,d7,d8,d9,kl,ū,hle,b1,b2,b3,b4,b5,b6,b7,b8,b9,jl,λgx a4=>(tj ra ra (hb _ (ô t)) (hb _ (ô I))).s λr fu dM rfl=>⟨_,rfl,_,σ,a4.m dM,É.2 ⟨λh=>⟨t,h⟩,λ⟨_,h⟩=>h⟩⟩⟩
 ·have t:¬(k:Int)<(m.length:Nat):=Â t;exact ⟨false,σ,Ó.Le.refl _,(È λ⟨h,_⟩=>ω).symm⟩
 rintro b iD eN ⟨G,rfl⟩;refine ⟨rfl,λt=>?_,λt kE fw U K=>?_⟩
 ·have ⟨t,a5⟩:=Á t;have w:i64.wrap ((k:Int)+1)=((k+1:Nat):Int):=by{rw [au ω];rfl};dsimp only;rw [Ü,w];obtain ⟨-,-,-,-,-,-,-,-,-,d1,d2,d3,d4,d5,d6,-,kl,-,kr⟩:=N5 (L.le λ_ _ g=>xF.le g G) t;have tk:(m.take (k+1)).drop j=(m.take k).drop j++[m[k]]:=by{rw [<-š t,List.drop_append_of_le_length (by rw [ê];omega)]};have sl:=E.len;rw [ē,Į,ê] at sl;refine ⟨ū,hle,d1,d2,d3,d4,d5,d6,_,_,kl,ω,E.le,E.cap,rfl,Yt (V:=iD) (x:=m[k].2) kr,λsp c' k1 k2=>⟨(n2+1,c',_,((k+1:Nat):Int)),by dsimp only;omega,σ,k+1,rfl,ω,t,?_,?_⟩⟩;{rw [tk,ş];exact (E.s λ_ _ g=>fQ.le g G).snoc rfl kr φ k1 k2};{rw [tk];intro x d;rcases ú.1 d with d|d;{exact same x d};{rw [õ.1 d];exact a5}}
 have t:=Â t;have a6:=Nat.lt_of_le_of_ne jk λe=>by subst e;exact t ⟨I,rfl⟩
 have sub:∀x∈(m.take k).drop j,x∈m:=λx d=>Qn4 (Qg4 d);have hA:=bM.bI K (E.row.le λ_ _ g=>fQ.le g ax) φ (by rw [<-E.len];exact E.le);rw [<-E.len] at hA
 have Al:(((m.take k).drop j).map Prod.snd).length<70:=by refine ś ?_ (each m[j].1);unfold aJ;rw [<-Qs0.2 λx d=>Ç (same x d)];exact ((((List.drop_sublist _ _).m (List.take_sublist _ _)).filter _).map _).length_le
 have P:=TR (((m.take k).drop j).map Prod.snd);refine (BO hA (λs M=>by obtain ⟨x,d,rfl⟩:=ù.1 M;exact hg x (sub x d)) (λs M=>by obtain ⟨x,d,rfl⟩:=ù.1 M;exact hs x (sub x d)) ω ω (so _)).s ?_;rintro r mg hZ ⟨q,n3,c3,rfl,hC⟩;refine ⟨_,_,_,rfl,λJ=>?_⟩
 have sn:bY (m.take k)=bY (m.take j)++(Ú 1 (((m.take k).drop j).map Prod.snd) []).map λs=>(m[j].1,s):=by
  have e:m.take k=m.take j++(m.take k).drop j:=by
   conv=>lhs;rw [<-Qj8 j (m.take k),Wq1,ğ ω]
  conv=>lhs;rw [e]
  refine Nr (λx d=>sep x d _ (Qm2.2 ⟨0,by rw [Į];omega,by rw [Qp7];rfl⟩)) same λh=>?_;have:=Æ List.length h;rw [Į,ê] at this;simp at this;omega
 have cl:=B5 1 (((m.take k).drop j).map Prod.snd) [];have f0:fe []=0:=rfl;generalize Ú 1 (((m.take k).drop j).map Prod.snd) []=C at hC sn cl;obtain rfl:=hC.len;refine ⟨λz V'=>∃i:Nat,z.2.2.2=(i:Int)/\i<=C.length/\GR 17 qD V' z.1 z.2.1 z.2.2.1 (bY (m.take j)++(C.take i).map λs=>(m[j].1,s)),λz=>C.length-z.2.2.2.toNat,⟨(n1,c1,os,0),σ,0,rfl,ã _,?_⟩,?_⟩
 ·rw [Qf4,List.map_nil,ą];exact Q.s λ_ _ g=>xF.le g ax
 rintro ⟨n4,c4,ts,i4⟩ mz eH ⟨i,ei,Ws,N⟩;dsimp only at ei N;subst ei;refine ⟨rfl,λA=>?_,λA=>?_⟩
 ·have A:(i:Int)<(C.length:Nat):=Á A;have A:i<C.length:=ω;have w:i64.wrap ((i:Int)+1)=((i+1:Nat):Int):=by{rw [au ω];rfl};dsimp only;rw [Ü,Ü,w];obtain ⟨ad,h0,xs,-,y2,H⟩:=(hC.le eH λ_ _ g=>fQ.le g eH).at_ i A;obtain ⟨_,_,_,_,_,_,ex,g1,g2⟩:=y2;have ex:=Æ Array.toList (Value.agg.inj ex);dsimp only at ex;subst ex;have he:xF mz (dB #[Jq b1,Jq b2,qvZ b3,Jq b4,Jq b5,qvZ b6,Jq b7,Jq b8,qvZ b9,Jq _,Jq _,qvZ _,Jq _,Jq _,qvZ _,Õ C[i].a,Õ C[i].b]) m[j].1 C[i]:=⟨_,_,_,_,_,_,_,_,_,_,_,_,_,_,_,rfl,ra,_,_,_,_,_,_,rfl,g1,g2⟩;have tl:=N.len;rw [î,ē,ê] at tl;refine ⟨bj h0,ū,_,_,_,_,_,_,_,_,ad,h0,H 0 _ rfl,H 1 _ rfl,H 2 _ rfl,H 3 _ rfl,H 4 _ rfl,H 5 _ rfl,H 6 _ rfl,H 7 _ rfl,ū,hle,b1,b2,b3,b4,b5,b6,b7,b8,b9,jl,ω,N.le,N.cap,rfl,Lf (V:=mz) (x:=(_,_)) he,λsp c' k1 k2=>⟨(n4+1,c',_,((i+1:Nat):Int)),by dsimp only;omega,σ,i+1,rfl,A,?_⟩⟩;rw [<-š A,ş,<-ě];exact N.snoc (a:=(m[j].1,C[i])) rfl he φ k1 k2
 ·have A:¬(i:Int)<(C.length:Nat):=Â A;obtain rfl:i=C.length:=ω
  rw [Ĥ] at N;refine ⟨(n4,c4,ts,(k:Int)),by dsimp only;omega,σ,k,rfl,a3,by rw [sn];exact N,by rw [sn,î,ē];omega,λx d y hy=>?_⟩;obtain ⟨W,a7,rfl⟩:=Qm2.1 hy;rw [Į] at a7;rw [Qp7];have O:k<m.length:=ω
  have T:=Pt (S j k I O a6) λe=>t ⟨O,e⟩
  have a8:rE m[j].1 m[k+W].1:=by by_cases e:W=0;{subst e;exact T};{exact lt_le T (S k (k+W) O ω ω)}
  have e:m.take k=m.take j++(m.take k).drop j:=by
   conv=>lhs;rw [<-Qj8 j (m.take k),Wq1,ğ ω]
  rw [e] at d;rcases ú.1 d with d|d
  ·exact sep x d _ (Qm2.2 ⟨k+W-j,by rw [Į];omega,by rw [Qp7];congr 1;omega⟩)
  grind
theorem Yr {fs}(h:bM 17 qD V p n fs):SA V p n fs:=⟨h.len,λi a=>by
 obtain ⟨b,c,xs,-,d,e⟩:=h.at_ i a;exact ⟨b,c,xs,d,e⟩⟩
theorem SL (l):(MD l).length<=l.length:=by
 have:∀(l o:zA Rat),(l.foldl (λo x=>dE x o) o).length<=o.length+l.length:=by
  intro l
  induction l with
  | nil=>exact λo=>Ù _
  | cons y r u=>intro o;have a:=u (dE y o);have b:=@oz y o;rw [Š,Ā];omega
 have:=this l [];simpa [MD] using this
theorem ka {root l}(M:∀x∈l,Bd x.ln)(h:AT V v root l){y z}(N:qL V 0 y)(O:qL V 1 z):À 21 #[v] V λr W=>(Gv l root=none->r=æ #[qvZ none,y])/\∀t,Gv l root=some t->t.depth<=1024->∃q,r=æ #[qvZ q,.nilIface]/\RT W q t:=by
 obtain ⟨q,n,c,rfl,-⟩:=id h;refine yJ V _ λp j=>(Qz M (h.le j)).s ?_;rintro r V2 s ⟨a,rfl,i⟩;refine ⟨_,_,rfl,λg=>⟨y,⟨_,rfl,N.le ax⟩,λu w=>?_⟩,λg A m=>?_⟩
 ·have g:Gv l root=none:=by cases e:Gv l root with
   | none=>rfl
   | some t=>rw [e] at g;cases g
  exact ⟨λ_=>rfl,λt b=>by rw [g] at b;cases b⟩
 ·(cases e:Gv l root with|none=>{rw [e] at g;cases g}|some t=>{have B:=UP e;refine (qT t ((i t e).le m) ω).s ?_;rintro r C D rfl;refine ⟨_,rfl,λd=>⟨z,⟨_,rfl,O.le ax⟩,λE F=>⟨Ū,λo b f=>?_⟩⟩,λd G H=>⟨Ū,λo b f=>?_⟩⟩;{cases b;have d:=Á d;omega};{cases b;exact ⟨_,rfl,(i t e).le ax⟩}})
theorem crp_of {S:zA L3}{t L}(u:Bd L)(y:t.eu λl=>Bd l/\l∈S)(E:S.length<=30)(z:∀l∈S,Bd l):OP L (MD (S.map λm=>Ø m L)) t:=by have ⟨b,a⟩:=Qr (S.map λm=>Ø m L);refine ⟨(M5 (y.imp λ_ h=>h.2)).imp λm h c=>(a _).2 (h c),b,?_,λx d=>?_⟩;{have:=SL (S.map λm=>Ø m L);rw [ē] at this;omega};{obtain ⟨m,hm,rfl⟩:=ù.1 ((a x).1 d);exact (qc u.iS (z m hm).iS).s ω}
theorem uB {L t P}(u:OP L P t):uY (nO L t)/\(∀s∈nO L t,s.sz 1000000)/\(nO L t).length<=61:=by have r:uY (nO L t):=comb_reg _ _ _;refine ⟨r,B7 u.sz λs a=>⟨r.1 s a,on_end u.crs s a⟩,?_⟩;have:=B5 3 (oA L true t) (oA L false t);obtain ⟨-,-,f1,-⟩:=wh u true;obtain ⟨-,-,f2,-⟩:=wh u false;show (Ú 3 (oA L true t) (oA L false t)).length<=61;omega
def uc (t:Tr)(L:L3):List (L3×Sp):=(nO L t).map λs=>(L,s)
def j7 (t:Tr)(D:List L3):List (L3×Sp):=D.flatMap λl=>uc t l++uc t (Ö l)
theorem F0:Ú 1 [bV] []=[bV]:=by refine reg_eq (à ([bV]++[])) (comb_reg ..) ⟨λs h=>by rw [õ.1 h];exact lG,Qf3 _ _⟩ λt a=>?_;rw [comb_inB 1 _ _ a];simp [ģ,ë]
def G3 (fs F:List (L3×Sp)):Prop:=∀{V:Ó} {p:OA} {n c:Nat},bM 17 qD V p n fs->(fs=[]->p=none)->À 60 #[.slice p n c] V λr W=>∃q m e,r=.slice q m e/\bM 17 qD W q m F
def Wy (V:Ó)(n c:Nat)(vs:List Value)(l:List (L3×Sp)):Prop:=GR 17 qD V n c vs l/\(l=[]->c=0)
theorem Wy.le {V V' l}(h:Wy V n c vs l)(g:V.Le V'):Wy V' n c vs l:=⟨h.1.s λ_ _ k=>xF.le k g,h.2⟩
set_option maxHeartbeats 4000000 in
theorem qS {q t}(h:RT V q t)(ha:t.eu Bd)(hs:t.size<4000)(hD:(aV t.cV).length<=50)(hc:∀l∈aV t.cV,∃P P',OP l P t/\OP (Ö l) P' t)(so:∀i,i<=60->qM i)(sl:G4 t.cV.length)(cl:Jr t.cV.length){F}(hJ:G3 (j7 t (aV t.cV)) F):À 22 #[qvZ q] V λr W=>∃p n c,r=pT p n c/\bM 17 qD W p n F:=by
 refine xj V _ λV1 l1=>(JP (h.le l1) ha hs sl cl).s ?_;rintro r V2 l2 ⟨p,n,c,m,rfl,gD,sD⟩;rw [Um sD] at gD;have b9:=hD;generalize aV t.cV=D at *;obtain rfl:=gD.len
 have iY:∀l∈D,(uc t l).length<=61/\(uc t (Ö l)).length<=61:=λl S=>by have ⟨P,P',c1,c2⟩:=hc l S;unfold uc;rw [ē,ē];exact ⟨(uB c1).2.2,(uB c2).2.2⟩
 have N:∀j,(j7 t (D.take j)).length<=122*50:=λj=>by
  have:∀E:zA L3,(∀l∈E,l∈D)->(j7 t E).length<=122*E.length:=λE hE=>by
   induction E with
   | nil=>exact Ù _
   | cons l E ih=>
    have h1:=ih λx hx=>hE x (ø _ hx);have ⟨f1,f2⟩:=iY l (hE l (Ć ..));unfold j7 at *;rw [Ė,î,î,Ā];omega
  have h1:=this (D.take j) λl S=>Ww2 _ _ S;rw [ê] at h1;omega
 refine ⟨p,_,c,rfl,λz V'=>∃j:Nat,z.2.2.2=(j:Int)/\j<=D.length/\Wy V' z.1 z.2.1 z.2.2.1 (j7 t (D.take j)),λz=>D.length-z.2.2.2.toNat,⟨(0,0,[],0),σ,0,rfl,ã _,GR.nil,λ_=>rfl⟩,?_⟩;rintro ⟨z1,z2,vs,z4⟩ V3 l3 ⟨j,O,yo,Q⟩;dsimp only at O Q;subst O;dsimp only;rw [Ü];refine ⟨rfl,λB=>?_,λB gx b0 bk hb=>?_⟩;rotate_left
 ·have B:¬(j:Int)<D.length:=Â B;obtain rfl:j=D.length:=ω;rw [Ĥ] at Q;obtain ⟨Q,h0⟩:=Q;obtain rfl:=Q.len;refine (hJ (bM.bI hb (Q.row.le λ_ _ g=>xF.le g b0) φ Q.le) λe=>by rw [h0 e];rfl).s ?_;rintro r fu dM ⟨q',m',e',rfl,g⟩;exact ⟨q',m',e',rfl,λ_ iD eN=>⟨q',m',e',rfl,g.le eN λ_ _ g=>xF.le g eN⟩⟩
 have B:(j:Int)<D.length:=Á B;have hi:j<D.length:=ω
 have w:i64.wrap ((j:Int)+1)=((j+1:Nat):Int):=by rw [au ω];rfl
 rw [w];have ⟨ps,T,U,W,X,Y,Z,y,A,q3,a,b5,a0,a1,a2,a3,a4,a5,a6,a7,a8,gl⟩:=XU (gD.le l3 λ_ _ k=>mW.le k l3) hi;have S:=ô hi
 have et:j7 t (D.take (j+1))=j7 t (D.take j)++(uc t D[j]++uc t (Ö D[j])):=by unfold j7;rw [Ķ,ï hi];show List.flatMap _ (_++[D[j]])=_;rw [Qc1,Ė,Wk9,ą]
 have ⟨P,P',c1,c2⟩:=hc _ S;have ⟨f1,f2⟩:=iY _ S;have fj:=N j;have b6:=N (j+1);rw [et] at b6;generalize D[j]=L at *;obtain ⟨gl,bl⟩:=gl;have gl:vy V3 _ L:=gl;refine ⟨ps,ū,T,U,W,X,Y,Z,y,A,q3,a,b5,a0,a1,a2,a3,a4,a5,a6,a7,a8,λV4 l4=>(kV (gl.le l4) bl.iS).s ?_⟩;rintro r V5 l5 gr;have Ko:vy V5 r (Ö L):=gr;obtain ⟨s1,s2,s3,s4,s5,s6,s7,s8,s9,rfl,-,-,-⟩:=gr
 refine ⟨s1,s2,s3,s4,s5,s6,s7,s8,s9,rfl,λz V'=>∃i:Nat,z.2.2.2.1=(i:Int)/\i<=2/\z.2.2.2.2=[Jq T,Jq U,qvZ W,Jq X,Jq Y,qvZ Z,Jq y,Jq A,qvZ q3,Jq s1,Jq s2,qvZ s3,Jq s4,Jq s5,qvZ s6,Jq s7,Jq s8,qvZ s9]/\V5.Le V'/\Wy V' z.1 z.2.1 z.2.2.1 (j7 t (D.take j)++([L,Ö L].take i).flatMap (uc t)),λz=>2-z.2.2.2.1.toNat,
  ⟨(z1,z2,vs,0,_),σ,0,rfl,ω,rfl,Ó.Le.refl _,by show Wy V5 z1 z2 vs (_++[]);rw [ą];exact Q.le ax⟩,?_⟩
 rintro ⟨u1,u2,us,u4,lits⟩ V6 l6 ⟨i,O,Ws,e5,XP,M⟩;dsimp only at O e5 M;subst O e5;dsimp only;rw [Ü];refine ⟨rfl,λf=>?_,λf=>?_⟩;rotate_left
 ·have f:¬(i:Int)<2:=Â f;obtain rfl:i=2:=ω;have e:([L,Ö L].take 2).flatMap (uc t)=uc t L++uc t (Ö L):=by{show uc t L++(uc t (Ö L)++[])=_;rw [ą]};rw [e,<-et] at M;exact ⟨(u1,u2,us,((j+1:Nat):Int)),by dsimp only;omega,σ,j+1,rfl,hi,M⟩
 have f:(i:Int)<2:=Á f;have wi:i64.wrap ((i:Int)+1)=((i+1:Nat):Int):=by rw [au ω];rfl
 have b7:∃(C Wv:Int)(G:OA)(H I:Int)(J:OA)(Wg Wh:Int)(K:OA)(d:L3),((0+i*9)+9<=([Jq T,Jq U,qvZ W,Jq X,Jq Y,qvZ Z,Jq y,Jq A,qvZ q3,Jq s1,Jq s2,qvZ s3,Jq s4,Jq s5,qvZ s6,Jq s7,Jq s8,qvZ s9]:zA um).length/\(([Jq T,Jq U,qvZ W,Jq X,Jq Y,qvZ Z,Jq y,Jq A,qvZ q3,Jq s1,Jq s2,qvZ s3,Jq s4,Jq s5,qvZ s6,Jq s7,Jq s8,qvZ s9]:zA um).drop (0+i*9)).take 9=[Jq C,Jq Wv,qvZ G,Jq H,Jq I,qvZ J,Jq Wg,Jq Wh,qvZ K]) /\
   vy V6 (dB #[Jq C,Jq Wv,qvZ G,Jq H,Jq I,qvZ J,Jq Wg,Jq Wh,qvZ K]) d/\Bd d/\(∃P,OP d P t)/\([L,Ö L].take (i+1)).flatMap (uc t)=([L,Ö L].take i).flatMap (uc t)++uc t d/\(([L,Ö L].take i).flatMap (uc t)).length<=61:=by
  rcases (show i=0\/i=1 by omega) with rfl|rfl
  ·exact ⟨T,U,W,X,Y,Z,y,A,q3,L,⟨by show 0+0*9+9<=18;omega,rfl⟩,gl.le ax,bl,⟨P,c1⟩,by show uc t L++[]=[]++uc t L;rw [ą];rfl,ã _⟩
  ·exact ⟨s1,s2,s3,s4,s5,s6,s7,s8,s9,Ö L,⟨by show 0+1*9+9<=18;omega,rfl⟩,Ko.le XP,bl.rev,⟨P',c2⟩,by show uc t L++(uc t (Ö L)++[])=(uc t L++[])++uc t (Ö L);rw [ą,ą],by show (uc t L++[]).length<=61;rw [ą];exact f1⟩
 obtain ⟨C,Wv,G,H,I,J,Wg,Wh,K,d,a9,gL,bL,⟨PL,cL⟩,eT,fT⟩:=b7;refine ⟨ū,C,Wv,G,H,I,J,Wg,Wh,K,a9,λV7 l7=>(Tj (h.le ax) ha (gL.le l7) bL cL so).s ?_⟩;rintro r V8 l8 ⟨p8,n8,c8,rfl,g8⟩;obtain rfl:=g8.len;have c0:=(uB cL).2.2
 refine ⟨p8,_,c8,rfl,λz V'=>∃k:Nat,z.2.2.2.1=(k:Int)/\k<=(nO d t).length/\z.2.2.2.2=[Jq T,Jq U,qvZ W,Jq X,Jq Y,qvZ Z,Jq y,Jq A,qvZ q3,Jq s1,Jq s2,qvZ s3,Jq s4,Jq s5,qvZ s6,Jq s7,Jq s8,qvZ s9]/\V8.Le V'/\Wy V' z.1 z.2.1 z.2.2.1 ((j7 t (D.take j)++([L,Ö L].take i).flatMap (uc t))++((nO d t).take k).map λs=>(d,s)),λz=>(nO d t).length-z.2.2.2.1.toNat,
  ⟨(u1,u2,us,0,_),σ,0,rfl,ã _,rfl,Ó.Le.refl _,by show Wy V8 u1 u2 us (_++[]);rw [ą];exact M.le ax⟩,?_⟩
 rintro ⟨w1,w2,ws,w4,lits⟩ V9 l9 ⟨k,O,c3,e5,R,v⟩;dsimp only at O e5 v;subst O e5;dsimp only;rw [Ü];refine ⟨rfl,λo=>?_,λo=>?_⟩;rotate_left
 ·have o:¬(k:Int)<(nO d t).length:=Â o;obtain rfl:k=(nO d t).length:=ω
  rw [Ĥ] at v;refine ⟨(w1,w2,ws,((i+1:Nat):Int),_),by dsimp only;omega,by and_intros<;>first|rfl|exact wi,i+1,rfl,ω,rfl,XP.m ax,?_⟩;show Wy V9 w1 w2 ws _;rw [eT,<-ě];exact v
 have o:(k:Int)<(nO d t).length:=Á o;have hk:k<(nO d t).length:=ω
 have wk:i64.wrap ((k:Int)+1)=((k+1:Nat):Int):=by rw [au ω];rfl
 obtain ⟨ad,hd,xs,-,hq,u⟩:=(g8.le R λ_ _ g=>fQ.le g R).at_ k hk;have b8:=hq;obtain ⟨v1,v2,v3,v4,v5,v6,ex,-,-⟩:=hq;have ex:=Æ Array.toList (Value.agg.inj ex);dsimp only at ex;subst ex;have zl:=v.1.len;rw [î,î,ē,ê] at zl
 have ek:(((nO d t).take (k+1)).map λs=>(d,s))=(((nO d t).take k).map λs=>(d,s))++[(d,(nO d t)[k])]:=by rw [Ķ,ï hk,ş];rfl
 have rf:qD V9 (dB #[Jq C,Jq Wv,qvZ G,Jq H,Jq I,qvZ J,Jq Wg,Jq Wh,qvZ K,Jq v1,Jq v2,qvZ v3,Jq v4,Jq v5,qvZ v6,Õ (nO d t)[k].a,Õ (nO d t)[k].b]) (d,(nO d t)[k]):=⟨_,_,_,_,_,_,_,_,_,_,_,_,_,_,_,rfl,gL.le ax,b8⟩;refine ⟨bj hd,ū,v1,v2,v3,v4,v5,v6,_,_,ad,hd,u 0 _ rfl,u 1 _ rfl,u 2 _ rfl,u 3 _ rfl,u 4 _ rfl,u 5 _ rfl,u 6 _ rfl,u 7 _ rfl,ω,v.1.le,v.1.cap,rfl,one17,λsp c' h1 h2=>⟨(w1+1,c',_,((k+1:Nat):Int),_),by dsimp only;omega,by and_intros<;>first|rfl|exact wk,k+1,rfl,hk,rfl,R,?_,λe=>?_⟩⟩
 ·show GR 17 qD V9 _ _ _ _;rw [ek,<-ě];exact v.1.snoc rfl rf φ h1 h2
 ·rw [ek,<-ě] at e;simp at e
theorem qR {root l}(M:∀x∈l,Bd x.ln)(h:AT V v root l){t}(N:Gv l root=some t)(O:t.depth<=1024)(Z:t.eu Bd)(hs:t.size<4000)(hD:(aV t.cV).length<=50)(hc:∀l∈aV t.cV,∃P P',OP l P t/\OP (Ö l) P' t)(so:∀i,i<=60->qM i)(sl:G4 t.cV.length)(cl:Jr t.cV.length){F}(hJ:G3 (j7 t (aV t.cV)) F)(iY:F.length<=10000)(sz:∀f∈F,jC 1000000 f.1/\f.2.sz 1000000){y z}(hy:qL V 0 y)(hz:qL V 1 z):À 39 #[v] V λr W=>∃p n c,r=æ #[pT p n c,.nilIface]/\Sy W p n F:=by have k:=h;obtain ⟨q,n,c,rfl,-⟩:=h;refine qF V _ λC a=>(ka M (k.le a) (hy.le a) (hz.le a)).s ?_;rintro r V2 D ⟨-,g⟩;obtain ⟨p,rfl,gt⟩:=g t N O;refine ⟨p,.nilIface,rfl,.inl rfl,π,λ_ E m=>(qS (gt.le m) Z hs hD hc so sl cl hJ).s ?_⟩;rintro r G H ⟨o,s,u,rfl,w⟩;refine ⟨o,s,u,rfl,λI b=>(MK (Yr (w.le b λ_ _ g=>xF.le g b)) iY sz).s ?_⟩;rintro r J K ⟨d,e,j,rfl,A⟩;exact ⟨d,e,j,rfl,λL B=>⟨d,e,j,rfl,A.le B⟩⟩
theorem Ct {fs}(y:∀f∈fs,Bd f.1/\f.2.sz 1000000):∀f∈bY fs,jC 1000000 f.1/\f.2.sz 1000000:=λf a=>by
 have ⟨m,hm,a⟩:=ċ.1 a;obtain ⟨s,b,rfl⟩:=ù.1 a;obtain ⟨g,c,rfl⟩:=ù.1 (((cE _).2 _).1 hm);refine ⟨(y g c).1.iS.up ω,W9 φ (λu hu=>?_) (λu hu=>by cases hu) s b⟩;obtain ⟨x,d,rfl⟩:=ù.1 hu;exact (y x (ġ.1 d).1).2
theorem Pr (h:s.a=false):s.Jm.length=1:=by unfold Sp.Jm;rw [h];rfl
theorem Pl (h:s.b=false):s.HT.length=1:=by unfold Sp.HT;rw [h];rfl
theorem PQ:∀{l:zA Sp},uY l->(∀s∈l,s.a=false)->2*l.length<=fe l+1
 | [],_,_=>ã _
 | [s],_,h=>by
  have:=Pr (h s (Ć ..));rw [sZ,î,Qc3];omega
 | s::z::r,h,u=>by
  have c:=PQ h.tail λx b=>u x (ø _ b);have d:=Pr (u s (Ć ..));have e:=Pl (h.MF (Ć ..)).1;rw [sZ,î,Ā];omega
theorem reg_fe:∀{l:zA Sp},uY l->2*l.length<=fe l+2
 | [],_=>ã _
 | [s],_=>by rw [Qc3];omega
 | s::z::r,h=>by
  have u:=PQ h.tail λx a=>(h.MF a).2.1;have b:=Pl (h.MF (Ć ..)).1;rw [sZ,î,Ā];omega
theorem QP (A):(Ú 1 A []).length<=A.length+1:=by have a:=reg_fe (comb_reg 1 A []);have b:=W8 1 A [];have c:=TR A;have d:fe []=0:=rfl;omega
theorem Cg {α:Type}(p):∀l:zA α,(l.filter p).length+(l.filter λx=>!p x).length=l.length
 | []=>rfl
 | x::r=>by
  have u:=Cg p r;rw [Qr5,Qr5];cases p x<;>simp<;>omega
theorem KX:∀(L:zA L3)(l:zA (L3×Sp)),L.Pairwise rE->(L.map λm=>(aJ m l).length).sum<=l.length
 | [],_,_=>ã _
 | m::L,l,h=>by
  have ⟨u,y⟩:=Ģ.1 h
  have e:(L.map λa=>(aJ a l).length)=L.map λa=>(aJ a (l.filter λx=>!decide (x.1=m))).length:=by
   refine Ŗ λa hm=>?_;unfold aJ;rw [List.filter_filter];congr 2;refine List.filter_congr λx _=>?_;by_cases c:x.1=a
   ·have:¬x.1=m:=λe=>wz (show rE m m from by have:=u a hm;rw [<-c,e] at this;exact this);simp [c,this];rw [c] at this;simpa using this
   ·simp [c]
  have b:=KX L (l.filter λx=>!decide (x.1=m)) y;have f:=Cg (λx:L3×Sp=>decide (x.1=m)) l;rw [ĺ,Wk5,e];have g:(aJ m l).length=(l.filter λx=>decide (x.1=m)).length:=by unfold aJ;rw [ē]
  omega
theorem Nw (l):(gH l).length<=l.length:=by
 have:∀(l o:zA L3),(l.foldl (λo x=>jU x o) o).length<=o.length+l.length:=by
  intro l
  induction l with
  | nil=>exact λo=>Ù _
  | cons y r u=>intro o;have a:=u (jU y o);have b:=Cp y o;rw [Š,Ā];omega
 have:=this l [];simpa [gH] using this
theorem th (l):(bY l).length<=2*l.length:=by
 have b:=KX (gH (l.map Prod.fst)) l (cE _).1;have a:=Nw (l.map Prod.fst);rw [ē] at a;unfold bY;generalize gH (l.map Prod.fst)=L at *
 have c:(L.flatMap λm=>(Ú 1 (aJ m l) []).map λs=>(m,s)).length<=(L.map λm=>(aJ m l).length).sum+L.length:=by
  clear b a
  induction L with
  | nil=>exact Ù _
  | cons m r u=>
   have:=QP (aJ m l);rw [Ė,î,ē,ĺ,Wk5,Ā];omega
 omega
theorem J8 {A}(h:uY A):Ú 1 A []=A:=by refine reg_eq (à (A++[])) (comb_reg ..) h λt a=>?_;rw [comb_inB 1 _ _ a,inB_nil];unfold ģ;simp
theorem Dj (C:L3->zA Sp)(m:L3):∀L:zA L3,L.Pairwise rE->aJ m (L.flatMap λu=>(C u).map λs=>(u,s))=if m∈L then C m else []
 | [],_=>rfl
 | k::L,h=>by
  have ⟨y,z⟩:=Ģ.1 h
  have b:aJ m ((k::L).flatMap λu=>(C u).map λs=>(u,s))=aJ m ((C k).map λs=>(k,s))++aJ m (L.flatMap λu=>(C u).map λs=>(u,s)):=by
   unfold aJ;rw [Ė,Qt3,ş]
  rw [b,(Dj C m L z)];by_cases c:m=k
  ·subst c;rw [Ã λhm=>wz (y m hm),Ä (Ć ..),ą];unfold aJ;rw [Qs0.2 λx a=>by obtain ⟨s,-,rfl⟩:=ù.1 a;exact Ç rfl,Qs1];exact Wv8 _
  ·have e:aJ m ((C k).map λs=>(k,s))=[]:=by{unfold aJ;rw [Qp1.2 λx a=>by obtain ⟨s,-,rfl⟩:=ù.1 a;simp;exact λh=>c h.symm];rfl};rw [e,ŗ];by_cases d:m∈L;{rw [Ä d,Ä (ø _ d)]};{rw [Ã d,Ã λh=>by rcases ç.1 h with h|h;exact c h;exact d h]}
theorem tw (h:bX l=true):bX (Ö l)=true:=by unfold bX Ö cj at *;simp only [Ŧ] at *;simpa using h
theorem QQ:Ú 1 [] []=[]:=J8 ⟨λ_ h=>(nomatch h),List.Pairwise.nil⟩
theorem Dk {l}(h:m∉l.map Prod.fst):aJ m l=[]:=by unfold aJ;rw [Qp1.2 λx a=>?_];rfl;intro e;exact h (ù.2 ⟨x,a,Á e⟩)
theorem GM (m a b):aJ m (a++b)=aJ m a++aJ m b:=by unfold aJ;rw [Qt3,ş]
theorem GO (m L t):aJ m (uc t L)=if L=m then nO m t else []:=by unfold uc;by_cases h:L=m;{subst h;rw [Ä rfl];unfold aJ;rw [Qs0.2 λx a=>by obtain ⟨s,-,rfl⟩:=ù.1 a;exact Ç rfl,Qs1];exact Wv8 _};{rw [Ã h];refine Dk λg=>h ?_;obtain ⟨x,a,rfl⟩:=ù.1 g;obtain ⟨s,-,rfl⟩:=ù.1 a;rfl}
theorem J4 (h:bX l=true):bC (Ö l)=bC l:=by have nz:=eK h;unfold Nz at nz;unfold bC;by_cases c:l.1<0\/l.1=0/\l.2.1<0;{rw [Ä c,Ã (by unfold Ö;dsimp only;omega)]};{rw [Ã c,Ä (by unfold Ö;dsimp only;omega),rev_rev]}
theorem GN (t m):∀{D:zA L3},D.Pairwise rE->(∀l∈D,bX l=true/\bC l=l)->aJ m (j7 t D)=if bC m∈D then nO m t else []
 | [],_,_=>rfl
 | l::D,h,u=>by
  have ⟨y,z⟩:=Ģ.1 h;have ⟨o,c⟩:=u l (Ć ..);have e:j7 t (l::D)=(uc t l++uc t (Ö l))++j7 t D:=rfl;rw [e,GM,GM,GO,GO,(GN t m z λx f=>u x (ø _ f))];have out:bC m=l->bC m∉D:=λg k=>wz (show rE l l by have:=y _ k;rwa [g] at this);by_cases a:l=m
  ·subst a;rw [Ä rfl,Ã (rev_ne o),Ã (out c),Ä (by rw [c];exact Ć ..)];simp
  ·rw [Ã a];by_cases b:Ö l=m
   ·subst b;have g:bC (Ö l)=l:=by rw [J4 o,c]
    rw [Ä rfl,Ã (out g),Ä (by rw [g];exact Ć ..)];simp
   ·rw [Ã b]
    have g:bC m≠l:=λg=>by
     rcases pG m with k|k<;>rw [k] at g
     ·exact a g.symm
     ·exact b (by rw [<-g,rev_rev])
    by_cases d:bC m∈D
    ·rw [Ä d,Ä (ø _ d)];rfl
    ·rw [Ã d,Ã λk=>by rcases ç.1 k with k|k;exact g k;exact d k];rfl
def F4 (m:L3)(t:Tr):List Rat:=t.cV.map λk=>Ø k m
theorem Tw (m t):Crs m (F4 m t) t:=M5 (Tr.kT λ_ h=>h)
theorem IP (u:bX m=true){q v w}:∀{t:Tr},(∀k∈t.cV,bX k=true/\k≠m/\k≠Ö m/\Ø k m≠q)->aq.Am t (cP m q,cR m q) v=aq.Am t (cP m q,cR m q) w
 | .leaf _,_=>rfl
 | .node k a b,h=>by
  have ⟨ok,y,z,E⟩:=h k (Ć ..);have d:ay k (cP m q) (cR m q)≠0:=by rcases H8 ok u (t:=q) (Ne.symm E) with g|g|g;exact Å g y;exact Å g z;exact g
  have s:∀x,aq.N8 k (cP m q,cR m q) x=(ay k (cP m q) (cR m q)).num.sign:=λx=>by
   unfold aq.N8;rw [Ã λe=>d (aq.cF.1 e)]
  unfold aq.Am;rw [s,s,(IP u (v:=v) (w:=w) (t:=a) λx c=>h x (ø _ (Ĩ _ c))),(IP u (v:=v) (w:=w) (t:=b) λx c=>h x (ø _ (Ĺ _ c)))]
theorem ME (u:bX m=true){t}(y:∀k∈t.cV,bX k=true)(h:bC m∉t.cV.map bC):nO m t=[]:=by refine reg_eq (F4 m t) (comb_reg ..) ⟨λ_ h=>(nomatch h),List.Pairwise.nil⟩ λq b=>?_;have ne:∀k∈t.cV,k≠m/\k≠Ö m:=λk a=>⟨λe=>h (ù.2 ⟨k,a,by rw [e]⟩),λe=>h (ù.2 ⟨k,a,by rw [e,J4 u]⟩)⟩;rw [UW (Tw m t) u (Tr.kT y) b,IP u (v:=i_ m true) (w:=i_ m false) λk a=>⟨y k a,(ne k a).1,(ne k a).2,λe=>b (ù.2 ⟨k,a,e⟩)⟩];cases (aq.Am t (cP m q,cR m q) (i_ m false)).1<;>rfl
theorem P7 {t}(u:∀k∈t.cV,bX k=true)(m):aJ m (j7 t (aV t.cV))=if bX m=true then nO m t else []:=by
 have ⟨d1,d2⟩:=hU t.cV
 rw [GN t m d1 λl b=>by
  obtain ⟨k,a,rfl⟩:=ù.1 ((d2 l).1 b);exact ⟨H9 (u k a),J3 k⟩]
 by_cases o:bX m=true
 ·rw [Ä o];by_cases c:bC m∈aV t.cV;{rw [Ä c]};{rw [Ã c,ME o u λk=>c ((d2 _).2 k)]}
 ·rw [Ã o,Ã λc=>o ?_];have ⟨k,a,e⟩:=ù.1 ((d2 _).1 c);have:=H9 (u k a);rw [e] at this;rcases pG m with g|g<;>rw [g] at this;{exact this};{rw [<-rev_rev m];exact tw this}
theorem Lo (m:L3)(l:zA (L3×Sp)):aJ m (bY l)=Ú 1 (aJ m l) []:=by show aJ m ((gH (l.map Prod.fst)).flatMap λm=>(Ú 1 (aJ m l) []).map λs=>(m,s))=_;rw [Dj (λm=>Ú 1 (aJ m l) []) m _ (cE _).1];split;{rfl};{rename_i h;rw [Dk λg=>h (((cE _).2 m).2 g),QQ]}
structure zR (S:List L3) (t:Tr):Prop where
 ok:t.eu my
 on:t.eu λl=>Bd l/\l∈S
 iY:S.length<=25
 bd:∀l∈S,Bd l
 size:t.size<4000
 dep:t.depth<=1024
section
variable {S:List L3} {t:Tr} (h:zR S t)
include h
theorem zR.crp {m}(u:Bd m):OP m (MD (S.map λk=>Ø k m)) t:=crp_of u h.on (by have:=h.iY;omega) h.bd
theorem zR.okb:∀l∈aV t.cV,my l:=TF (q:=my) (λl h=>by rcases pG l with e|e<;>rw [e];exact h;exact pQ h) λl a=>tq h.ok l a
theorem zR.oks:∀l∈t.cV,bX l=true:=λl a=>(tq h.ok l a).1
theorem zR.lines:(aV t.cV).length<=25:=by have ⟨d1,d2⟩:=hU t.cV;have:=List.Nodup.length_le_of_subset (l₂:=S.map bC) (d1.imp λ{a b} g (e:a=b)=>by subst e;exact wz g) λx c=>by{grind [tq,h.on]};grind [h.iY]
theorem zR.each (m):(aJ m (j7 t (aV t.cV))).length<=61:=by rw [P7 h.oks];split;{rename_i o;by_cases c:bC m∈t.cV.map bC;{have ⟨k,b,e⟩:=ù.1 c;have a:=(tq h.ok k b).2.can;rw [e] at a;have d:Bd m:=by{grind [pG,rev_rev,a.rev]};exact (uB (h.crp d)).2.2};grind [ME,h.oks]};{exact ã _}
theorem zR.zw:∀f∈j7 t (aV t.cV),FOk f.1 f.2/\Bd f.1/\f.2.sz 1000000:=λf a=>by
 have ⟨l,d,a⟩:=ċ.1 a;have k:=h.okb l d
 have one:∀m,my m->f∈uc t m->FOk f.1 f.2/\Bd f.1/\f.2.sz 1000000:=λm b hm=>by
  obtain ⟨s,c,rfl⟩:=ù.1 hm;obtain ⟨r,z,-⟩:=uB (h.crp b.2);exact ⟨⟨b.1,r.1 s c⟩,b.2,z s c⟩
 rcases ú.1 a with g|g<;>grind [pQ]
theorem zR.len:(j7 t (aV t.cV)).length<=3050:=by
 have:∀E:zA L3,(∀l∈E,my l)->(j7 t E).length<=122*E.length:=λE a=>by
  induction E with
  | nil=>exact Ù _
  | cons l E u=>
   have c:=u λx b=>a x (ø _ b);have k:=a l (Ć ..);have f1:=(uB (h.crp k.2)).2.2;have f2:=(uB (h.crp k.2.rev)).2.2;unfold j7 uc at *;grind
 grind [h.okb,h.lines]
end
end Go.Proofs.Tryz
namespace Go.Proofs.Tryz.aq
open Go.Eng Go.Big
def sd3 (l:L3)(p d n:V2):Int:=if (ay l p.1 p.2).num.sign≠0 then (ay l p.1 p.2).num.sign else if (nv l d).num.sign≠0 then (nv l d).num.sign else (nv l n).num.sign
def nF:Tr->V2->V2->V2->Bool×Bool
 | .leaf i,_,_,_=>(i,true)
 | .node l a b,p,d,n=>if sd3 l p d n=1 then nF a p d n else if sd3 l p d n=-1 then nF b p d n else (false,false)
def yI:∀{t:Tr} {p d n q:V2},(∀l∈t.cV,(ay l p.1 p.2≠0->(ay l q.1 q.2).num.sign=(ay l p.1 p.2).num.sign)/\(ay l p.1 p.2=0->(ay l q.1 q.2).num.sign=(nv l d).num.sign))->Am t q n=nF t p d n
 | .leaf _,_,_,_,_,_=>rfl
 | .node l a b,p,d,n,q,h=>by
  have ⟨u,y⟩:=h l (Ć ..)
  have e:N8 l q n=sd3 l p d n:=by
   unfold N8 sd3;by_cases z:ay l p.1 p.2=0
   ·rw [y z,Ã (c:=(ay l p.1 p.2).num.sign≠0) (by rw [cF.2 z];simp)];by_cases c:(nv l d).num.sign=0;{rw [Ä c,Ã (by simpa using c)]};{rw [Ã c,Ä c]}
   ·have k:(ay l p.1 p.2).num.sign≠0:=λe=>z (cF.1 e);rw [u z,Ã k,Ä k]
  unfold Am nF;rw [e,(yI (t:=a) (p:=p) (d:=d) (n:=n) (q:=q) λm hm=>h m (ø _ (Ĩ _ hm))),(yI (t:=b) (p:=p) (d:=d) (n:=n) (q:=q) λm hm=>h m (ø _ (Ĺ _ hm)))]
def tI:∀{t:Tr} {p d n x:V2},(∀l∈t.cV,ay l p.1 p.2=0->(nv l x).num.sign=if (nv l d).num.sign≠0 then (nv l d).num.sign else (nv l n).num.sign)->Am t p x=nF t p d n
 | .leaf _,_,_,_,_,_=>rfl
 | .node l a b,p,d,n,x,h=>by
  have e:N8 l p x=sd3 l p d n:=by
   unfold N8 sd3;by_cases z:ay l p.1 p.2=0
   ·rw [Ä (cF.2 z),(h l (Ć ..)) z,Ã (c:=(ay l p.1 p.2).num.sign≠0) (by rw [cF.2 z];simp)]
   ·have k:(ay l p.1 p.2).num.sign≠0:=λe=>z (cF.1 e);rw [Ã k,Ä k]
  unfold Am nF;rw [e,(tI (t:=a) (p:=p) (d:=d) (n:=n) (x:=x) λm hm=>h m (ø _ (Ĩ _ hm))),(tI (t:=b) (p:=p) (d:=d) (n:=n) (x:=x) λm hm=>h m (ø _ (Ĺ _ hm)))]
def TrnL (D:List V2)(u x:V2):Prop:=∀r∈D,(cr r u>0->cr r x>0)/\(cr r u<0->cr r x<0)/\(cr r u=0->(dt r u>0->cr r x>0)/\(dt r u<0->cr r x<0))/\cr r x≠0
def TrnR (D:List V2)(w y:V2):Prop:=∀r∈D,(cr r w>0->cr r y>0)/\(cr r w<0->cr r y<0)/\(cr r w=0->(dt r w>0->cr r y<0)/\(dt r w<0->cr r y>0))/\cr r y≠0
def VW {D:zA V2}(y:∀r∈D,nz r){u:V2}(hu:nz u):∃x,TrnL D u x:=by have ⟨e,a,he⟩:=pert u hu D y;refine ⟨Rp 1 u e (r_ u),λr b=>?_⟩;have ⟨c,d,f⟩:=he e a χ r b;have k:cr r (Rp 1 u e (r_ u))=cr r u+e*dt r u:=by{rw [HD,HE];grind};refine ⟨c,d,λz=>⟨λg=>?_,λg=>?_⟩,f⟩;{rw [k,z];have:=mp a g;grind};{rw [k,z];have:=mp a (show -dt r u>0 by grind);grind}
def turn_r {D:zA V2}(u:∀r∈D,nz r){w:V2}(hw:nz w):∃y,TrnR D w y:=by have c:∀{r:V2},nz r->nz (Gr r):=λ{r} h=>by{unfold nz Gr at *;grind};have ⟨x,a⟩:=VW (D:=D.map Gr) (λr b=>by obtain ⟨s,z,rfl⟩:=ù.1 b;exact c (u s z)) (c hw);refine ⟨Gr x,λr b=>?_⟩;have a:=a (Gr r) (ù.2 ⟨r,b,rfl⟩);have e:Gr (Gr x)=x:=by{unfold Gr;simp};have k:cr (Gr r) x=-cr r (Gr x):=by{rw [<-e,xX,e]};have d:dt (Gr r) (Gr w)=dt r w:=by{unfold dt Gr;grind};rw [xX,k,d] at a;grind
def HR {u v:V2}(hu:nz u)(y:nz v)(z:cr u v=0)(d:dt u v>0):half u=half v:=by have c:u.1*dt v v=v.1*dt u v:=by{unfold cr dt at *;grind};have f:u.2*dt v v=v.2*dt u v:=by{unfold cr dt at *;grind};have s:∀{a b:Rat},a*dt v v=b*dt u v->(a>0↔b>0)/\(a<0↔b<0):=λ{a b} e=>by{have g:=H4 (x:=a) (sq_pos y);have h:=H4 (x:=b) d;grind};have i:=qt (q:=u.1);have j:=qt (q:=v.1);have k:=zM (q:=u.1);have l:=zM (q:=v.1);have m:=zM (q:=u.2);have n:=zM (q:=v.2);have o:=cF (q:=u.2);have p:=cF (q:=v.2);unfold half;grind
def Pa {u v:V2}(hu:nz u)(y:nz v)(z:cr u v=0):dt u v≠0:=λe=>by
 have:cr u v*cr u v+dt u v*dt u v=dt u u*dt v v:=by unfold cr dt;grind
 have:=mp (sq_pos hu) (sq_pos y);grind
section
variable {D:List V2} (h:YU D)
include h
theorem PN {i j:Nat}{u v}(hi:D[i]?=some u)(y:D[j]?=some v)(z:cr u v=0)(d:dt u v>0):i=j:=by have a:=h.nz u (ı hi);have nv:=h.nz v (ı y);have e:=fA.2 ⟨HR a nv z d,z⟩;have b:=fA.2 ⟨(HR a nv z d).symm,by rw [eA,z];grind⟩;rcases Nat.lt_trichotomy i j with g|g|g;{have:=(G8 a nv).2 (zF h hi y g);omega};{exact g};{have:=(G8 nv a).2 (zF h y hi g);omega}
theorem adj {i:Nat}{u w x y}(hi:D[i]?=some u)(hw:D[(i+1)%D.length]?=some w)(hx:TrnL D u x)(hy:TrnR D w y){r}(Z:r∈D):(cr r x>0↔cr r y>0)/\(cr r x<0↔cr r y<0):=by have b:=ı hi;have d:=ı hw;have A:=h.nz u b;have B:=h.nz w d;have C:=Wy6 b;have self:∀z:V2,cr z z=0:=λz=>by{unfold cr;grind};obtain ⟨j,o,Q,m,e,I,J,K,E,L⟩:=sect h (v:=x) (λr Z=>(hx r Z).2.2.2) C;obtain ⟨k,R,n,p,a,b1,b2,b3,b4,F⟩:=sect h (v:=y) (λr Z=>(hy r Z).2.2.2) C;have S:=(Đ.1 m).1;have T:=(Đ.1 p).1;have f:=ı m;have l:=ı a;have M:j=i:=by{have q:=(E u b (((hx u b).2.2.1 (self u)).1 (sq_pos A))).1;obtain ⟨N,O,P,-⟩:=hx o f;have z:cr o u=0:=χ;refine PN h m hi z ?_;have:=Pa (h.nz o f) A z;grind};have s:(k+1)%D.length=(i+1)%D.length:=by{have q:=(F w d (((hy w d).2.2.1 (self w)).1 (sq_pos B))).1;obtain ⟨N,O,P,-⟩:=hy n l;have U:=eA w n;have z:cr n w=0:=χ;refine PN h a hw z ?_;have:=Pa (h.nz n l) B z;grind};have t:k=i:=by{rcases Ď (k+1) D.length with g|g<;>rcases Ď (i+1) D.length with g'|g';{rw [Ĕ g,Ĕ g'] at s;omega};{rw [Ĕ g,show i+1=D.length by omega,Wy5] at s;omega};{rw [Ĕ g',show k+1=D.length by omega,Wy5] at s;omega};{omega}};subst M t;rw [m] at hi p;cases hi;cases p;rw [hw] at e a;cases e;cases a;obtain ⟨G,H⟩:∃G,IsSm u w G:=by{by_cases c:cr u w>0;{exact ⟨_,.inl ⟨c,1,1,χ,χ,rfl⟩⟩};{exact ⟨_,.inr ⟨χ,1,χ,rfl⟩⟩}};have s1:=PX h b d I J K E L H Z;have s2:=PX h b d b1 b2 b3 b4 F H Z;have V:=(hx r Z).2.2.2;have W:=(hy r Z).2.2.2;grind
end
def CovT (D:List V2)(t:Tr)(p:V2):Prop:=∀l∈t.cV,ay l p.1 p.2=0->∃r∈D,∃c:Rat,c>0/\r=(c*(aB l).1,c*(aB l).2)
theorem IB {c:Rat}(u:c>0)(a:Rat):(c*a).num.sign=a.num.sign:=by have h:=H4 (x:=a) u;by_cases p:a>0;{rw [iQ.2 p,iQ.2 (h.1.2 p)]};{by_cases q:a<0;{rw [ig.2 q,ig.2 (h.2.1.2 q)]};{have z:a=0:=χ;rw [cF.2 z,cF.2 (h.2.2.2 z)]}}
theorem rJ {l r}{c:Rat}(u:c>0)(e:r=(c*(aB l).1,c*(aB l).2))(v):(nv l v).num.sign=(cr r v).num.sign:=by rw [cov_nv u e,IB u]
theorem Tq {D}(h:YU D){t p}(M:CovT D t p){i:Nat}{u w}(hi:D[i]?=some u)(hw:D[(i+1)%D.length]?=some w):nF t p u (r_ u)=nF t p w (-(r_ w).1,-(r_ w).2):=by
 have A:=h.nz u (ı hi);have B:=h.nz w (ı hw);have ⟨x,o⟩:=VW h.nz A;obtain ⟨y,C⟩:=turn_r h.nz B
 have E:Am t p x=nF t p u (r_ u):=tI λl j z=>by have ⟨r,f,c,d,e⟩:=M l j z;rw [rJ d e,rJ d e,rJ d e,HE];obtain ⟨q,s,n,-⟩:=o r f;by_cases k:cr r u=0;{rw [Ã (by simpa using cF.2 k)];have:=Pa (h.nz r f) A k;by_cases g:dt r u>0;{rw [iQ.2 g,iQ.2 ((n k).1 g)]};{rw [ig.2 (show dt r u<0 by grind),ig.2 ((n k).2 χ)]}};{rw [Ä λe=>k (cF.1 e)];by_cases g:cr r u>0;{rw [iQ.2 g,iQ.2 (q g)]};{rw [ig.2 (show cr r u<0 by grind),ig.2 (s χ)]}}
 have F:Am t p y=nF t p w (-(r_ w).1,-(r_ w).2):=tI λl j z=>by have ⟨r,f,c,d,e⟩:=M l j z;rw [rJ d e,rJ d e,rJ d e,show cr r (-(r_ w).1,-(r_ w).2)=-dt r w by unfold cr r_ dt;grind];obtain ⟨q,s,n,-⟩:=C r f;by_cases k:cr r w=0;{rw [Ã (by simpa using cF.2 k)];have:=Pa (h.nz r f) B k;by_cases g:dt r w>0;{rw [ig.2 (show -dt r w<0 by grind),ig.2 ((n k).1 g)]};{rw [iQ.2 (show -dt r w>0 by grind),iQ.2 ((n k).2 χ)]}};{rw [Ä λe=>k (cF.1 e)];by_cases g:cr r w>0;{rw [iQ.2 g,iQ.2 (q g)]};{rw [ig.2 (show cr r w<0 by grind),ig.2 (s χ)]}}
 rw [<-E,<-F]
 have same:∀{t:Tr},(∀l∈t.cV,ay l p.1 p.2=0->(nv l x).num.sign=(nv l y).num.sign)->Am t p x=Am t p y:=λ{t} v=>by
  induction t with
  | leaf=>rfl
  | node l a b N O=>
   have e:N8 l p x=N8 l p y:=by unfold N8;split;{rename_i z;exact v l (Ć ..) (cF.1 z)};{rfl}
   unfold Am;rw [e,(N λm hm=>v m (ø _ (Ĩ _ hm))),(O λm hm=>v m (ø _ (Ĺ _ hm)))]
 refine same λl j z=>?_;have ⟨r,f,c,d,e⟩:=M l j z;rw [rJ d e,rJ d e];have k:=adj h hi hw o C f;have G:=(o r f).2.2.2;by_cases g:cr r x>0
 ·rw [iQ.2 g,iQ.2 (k.1.1 g)]
 ·rw [ig.2 (show cr r x<0 by grind),ig.2 (k.2.1 χ)]
section
variable {α:Type}
def ev:List α->List α
 | []=>[]
 | [x]=>[x]
 | x::_::t=>x::ev t
def od:List α->List α
 | []=>[]
 | [_]=>[]
 | _::y::t=>y::od t
theorem Ph (x:α):∀t:zA α,ev (x::t)=x::od t/\od (x::t)=ev t
 | []=>⟨rfl,rfl⟩
 | [_]=>⟨rfl,rfl⟩
 | y::z::t=>by
  have ⟨u,E⟩:=Ph z t;refine ⟨?_,?_⟩
  ·show x::ev (z::t)=x::z::od t;rw [u]
  ·show y::od (z::t)=y::ev t;rw [E]
def ChL:Bool->List (α×Bool×Bool)->Prop
 | _,[]=>True
 | s,(_,r,l)::t=>r=s/\ChL l t
def HL:Bool->List (α×Bool×Bool)->Bool
 | s,[]=>s
 | _,(_,_,l)::t=>HL l t
def SK (L:List (α×Bool×Bool)):List α:=(L.filter λx=>x.2.2&&!x.2.1).map Prod.fst
def S5 (L:List (α×Bool×Bool)):List α:=(L.filter λx=>!x.2.2&&x.2.1).map Prod.fst
def Jn (L:List (α×Bool×Bool)):List α:=(L.filter λx=>x.2.2 != x.2.1).map Prod.fst
theorem turns:∀{L:zA (α×ut×ut)} {s:ut},ChL s L->(s=false->SK L=ev (Jn L)/\S5 L=od (Jn L))/\(s=true->SK L=od (Jn L)/\S5 L=ev (Jn L))/\(Jn L).length%2=(if HL s L=s then 0 else 1)
 | [],s,_=>⟨λ_=>⟨rfl,rfl⟩,λ_=>⟨rfl,rfl⟩,by rw [HL,Ä rfl];rfl⟩
 | (x,r,l)::t,s,⟨E,F⟩=>by
  have ⟨y,z,u⟩:=turns F;subst E;have A:SK ((x,r,l)::t)=if (l&&!r)=true then x::SK t else SK t:=by unfold SK;rw [Qr5];split<;>rfl
  have B:S5 ((x,r,l)::t)=if (!l&&r)=true then x::S5 t else S5 t:=by unfold S5;rw [Qr5];split<;>rfl
  have C:Jn ((x,r,l)::t)=if (l != r)=true then x::Jn t else Jn t:=by unfold Jn;rw [Qr5];split<;>rfl
  have ⟨c,d⟩:=Ph x (Jn t);have f:HL r ((x,r,l)::t)=HL l t:=rfl;rw [f];cases r<;>cases l
  ·exact ⟨λ_=>y rfl,π,u⟩
  ·have ⟨a,b⟩:=z rfl;refine ⟨λ_=>⟨?_,?_⟩,π,?_⟩
   ·show x::SK t=ev (x::Jn t);rw [c,a]
   ·show S5 t=od (x::Jn t);rw [d,b]
   ·show (x::Jn t).length%2=_;revert u;cases HL true t<;>intro u<;>simp at u⊢<;>omega
  ·have ⟨a,b⟩:=y rfl;refine ⟨π,λ_=>⟨?_,?_⟩,?_⟩
   ·show SK t=od (x::Jn t);rw [d,a]
   ·show x::S5 t=ev (x::Jn t);rw [c,b]
   ·show (x::Jn t).length%2=_;revert u;cases HL false t<;>intro u<;>simp at u⊢<;>omega
  ·exact ⟨π,λ_=>z rfl,u⟩
end
end Go.Proofs.Tryz.aq
namespace Go.Proofs.Tryz
open Go.Eng Go.Big
section
variable{l:List Sp}
def T6 (l:List Sp)(q:Rat):Prop:=∃s∈l,(s.a=true\/s.lo<=q)/\(s.b=true\/q<s.hi)
def T5 (l:List Sp)(q:Rat):Prop:=∃s∈l,(s.a=true\/s.lo<q)/\(s.b=true\/q<=s.hi)
theorem TW (q:Rat):∀Z:zA Rat,∃e:Rat,e>0/\∀z∈Z,z<=q\/q+e<=z
 | []=>⟨1,χ,λz h=>by cases h⟩
 | z::Z=>by
  have ⟨e,u,he⟩:=TW q Z;by_cases h:z<=q
  ·exact ⟨e,u,λy a=>by
    rcases ç.1 a with rfl|a
    ·exact .inl h
    ·exact he y a⟩
  ·by_cases g:e<=z-q
   ·exact ⟨e,u,λy a=>by
     rcases ç.1 a with rfl|a
     ·exact .inr χ
     ·exact he y a⟩
   ·exact ⟨z-q,χ,λy a=>by
     rcases ç.1 a with rfl|a
     ·exact .inr χ
     ·have:=he y a;grind⟩
theorem gap_l (q:Rat)(Z:zA Rat):∃e:Rat,e>0/\∀z∈Z,q<=z\/z<=q-e:=by have ⟨e,a,he⟩:=TW (-q) (Z.map λz=>-z);exact ⟨e,a,λz b=>by have:=he (-z) (ù.2 ⟨z,b,rfl⟩);grind⟩
def F8 (l:List Sp):List Rat:=l.flatMap λs=>[s.lo,s.hi]
theorem sU {s:Sp}(h:s∈l):s.lo∈F8 l/\s.hi∈F8 l:=⟨ċ.2 ⟨s,h,ψ⟩,ċ.2 ⟨s,h,ψ⟩⟩
theorem near_r {q e x:Rat}(he:∀z∈F8 l,z<=q\/q+e<=z)(u:q<x)(y:x<q+e):ë l x=true↔T6 l q:=by rw [jI];constructor;{rintro ⟨s,c,d,f⟩;have a:=he _ (sU c).1;exact ⟨s,c,d.imp id λh=>χ,f.imp id λh=>χ⟩};{rintro ⟨s,c,d,f⟩;have b:=he _ (sU c).2;exact ⟨s,c,d.imp id λh=>χ,f.imp id λh=>χ⟩}
theorem near_l {q e x:Rat}(he:∀z∈F8 l,q<=z\/z<=q-e)(u:x<q)(y:q-e<x):ë l x=true↔T5 l q:=by rw [jI];constructor;{rintro ⟨s,c,d,f⟩;have b:=he _ (sU c).2;exact ⟨s,c,d.imp id λh=>χ,f.imp id λh=>χ⟩};{rintro ⟨s,c,d,f⟩;have a:=he _ (sU c).1;exact ⟨s,c,d.imp id λh=>χ,f.imp id λh=>χ⟩}
theorem Hd (l)(q s:Rat):cP l (q+s)=cP l q+s*(aq.aB l).1/\cR l (q+s)=cR l q+s*(aq.aB l).2:=by unfold cP cR aq.aB;grind
theorem P0 (t p d):∃e:Rat,e>0/\∀s:Rat,0<s->s<=e->∀n,aq.Am t (p.1+s*d.1,p.2+s*d.2) n=aq.nF t p d n:=by obtain ⟨b,-,he⟩:=aq.Gu (p:=p) (v:=d) (ls:=t.cV) (s:=1) χ;refine ⟨_,b,λs a c n=>aq.yI λm hm=>⟨λz=>?_,λz=>?_⟩⟩;{rw [aq.kO];exact he m hm s a c z};{rw [aq.kO,z,show (0:Rat)+s*aq.nv m d=s*aq.nv m d by grind,aq.IB a]}
theorem Lw {a b:Rat}(u:a>0)(y:b>0):∃x:Rat,x>0/\x<=a/\x<b:=by by_cases h:a<b;{exact ⟨a,u,χ,h⟩};{exact ⟨b*(1/2),χ,χ,χ⟩}
section
variable {l:L3} (ol:bX l=true) {t:Tr} (ht:∀k ∈ t.cV,bX k=true) (q:Rat)
include ol ht
theorem bd_r:T6 (nO l t) q↔(aq.nF t (cP l q,cR l q) (aq.aB l) (i_ l true)).1=true/\(aq.nF t (cP l q,cR l q) (aq.aB l) (i_ l false)).1=false:=by have ⟨i,d,a⟩:=P0 t (cP l q,cR l q) (aq.aB l);have ⟨j,e,b⟩:=TW q (F8 (nO l t)++F4 l t);have ⟨s,c,s1,s2⟩:=Lw d e;have f:q+s∉F4 l t:=λh=>by{have:=b _ (Ĺ _ h);grind};rw [<-near_r (λz g=>b z (Ĩ _ g)) (show q<q+s by grind) χ,UW (Tw l t) ol (Tr.kT ht) f,(Hd l q s).1,(Hd l q s).2,a s c s1,a s c s1];simp
theorem bd_l:T5 (nO l t) q↔(aq.nF t (cP l q,cR l q) (-(aq.aB l).1,-(aq.aB l).2) (i_ l true)).1=true/\(aq.nF t (cP l q,cR l q) (-(aq.aB l).1,-(aq.aB l).2) (i_ l false)).1=false:=by have ⟨j,b,c⟩:=P0 t (cP l q,cR l q) (-(aq.aB l).1,-(aq.aB l).2);have ⟨k,d,a⟩:=gap_l q (F8 (nO l t)++F4 l t);have ⟨s,f,s1,s2⟩:=Lw b d;have g:q+-s∉F4 l t:=λh=>by{have:=a _ (Ĺ _ h);grind};have e:∀n,aq.Am t (cP l (q+-s),cR l (q+-s)) n=aq.nF t (cP l q,cR l q) (-(aq.aB l).1,-(aq.aB l).2) n:=λn=>by{rw [<-c s f s1 n,(Hd l q (-s)).1,(Hd l q (-s)).2];congr 2<;>grind};rw [<-near_l (λz i=>a z (Ĩ _ i)) (show q+-s<q by grind) χ,UW (Tw l t) ol (Tr.kT ht) g,e,e];simp
end
theorem Py (l):i_ l true=aq.r_ (aq.aB l)/\i_ l false=(-(aq.r_ (aq.aB l)).1,-(aq.r_ (aq.aB l)).2):=by unfold i_ aq.r_ aq.aB;simp
theorem jy {p d n d' n'}{c k:Rat}(y:c>0)(E:k>0)(F:d'=(c*d.1,c*d.2))(M:n'=(k*n.1,k*n.2)):∀t:Tr,aq.nF t p d' n'=aq.nF t p d n
 | .leaf _=>rfl
 | .node l a b=>by
  have e:∀(z u:Rat×Rat)(m:Rat),m>0->u=(m*z.1,m*z.2)->(aq.nv l u).num.sign=(aq.nv l z).num.sign:=λz u m f h=>by
   rw [show aq.nv l u=m*aq.nv l z by subst h;unfold aq.nv;grind,aq.IB f]
  unfold aq.nF aq.sd3;rw [e d d' c y F,e n n' k E M,jy y E F M a,jy y E F M b]
def yw (t:Tr)(p u:Rat×Rat):Bool:=(aq.nF t p u (aq.r_ u)).1
def wK (t:Tr)(p u:Rat×Rat):Bool:=(aq.nF t p u (-(aq.r_ u).1,-(aq.r_ u).2)).1
theorem Cx {l}(ol:bX l=true){t}(ht:∀k∈t.cV,bX k=true){p u}(z:ay l p.1 p.2=0){c:Rat}(y:c>0)(hu:u=(c*(aq.aB l).1,c*(aq.aB l).2)):T6 (nO l t) (eE l p.1 p.2)↔yw t p u=true/\wK t p u=false:=by have ⟨a,b⟩:=Ig (eK ol) z;have ⟨d,e⟩:=Py l;rw [bd_r ol ht,a,b];unfold yw wK;rw [jy (n:=i_ l true) y y hu (by rw [d,hu];unfold aq.r_;simp;grind),jy (n:=i_ l false) y y hu (by rw [e,hu];unfold aq.r_;simp;grind)]
theorem F2 {l}(ol:bX l=true){t}(ht:∀k∈t.cV,bX k=true){p u}(z:ay l p.1 p.2=0){c:Rat}(y:c>0)(hu:u=(-(c*(aq.aB l).1),-(c*(aq.aB l).2))):T5 (nO l t) (eE l p.1 p.2)↔yw t p u=false/\wK t p u=true:=by have ⟨a,b⟩:=Ig (eK ol) z;have ⟨e,f⟩:=Py l;rw [bd_l ol ht,a,b];unfold yw wK;rw [(jy (p:=p) (d:=(-(aq.aB l).1,-(aq.aB l).2)) (d':=u) (n:=i_ l false) (n':=aq.r_ u) y y (by rw [hu];simp;grind) (by rw [f,hu];unfold aq.r_;simp;grind) t),(jy (p:=p) (d:=(-(aq.aB l).1,-(aq.aB l).2)) (d':=u) (n:=i_ l true) (n':=(-(aq.r_ u).1,-(aq.r_ u).2)) y y (by rw [hu];simp;grind) (by rw [e,hu];unfold aq.r_;simp;grind) t)];exact and_comm
end
section
variable{m:L3}
theorem Pf {α:Type}:∀(t:zA α)(k:Nat),(aq.ev t)[k]?=t[2*k]?/\(aq.od t)[k]?=t[2*k+1]?
 | [],k=>by simp [aq.ev,aq.od]
 | [x],k=>by
  cases k with
  | zero=>exact ⟨rfl,rfl⟩
  | succ k=>simp [aq.ev,aq.od]
 | x::y::t,k=>by
  cases k with
  | zero=>exact ⟨rfl,rfl⟩
  | succ k=>
   have ⟨u,z⟩:=Pf t k;have e:2*(k+1)=2*k+1+1:=ω
   exact ⟨u,z⟩
theorem TP {α:Type}:∀t:zA α,(aq.ev t).length=(t.length+1)/2/\(aq.od t).length=t.length/2
 | []=>by simp [aq.ev,aq.od]
 | [x]=>by simp [aq.ev,aq.od]
 | _::_::t=>by
  have ⟨u,y⟩:=TP t;simp only [aq.ev,aq.od,Ā];omega
theorem OS {T}(z:T.Pairwise λx y=>aq.cM x y<0)(k:Nat){x y}:((aq.ev T)[k]?=some x->(aq.od T)[k]?=some y->aq.cM x y<0)/\((aq.od T)[k]?=some x->(aq.ev T)[k+1]?=some y->aq.cM x y<0):=by have key:∀{i j:Nat} {u v:Rat×Rat},T[i]?=some u->T[j]?=some v->i<j->aq.cM u v<0:=λ{i j u v} d e a=>by{obtain ⟨li,rfl⟩:=Đ.1 d;obtain ⟨f,rfl⟩:=Đ.1 e;exact Ţ.1 z i j li f a};rw [(Pf T k).1,(Pf T k).2,(Pf T (k+1)).1];exact ⟨λb c=>key b c ω,λb c=>key b c ω⟩
theorem yz:∀{a b:zA (Rat×Rat)},a.Pairwise (λx y=>aq.cM x y<0)->b.Pairwise (λx y=>aq.cM x y<0)->(∀x∈a,∃y∈b,aq.cM x y=0)->(∀y∈b,∃x∈a,aq.cM x y=0) ->a.length=b.length/\∀(k:Nat)(x:Rat×Rat),a[k]?=some x->∃y:Rat×Rat,b[k]?=some y/\aq.cM x y=0
 | [],[],_,_,_,_=>⟨rfl,λk x h=>by simp at h⟩
 | [],y::b,_,_,_,h=>by obtain ⟨x,E,-⟩:=h y (Ć ..);cases E
 | x::a,[],_,_,h,_=>by obtain ⟨y,c,-⟩:=h x (Ć ..);cases c
 | x::a,y::b,F,M,h,g=>by
  have ⟨l,n⟩:=Ģ.1 F;obtain ⟨b1,b2⟩:=Ģ.1 M
  have z:aq.cM x y=0:=by
   have ⟨d,c,e⟩:=h x (Ć ..);rcases ç.1 c with rfl|c
   ·exact e
   have ⟨i,E,m⟩:=g y (Ć ..);rcases ç.1 E with rfl|E
   ·exact m
   exact Å (aq.AX (l i E) (by rw [oU m];omega)) (aq.AW _ _ (aq.AX (b1 d c) (by rw [e];omega)))
  have j:∀i∈a,∀d,aq.cM i d=0->d≠y:=λi E d e f=>by subst f;have k:=l i E;have:=aq.AX k (show ¬aq.cM d i<0 by rw [oU e];omega);rw [z] at this;omega
  have ⟨o,p⟩:=yz n b2 (λi E=>by
   have ⟨d,c,e⟩:=h i (ø _ E);rcases ç.1 c with f|c
   ·exact Å f (j i E d e)
   ·exact ⟨d,c,e⟩) λd c=>by
   have ⟨i,E,e⟩:=g d (ø _ c);rcases ç.1 E with f|E
   ·subst f;have k:=b1 d c;have:=aq.sQ (oU z) e;omega
   ·exact ⟨i,E,e⟩
  refine ⟨by rw [Ā,Ā,o],λk u hu=>?_⟩
  cases k with
  | zero=>cases hu;exact ⟨y,rfl,z⟩
  | succ k=>exact p k u hu
theorem sP {u}(hu:aq.nz u){c:Rat}(y:c>0){x}(e:x=(c*u.1,c*u.2)):aq.cM x u=0:=by have z:aq.cr x u=0:=by{rw [e];unfold aq.cr;grind};have d:aq.dt x u>0:=by{rw [show aq.dt x u=c*aq.dt u u by rw [e];unfold aq.dt;grind];exact aq.mp y (aq.sq_pos hu)};have b:aq.nz x:=by{rw [e];by_cases a:c*u.1=0;{exact .inr λf=>by{have:=(aq.ZM hu (c:=c)) a f;grind}};{exact .inl a}};exact aq.fA.2 ⟨aq.HR b hu z d,z⟩
def LvD (t:Tr)(p x:Rat×Rat):Prop:=∃m:L3,bX m=true/\ay m p.1 p.2=0/\T6 (nO m t) (eE m p.1 p.2)/\∃c:Rat,c>0/\x=(c*(aq.aB m).1,c*(aq.aB m).2)
def CmD (t:Tr)(p x:Rat×Rat):Prop:=∃m:L3,bX m=true/\ay m p.1 p.2=0/\T5 (nO m t) (eE m p.1 p.2)/\∃c:Rat,c>0/\x=(-(c*(aq.aB m).1),-(c*(aq.aB m).2))
theorem oe (l):aq.aB (Ö l)=(-(aq.aB l).1,-(aq.aB l).2):=by unfold aq.aB Ö;simp
theorem uO (u:bX m=true):aq.nz (aq.aB m):=by have:=eK u;unfold aq.nz aq.aB;by_cases h:m.2.1=0;{right;have:m.1≠0:=λe=>this ⟨e,h⟩;have:(m.1:Rat)≠0:=by{exact_mod_cast this};grind};{refine .inl λe=>h ?_;have e:(m.2.1:Rat)=0:=e;exact_mod_cast e}
theorem O_ {t}(ht:∀k∈t.cV,bX k=true){p}(y:bX m=true)(u:ay m p.1 p.2=0)(z:nO m t≠[]):aq.aB m∈qo p (aV t.cV)/\(-(aq.aB m).1,-(aq.aB m).2)∈qo p (aV t.cV):=by have c:=((hU t.cV).2 _).2 (Qv0 λc=>z (ME y ht c));rcases pG m with e|e<;>rw [e] at c;{exact tu c u};{have ⟨b,a⟩:=tu (p:=p) c (by rw [val_rev,u];grind);rw [oe] at b a;simp only [Rat.neg_neg] at a;exact ⟨a,b⟩}
theorem balance {t}(ht:∀k∈t.cV,bX k=true){p}{a b:zA (Rat×Rat)}(ha:a.Pairwise λx y=>aq.cM x y<0)(hb:b.Pairwise λx y=>aq.cM x y<0)(a1:∀x∈a,LvD t p x)(a2:∀x,LvD t p x->∃y∈a,aq.cM y x=0)(b1:∀x∈b,CmD t p x)(b2:∀x,CmD t p x->∃y∈b,aq.cM y x=0):a.length=b.length/\((∀(k:Nat)(x y:Rat×Rat),a[k]?=some x->b[k]?=some y->aq.cM x y<0)/\(∀(k:Nat)(x y:Rat×Rat),b[k]?=some x->a[k+1]?=some y->aq.cM x y<0) \/ (∀(k:Nat)(x y:Rat×Rat),b[k]?=some x->a[k]?=some y->aq.cM x y<0)/\(∀(k:Nat)(x y:Rat×Rat),a[k]?=some x->b[k+1]?=some y->aq.cM x y<0)):=by
 have ⟨d1,d2⟩:=hU t.cV
 have T:∀l∈aV t.cV,bX l=true/\bC l=l:=λl G=>by obtain ⟨k,hk,rfl⟩:=ù.1 ((d2 l).1 G);exact ⟨H9 (ht k hk),J3 k⟩
 have ⟨D,pm,pw⟩:=R7 (qo p (aV t.cV));have Q:=TE T (d1.imp λ{x y} g (e:x=y)=>by subst e;exact wz g) pm pw;have hc:aq.CovT D t p:=λl G z=>TD pm (M:=[l]) (λm hm=>by rw [õ.1 hm];exact ⟨z,(d2 _).2 (ù.2 ⟨l,G,rfl⟩)⟩) l (õ.2 rfl)
 have O:∀u∈D,∃m:L3,bX m=true/\ay m p.1 p.2=0/\u=aq.aB m:=λu hu=>by obtain ⟨l,G,z,e|e⟩:=oh (pm.mem_iff.1 hu);{exact ⟨l,(T l G).1,z,e⟩};{exact ⟨Ö l,tw (T l G).1,by rw [val_rev,z];grind,by rw [oe,e]⟩}
 obtain ⟨L,J⟩:∃L,L=D.map λu=>(u,wK t p u,yw t p u):=⟨_,rfl⟩
 have ZL:∀(i:Nat)(u w:Rat×Rat),D[i]?=some u->D[(i+1)%D.length]?=some w->wK t p w=yw t p u:=λi u w hi hw=>by unfold wK yw;rw [aq.Tq Q hc hi hw]
 have LA:∀u,u∈aq.SK L↔u∈D/\yw t p u=true/\wK t p u=false:=λu=>by rw [J];unfold aq.SK;rw [ù];constructor;{rintro ⟨x,n,rfl⟩;obtain ⟨B,C⟩:=ġ.1 n;obtain ⟨v,d,rfl⟩:=ù.1 B;exact ⟨d,by simpa using C⟩};{rintro ⟨B,C,U⟩;exact ⟨_,ġ.2 ⟨ù.2 ⟨u,B,rfl⟩,by simp [C,U]⟩,rfl⟩}
 have LB:∀u,u∈aq.S5 L↔u∈D/\yw t p u=false/\wK t p u=true:=λu=>by rw [J];unfold aq.S5;rw [ù];constructor;{rintro ⟨x,n,rfl⟩;obtain ⟨B,C⟩:=ġ.1 n;obtain ⟨v,d,rfl⟩:=ù.1 B;exact ⟨d,by simpa using C⟩};{rintro ⟨B,C,U⟩;exact ⟨_,ġ.2 ⟨ù.2 ⟨u,B,rfl⟩,by simp [C,U]⟩,rfl⟩}
 have pD:D.Pairwise λx y=>aq.cM x y<0:=by refine Ţ.2 λi j li lj V=>?_;exact (aq.G8 (Q.nz _ (ô li)) (Q.nz _ (ô lj))).2 (Ţ.1 Q.asc i j li lj V)
 have sub:∀f:(Rat×Rat)×ut×ut->ut,((L.filter f).map Prod.fst).Pairwise λx y=>aq.cM x y<0:=λf=>by have e:L.map Prod.fst=D:=by{rw [J,Qs1];exact Wv8 _};exact (e▸pD:(L.map Prod.fst).Pairwise _).sublist ((List.filter_sublist).map _)
 have W:∀(q:Rat) {l:zA Sp},T6 l q->l≠[]:=λq l ⟨s,X,_⟩=>Wy6 X;have Y:∀(q:Rat) {l:zA Sp},T5 l q->l≠[]:=λq l ⟨s,X,_⟩=>Wy6 X
 obtain ⟨lA,mA⟩:=yz (b:=aq.SK L) ha (sub _) (λx n=>by
  have ⟨m,A,d,P,c,Z,e⟩:=a1 x n;exact ⟨aq.aB m,(LA _).2 ⟨pm.mem_iff.2 (O_ ht A d (W _ P)).1,(Cx A ht d (c:=1) χ ψ).1 P⟩,sP (uO A) Z e⟩) λy F=>by
  obtain ⟨B,C⟩:=(LA y).1 F;obtain ⟨m,A,d,rfl⟩:=O y B;exact a2 _ ⟨m,A,d,(Cx A ht d (c:=1) χ ψ).2 C,1,χ,ψ⟩
 have ⟨lB,K⟩:=yz (b:=aq.S5 L) hb (sub _) (λx n=>by
  have ⟨m,A,d,P,c,Z,e⟩:=b1 x n;have k:=(F2 A ht d (u:=(-(aq.aB m).1,-(aq.aB m).2)) (c:=1) χ ψ).1 P;refine ⟨(-(aq.aB m).1,-(aq.aB m).2),(LB _).2 ⟨pm.mem_iff.2 (O_ ht A d (Y _ P)).2,k⟩,?_⟩;have:=uO (tw A);rw [oe] at this;exact sP this Z (by rw [e];simp;grind)) λy F=>by
  obtain ⟨B,C⟩:=(LB y).1 F;obtain ⟨m,A,d,rfl⟩:=O y B;refine b2 _ ⟨Ö m,tw A,by rw [val_rev,d];grind,?_,1,χ,by rw [oe];simp⟩;exact (F2 (tw A) ht (by rw [val_rev,d];grind) (u:=aq.aB m) (c:=1) χ (by rw [oe];simp)).2 C
 have chain:∀(E:zA (Rat×Rat))(i:Nat)(s:ut),(∀(j:Nat)(u:Rat×Rat),E[j]?=some u->D[i+j]?=some u)->i+E.length<=D.length->(∀u:Rat×Rat,E[0]?=some u->wK t p u=s) ->
   aq.ChL s (E.map λu=>(u,wK t p u,yw t p u))/\(∀u:Rat×Rat,D[i+E.length-1]?=some u->E≠[]->aq.HL s (E.map λu=>(u,wK t p u,yw t p u))=yw t p u):=by
  intro E
  induction E with
  | nil=>exact λi s _ _ _=>⟨trivial,λu _ h=>Å rfl h⟩
  | cons v E ih=>
   intro i s hE G h0;have d:D[i]?=some v:=hE 0 v rfl
   have ⟨g1,g2⟩:=ih (i+1) (yw t p v) (λj u hu=>by have:=hE (j+1) u hu;rwa [show i+(j+1)=i+1+j by omega] at this) (by rw [Ā] at G;omega) λu hu=>by have hw:=hE 1 u hu;have lw:=(Đ.1 hw).1;exact ZL i v u d (by rw [Ĕ lw];exact hw)
   refine ⟨⟨h0 v rfl,g1⟩,λu hu _=>?_⟩
   cases E with
   | nil=>
    rw [Ā,Ļ] at hu;rw [show i+(0+1)-1=i by omega,d] at hu;cases hu;rfl
   | cons w E=>exact g2 u (by rw [Ā,Ā] at hu;rw [Ā];rwa [show i+1+(E.length+1)-1=i+(E.length+1+1)-1 by omega]) ψ
 have fin:∃s,aq.ChL s L/\aq.HL s L=s:=by (cases hDe:D with|nil=>{rw [J,hDe];exact ⟨false,trivial,rfl⟩}|cons v E=>{have len:0<D.length:=by{rw [hDe];simp};have ⟨g1,g2⟩:=chain D 0 (wK t p v) (λj u hu=>by rwa [Ĉ]) ω λu hu=>by{rw [hDe] at hu;cases hu;rfl};have G:D.length-1<D.length:=ω;have N:=ï G;refine ⟨wK t p v,by rw [J];exact g1,?_⟩;rw [J,g2 D[D.length-1] (by rw [Ĉ];exact N) (by rw [hDe];simp)];exact (ZL (D.length-1) _ v N (by rw [show D.length-1+1=D.length by omega,Wy5,hDe];rfl)).symm})
 obtain ⟨s,c1,c2⟩:=fin;have ⟨t1,t2,t3⟩:=aq.turns c1;rw [Ä c2] at t3;have R:(aq.Jn L).Pairwise λx y=>aq.cM x y<0:=sub _;have ⟨n1,n2⟩:=TP (aq.Jn L)
 have S:∀{x H y I:Rat×Rat},aq.cM x H=0->aq.cM y I=0->aq.cM H I<0->aq.cM x y<0:=λ{x H y I} e f g=>
  aq.AX (aq.G7 (show ¬aq.cM H x<0 by rw [oU e];omega) g) (show ¬aq.cM y I<0 by rw [f];omega)
 cases s
 ·have ⟨N,e2⟩:=t1 rfl;rw [N] at lA mA;rw [e2] at lB K;refine ⟨ω,.inl ⟨λk x y n F=>?_,λk x y n F=>?_⟩⟩;{have ⟨H,o,f⟩:=mA k x n;have ⟨I,r,g⟩:=K k y F;exact S f g ((OS R k).1 o r)};{have ⟨H,o,f⟩:=K k x n;have ⟨I,r,g⟩:=mA (k+1) y F;exact S f g ((OS R k).2 o r)}
 ·have ⟨N,e2⟩:=t2 rfl;rw [N] at lA mA;rw [e2] at lB K;refine ⟨ω,.inr ⟨λk x y n F=>?_,λk x y n F=>?_⟩⟩;{have ⟨H,o,f⟩:=K k x n;have ⟨I,r,g⟩:=mA k y F;exact S f g ((OS R k).1 o r)};{have ⟨H,o,f⟩:=mA k x n;have ⟨I,r,g⟩:=K (k+1) y F;exact S f g ((OS R k).2 o r)}
theorem Rx {s:Sp}{l}:(m,s)∈l↔s∈aJ m l:=by unfold aJ;rw [ù];constructor;{intro h;exact ⟨_,ġ.2 ⟨h,Ç rfl⟩,rfl⟩};{rintro ⟨⟨a,b⟩,h,rfl⟩;have ⟨c,d⟩:=ġ.1 h;rw [<-(Á d)];exact c}
theorem Gq {t}(ht:∀k∈t.cV,bX k=true){s:Sp}:(m,s)∈bY (j7 t (aV t.cV))↔bX m=true/\s∈nO m t:=by rw [Rx,Lo,P7 ht];split;{rename_i o;rw [J8 (show uY (nO m t) from comb_reg ..)];exact ⟨λh=>⟨o,h⟩,λh=>h.2⟩};{rename_i o;exact ⟨λh=>(nomatch h),λh=>Å h.1 o⟩}
def lvF (p:Rat×Rat)(f:L3×Sp):Prop:=ay f.1 p.1 p.2=0/\(f.2.a=true\/f.2.lo<=eE f.1 p.1 p.2)/\(f.2.b=true\/eE f.1 p.1 p.2<f.2.hi)
def cmF (p:Rat×Rat)(f:L3×Sp):Prop:=ay f.1 p.1 p.2=0/\(f.2.a=true\/f.2.lo<eE f.1 p.1 p.2)/\(f.2.b=true\/eE f.1 p.1 p.2<=f.2.hi)
section
variable {t:Tr} (ht:∀k ∈ t.cV,bX k=true) {p:Rat × Rat}
include ht
theorem Nx {x}:LvD t p x↔∃f∈bY (j7 t (aV t.cV)),lvF p f/\∃c:Rat,c>0/\x=(c*(aq.aB f.1).1,c*(aq.aB f.1).2):=by constructor;{rintro ⟨m,a,b,⟨s,d,e,g⟩,h⟩;exact ⟨(m,s),(Gq ht).2 ⟨a,d⟩,⟨b,e,g⟩,h⟩};{rintro ⟨⟨m,s⟩,i,⟨b,e,g⟩,h⟩;obtain ⟨a,d⟩:=(Gq ht).1 i;exact ⟨m,a,b,⟨s,d,e,g⟩,h⟩}
theorem MZ {x}:CmD t p x↔∃f∈bY (j7 t (aV t.cV)),cmF p f/\∃c:Rat,c>0/\x=(-(c*(aq.aB f.1).1),-(c*(aq.aB f.1).2)):=by constructor;{rintro ⟨m,a,b,⟨s,d,e,g⟩,h⟩;exact ⟨(m,s),(Gq ht).2 ⟨a,d⟩,⟨b,e,g⟩,h⟩};{rintro ⟨⟨m,s⟩,i,⟨b,e,g⟩,h⟩;obtain ⟨a,d⟩:=(Gq ht).1 i;exact ⟨m,a,b,⟨s,d,e,g⟩,h⟩}
end
def jd (f:L3×Sp):List (Rat×Rat):=(if f.2.a=true then [] else [(cP f.1 f.2.lo,cR f.1 f.2.lo)])++(if f.2.b=true then [] else [(cP f.1 f.2.hi,cR f.1 f.2.hi)])
theorem spn_lt {s:Sp}(h:s.good):s.a=true\/s.b=true\/s.lo<s.hi:=by have ⟨t,c,d⟩:=A9.1 h.2;rcases c with c|c;{exact .inl c};{rcases d with d|d;{exact .inr (.inl d)};{exact .inr (.inr χ)}}
theorem TL {t}(ht:∀k∈t.cV,bX k=true){p f}(u:f∈bY (j7 t (aV t.cV)))(E:p∈jd f):(∃x,LvD t p x)\/∃x,CmD t p x:=by obtain ⟨m,s⟩:=f;obtain ⟨c,d⟩:=(Gq ht).1 u;have g:=spn_lt ((comb_reg 3 _ _).1 s d);have at':∀q,ay m (cP m q) (cR m q)=0/\eE m (cP m q) (cR m q)=q:=λq=>qO (eK c) q;rcases ú.1 E with h|h;{dsimp only at h;cases y:s.a;{rw [y,Ã ψ] at h;rw [õ.1 h];refine .inl ⟨_,(Nx ht).2 ⟨(m,s),u,⟨(at' _).1,.inr ?_,?_⟩,1,χ,rfl⟩⟩;{show s.lo<=eE m _ _;rw [(at' _).2];grind};{show s.b=true\/eE m _ _<s.hi;rw [(at' _).2];rw [y] at g;simpa using g}};{rw [y,Ä rfl] at h;cases h}};{dsimp only at h;cases z:s.b;{rw [z,Ã ψ] at h;rw [õ.1 h];refine .inr ⟨_,(MZ ht).2 ⟨(m,s),u,⟨(at' _).1,?_,.inr ?_⟩,1,χ,rfl⟩⟩;{show s.a=true\/s.lo<eE m _ _;rw [(at' _).2];rw [z] at g;simpa using g};{show eE m _ _<=s.hi;rw [(at' _).2];grind}};{rw [z,Ä rfl] at h;cases h}}
end
section
variable{V:Ó}{w:Value}{c n:Nat}{vs:List Value}
def AZ (a b:Rat×Rat):Int:=if cT a.1 b.1≠0 then cT a.1 b.1 else cT a.2 b.2
theorem Hj {a b}:AZ a b<0↔a.1<b.1\/a.1=b.1/\a.2<b.2:=by unfold AZ;rcases cg a.1 b.1 with ⟨g,e⟩|⟨g,e⟩|⟨g,e⟩<;>rw [e]<;>rcases cg a.2 b.2 with ⟨y,u⟩|⟨y,u⟩|⟨y,u⟩<;>rw [u]<;>simp<;>grind
theorem ordCV:ņ AZ:=⟨λa b h=>by rw [Hj] at *;grind,λa b d h c=>by rw [Hj] at *;grind⟩
theorem cCV_eq {a b}(h:¬AZ a b<0)(u:¬AZ b a<0):a=b:=by rw [Hj] at h u;exact Ww7 χ χ
def uu (V:Ó)(v:Value)(c:Rat×Rat):Prop:=ja V v c.1 c.2/\Sz 100000000 c.1/\Sz 100000000 c.2
theorem uu.le {V V' v c}(h:uu V v c)(l:V.Le V'):uu V' v c:=⟨h.1.le l,h.2⟩
theorem uu.shape {v c}(h:uu V v c):∃(x y:Int)(p:OA)(u z:Int)(E:OA),v=dB #[Jq x,Jq y,qvZ p,Jq u,Jq z,qvZ E]:=by obtain ⟨⟨a,b,p,d,f,q,e,-⟩,-⟩:=h;exact qyZ e
theorem JK {v a b}(h:ja V v a.1 a.2)(F:ja V w b.1 b.2){k}(s1:Sz k a.1)(s2:Sz k a.2)(s3:Sz k b.1)(s4:Sz k b.2)(M:k<=200000000:=by omega):À 26 #[v,w] V λr W=>r=Jq (AZ a b):=by obtain ⟨c,d,q,e,f,i,rfl,u,x⟩:=h;obtain ⟨j,l,t,m,n,o,rfl,hu,hw⟩:=F;refine E8 V _ λy z=>(fU ra ra s1 s3).s ?_;rintro r V2 A rfl;refine ⟨_,rfl,λg p s=>?_,λg p s=>(fU ra ra s2 s4).s ?_⟩;{unfold AZ;rw [Ä (by simpa using g)]};{rintro r B C rfl;refine ⟨_,rfl,λD E=>?_⟩;unfold AZ;rw [Ã (by simpa using g)]}
theorem MO {v a b}(h:uu V v a)(u:uu V w b):À 26 #[v,w] V λr W=>r=Jq (AZ a b):=
 JK h.1 u.1 h.2.1 h.2.2 u.2.1 u.2.2
def eV (a b:Rat×Rat):Bool:=decide (a.1=b.1/\a.2=b.2)
theorem Tn {v a b}(h:uu V v a)(u:uu V w b):À 29 #[v,w] V λr W=>r=Õ (eV a b):=
 iI h.1 u.1 h.2.1 h.2.2 u.2.1 u.2.2
structure WB (V:Ó) (n:Nat) (vs:List Value) (l:List (Rat×Rat)):Prop where
 row:é 6 uu V vs l
 len:n=l.length
 iY:l.length<30000
theorem WB.le {V V' l}(h:WB V n vs l)(e:V.Le V'):WB V' n vs l:=⟨h.row.le λ_ _ g=>uu.le g e,h.len,h.iY⟩
theorem WB.get {l}(h:WB V n vs l){k}(F:k<l.length):∃(x y:Int)(p:OA)(u z:Int)(E:OA),((0+k*6)+6<=vs.length/\(vs.drop (0+k*6)).take 6=[Jq x,Jq y,qvZ p,Jq u,Jq z,qvZ E])/\uu V (dB #[Jq x,Jq y,qvZ p,Jq u,Jq z,qvZ E]) (l.getD k nJ):=by obtain ⟨xs,-,a,b,c⟩:=h.row.get (d:=nJ) F φ;obtain ⟨x,y,p,u,z,E,e⟩:=a.shape;have e:=Æ Array.toList (Value.agg.inj e);subst e;rw [Ĉ];exact ⟨x,y,p,u,z,E,⟨b,c⟩,a⟩
theorem uu.cells {v c}(h:uu V v c):∃xs:zA um,v=.agg xs.toArray/\xs.length=6/\∀x∈xs,x.oneCell'=true:=by obtain ⟨_,_,_,_,_,_,rfl⟩:=h.shape;exact ⟨_,rfl,rfl,Ħ.1 rfl⟩
theorem JO {V lb l}(hw:V.w.heap[lb]?=some (.cells vs.toArray 84 (0,0)))(z:V.X lb)(h:WB V n vs l):À 25 #[pT (some ⟨lb,0,none⟩) n c,.func (.func 26) #[] #[]] V λr W=>r=æ #[]/\∃u l',W.w.heap[lb]?=some (.cells u.toArray 84 (0,0))/\WB W n u l'/\l'.Perm l/\l'.Pairwise λx y=>¬AZ y x<0:=by have iY:=h.iY;refine (wT (R:=uu) (cf:=AZ) tF aggP sizP uu.le uu.cells ordCV MO φ hw z h.row h.len).s λr V' b ⟨rfl,u,l',e,row,pm,a⟩=>⟨rfl,u,l',e,⟨row,h.len.m pm.length_eq.symm,by rw [pm.length_eq];exact iY⟩,pm,a⟩
theorem zX:À 25 #[pT none 0 0,.func (.func 26) #[] #[]] V λr W=>r=æ #[]:=
 (oL tF).s λ_ _ _ h=>h.1
set_option maxHeartbeats 1000000 in
theorem BJ {V lb n c vs l}(hw:V.w.heap[lb]?=some (.cells vs.toArray 84 (0,0)))(hx:V.X lb)(h:WB V n vs l)(hc:n<=c):À 28 #[pT (some ⟨lb,0,none⟩) n c,.func (.func 29) #[] #[]] V λr W=>∃vs',r=pT (some ⟨lb,0,none⟩) (bU eV l).length c/\W.w.heap[lb]?=some (.cells vs'.toArray 84 (0,0))/\é 6 uu W vs' (bU eV l)/\vs'.length=vs.length:=by
 have iY:=h.iY;have len:=h.len;refine mr lb n c vs V _ hw hx ⟨λH V1 l1 J=>?_,λH=>⟨λz V'=>∃k:Nat,z=((k+1:Nat):Int)/\k+1<=n/\bU eV (l.take (k+1))=l.take (k+1),λz=>n-z.toNat,⟨1,σ,0,rfl,by have:=Â H;omega,nZ (by rw [ê];omega)⟩,?_⟩⟩
 ·have H:(n:Int)<2:=Á H;have e:=nZ (e:=eV) (l:=l);rw [e,<-len];exact ⟨vs,rfl,J,h.row.le λ_ _ g=>uu.le g l1,rfl⟩
 rintro z V2 l2 ⟨k,rfl,hk,j⟩;have G:=h.le l2;refine ⟨rfl,λb=>?_,λb V9 l9 K=>?_⟩;rotate_left
 ·have b:¬((k+1:Nat):Int)<n:=Â b;have e:l.take (k+1)=l:=Ŋ ω;rw [e] at j;rw [j,<-len];exact ⟨vs,rfl,K,h.row.le λ_ _ g=>uu.le g ax,rfl⟩
 have b:((k+1:Nat):Int)<n:=Á b;have w1:i64.wrap (((k+1:Nat):Int)-1)=(k:Int):=by rw [au ω];omega
 have w2:i64.wrap (((k+1:Nat):Int)+1)=((k+1+1:Nat):Int):=by rw [au ω];rfl
 rw [w1,w2,Ü,Ü];obtain ⟨x,y,A,B,C,D,I,W⟩:=G.get (k:=k+1) ω;obtain ⟨L,M,N,O,P,Q,R,Y⟩:=G.get (k:=k) ω;refine ⟨⟨ω,b⟩,x,y,A,B,C,D,I,ū,L,M,N,O,P,Q,R,λV3 l3=>(Tn ra ra).s ?_⟩;rintro r V4 l4 rfl;have step:=ir (e:=eV) (d:=nJ) (l:=l) (k:=k);refine ⟨_,rfl,λhe=>⟨ū,?_⟩,λhe=>⟨((k+1+1:Nat):Int),by dsimp only;omega,σ,k+1,rfl,ω,?_⟩⟩;rotate_left
 ·have p:eV (l.getD (k+1) nJ) (l.getD k nJ)=false:=he;rw [step,j,p];show l.take (k+1)++[_]=_;have E:k+1<l.length:=ω;rw [show l.getD (k+1) nJ=l[k+1] by rw [ĕ,ï E];rfl,š E]
 have p:eV (l.getD (k+1) nJ) (l.getD k nJ)=true:=he;have Z:∀{m:Nat},m<c->jW 0 c m 6=m*6:=λhm=>by unfold jW;rw [Ã ω,Ĉ]
 refine ⟨λz V'=>∃(q t:Nat)(m:zA (Rat×Rat)),z.1=(q:Int)/\z.2.1=((t+1:Nat):Int)/\q<=k+1+t/\k+1+t+1<=n/\WB V' n z.2.2 m/\z.2.2.length=vs.length/\(∀i,k+1+t<=i->m.getD i nJ=l.getD i nJ)/\m.take q=bU eV (l.take (k+1+t+1)),λz=>n-z.2.1.toNat,
  ⟨(((k+1:Nat):Int),1,vs),σ,k+1,0,l,rfl,rfl,ω,ω,ra,rfl,λi _=>rfl,?_⟩,?_⟩
 ·rw [Ę,step,p,Ä rfl,ą,j]
 rintro ⟨zq,zt,us⟩ V5 l5 ⟨q,t,m,e1,e2,hq,ht,s,S,hm,F⟩;dsimp only at e1 e2 s S;subst e1 e2;dsimp only;have ml:=s.len;have a0:=s.row.dN φ;refine ⟨rfl,λa=>?_,λa=>?_⟩
 ·have a:((t+1:Nat):Int)<((n-(k+1):Nat):Int):=Á a;have w3:i64.wrap (((t+1:Nat):Int)-1)=(t:Int):=by{rw [au ω];omega};have w4:i64.wrap (((t+1:Nat):Int)+1)=((t+1+1:Nat):Int):=by{rw [au ω];rfl};have w5:i64.wrap ((q:Int)+1)=((q+1:Nat):Int):=by{rw [au ω];rfl};rw [w3,w4,w5,Ü,Ü,Ü,Z ω];obtain ⟨x,y,A,B,C,D,I,W⟩:=s.get (k:=k+1+(t+1)) ω;obtain ⟨L,M,N,O,P,Q,R,Y⟩:=s.get (k:=k+1+t) ω;have a1:(k+1)*6+(t+1)*6=0+(k+1+(t+1))*6:=ω;have a2:(k+1)*6+t*6=0+(k+1+t)*6:=ω;rw [a1,a2];rw [hm _ ω] at W;rw [hm _ ω] at Y;refine ⟨⟨ω,a⟩,x,y,A,B,C,D,I,ū,L,M,N,O,P,Q,R,λV6 l6=>(Tn ra ra).s ?_⟩;rintro r V7 l7 rfl;have Wu:=l6.m l7;have f:=ir (e:=eV) (d:=nJ) (l:=l) (k:=k+1+t);refine ⟨_,rfl,λT=>⟨⟨ω,a⟩,x,y,A,B,C,D,I,ū,ω,(((q+1:Nat):Int),((t+1+1:Nat):Int),_),by dsimp only;omega,σ,q+1,t+1,m.set q (l.getD (k+1+(t+1)) nJ),rfl,rfl,ω,ω,?_,?_,λi E=>?_,?_⟩,λT=>⟨(((q:Nat):Int),((t+1+1:Nat):Int),us),by dsimp only;omega,σ,q,t+1,m,rfl,rfl,ω,ω,ra,S,λi E=>hm i ω,?_⟩⟩;{refine ⟨?_,by rw [Qc9];exact ml,by rw [Qc9];exact s.iY⟩;have:=(s.le Wu).row.put (i:=q) ω φ (xs:=[Jq x,Jq y,qvZ A,Jq B,Jq C,qvZ D]) rfl ra;rw [Ĉ];exact this};{exact (mR (vs:=us) (xs:=[Jq x,Jq y,qvZ A,Jq B,Jq C,qvZ D]) (o:=0+q*6) (by show 0+q*6+6<=_;omega)).m S};{rw [ĕ,Qb3 ω,<-ĕ];exact hm i ω};{have u:eV (l.getD (k+1+(t+1)) nJ) (l.getD (k+1+t) nJ)=false:=by{simpa using T};have v:eV (l.getD (k+1+t+1) nJ) (l.getD (k+1+t) nJ)=false:=u;have E:q<m.length:=ω;rw [show k+1+(t+1)+1=k+1+t+2 from rfl,f,v,<-F,Ã φ];rw [Qh3,Ķ,ï E,show (some m[q]).toList=[m[q]] from rfl];rw [Wq4 _ _ (by rw [ê];omega),ê,ğ ω,Wv1];rfl};{have u:eV (l.getD (k+1+(t+1)) nJ) (l.getD (k+1+t) nJ)=true:=by{simpa using T};have v:eV (l.getD (k+1+t+1) nJ) (l.getD (k+1+t) nJ)=true:=u;rw [show k+1+(t+1)+1=k+1+t+2 from rfl,f,v,Ä rfl,ą,F]}
 ·have a:¬((t+1:Nat):Int)<((n-(k+1):Nat):Int):=Â a;have hl:l.take (k+1+t+1)=l:=Ŋ ω;rw [hl] at F;have a3:q<n:=by{have:=HC (e:=eV) (d:=nJ) (l:=l) (k:=k) ω p;rw [<-F,ê] at this;omega};rw [Ü,Z ω];have hz:q*6+(n-q)*6=n*6:=by{rw [<-Ē];congr 1;omega};rw [hz];refine ⟨ū,ω,ū,λV8 l8 U=>⟨_,?_,U,?_,?_⟩⟩;{rw [<-F,ê,ğ ω]};{rw [<-F,ě];exact (s.row.le λ_ _ g=>uu.le g l8).Hx ω φ};{simp only [î,ê,Į,mV,Qr6,Qs6,Qt7,Ā,Ļ];omega}
theorem uG:À 28 #[pT none 0 0,.func (.func 29) #[] #[]] V λr W=>r=pT none 0 0:=
 kj V _ ⟨λ_ a b=>rfl,λh=>Å (Â h) φ⟩
theorem fW {p A}(h:bM 6 uu V p n A)(hn:A.length<=1000000:=by omega):À 27 #[pT p n c] V λr W=>∃q m e,r=pT q m e/\bM 6 df W q m A:=by obtain rfl:=h.len;refine xi V _ ⟨λz V'=>∃j:Nat,z.2.2.2=(j:Int)/\j<=A.length/\GR 6 df V' z.1 z.2.1 z.2.2.1 (A.take j),λz=>A.length-z.2.2.2.toNat,⟨(0,0,[],0),σ,0,rfl,ã _,GR.nil⟩,?_⟩;rintro ⟨s,P,Q,R⟩ S i ⟨j,t,T,d⟩;subst t;have u:=d.len;rw [ê] at u;refine ⟨rfl,λb=>?_,λb U v W B=>?_⟩;{have b:(j:Int)<A.length:=Á b;have f:j<A.length:=ω;have w:i64.wrap ((j:Int)+1)=((j+1:Nat):Int):=by{rw [au ω];rfl};dsimp only;rw [Ü,w];obtain ⟨C,x,y,q,X,Y,Z,a,D,E,F,G,H,I,J,g⟩:=XV (k:=100000000) (h.le i λ_ _ g=>uu.le g i) f;refine ⟨C,ū,_,_,_,_,_,_,a,D,E,F,G,H,I,J,λV2 K=>(Ho (g.1.le K) g.2.1 g.2.2 φ).s ?_⟩;rintro r l l3 L;have o:df l r A[j]:=L;obtain ⟨_,_,_,_,_,_,_,_,_,_,_,_,_,_,rfl⟩:=o.shape;refine qyJ ⟨rfl,ω,d.le,d.cap,rfl,PD,λsp M N O=>⟨(s+1,M,_,((j+1:Nat):Int)),by dsimp only;omega,σ,j+1,rfl,f,?_⟩⟩;rw [Ķ,ï f];exact (d.s (V':=l) λ_ _ g=>df.le g ax).snoc rfl o φ N O};{have b:¬(j:Int)<A.length:=Â b;obtain rfl:j=A.length:=ω;rw [Ĥ] at d;obtain rfl:=d.len;exact ⟨_,_,_,rfl,bM.bI B (d.row.le λ_ _ g=>df.le g v) φ d.le⟩}
def Ql (V:Ó)(n c:Nat)(vs:List Value)(l:List (Rat×Rat)):Prop:=GR 6 uu V n c vs l/\(vs≠[]->0<n)
theorem Ql.le {V V' l}(h:Ql V n c vs l)(e:V.Le V'):Ql V' n c vs l:=⟨h.1.s λ_ _ g=>uu.le g e,h.2⟩
theorem x_:∀l:zA (L3×Sp),(l.flatMap jd).length<=2*l.length
 | []=>Ù _
 | f::r=>by
  have:=x_ r;rw [Ė,î,Ā]
  have:(jd f).length<=2:=by
   unfold jd;split<;>split<;>simp
  omega
section
variable {S:List L3} {t:Tr} (h:zR S t)
include h
theorem OZ {V q}(g:RT V q t):À 22 #[qvZ q] V λr W=>∃p n c,r=pT p n c/\bM 17 qD W p n (bY (j7 t (aV t.cV))):=by
 have e:=h.len;have j:=h.lines
 exact qS g (H_ h.ok) h.size ω (λl b=>⟨_,_,h.crp (h.okb l b).2,h.crp (h.okb l b).2.rev⟩) (λi _=>ID i) (VD _) (Zd _)
  λg d=>FO g d ω (λm=>ś (h.each m) ω) (λf a=>(h.zw f a).2.1.iS.up ω) (λf a=>(h.zw f a).1.2) (λf a=>(h.zw f a).2.2) λi=>ID i
theorem MJ {V v y z}(hA:AT V v (rt 0 t) (wr 0 t))(hy:qL V 0 y)(hz:qL V 1 z):À 7 #[v] V λr W=>∃p n c m,r=æ #[pT p n c,.nilIface]/\bM 6 df W p n (bU eV m)/\m.Perm ((bY (j7 t (aV t.cV))).flatMap jd)/\m.Pairwise λx y=>¬AZ y x<0:=by have ln:=h.len;have sz:=h.size;have jl:=th (j7 t (aV t.cV));have zs:=Ct λf X=>(h.zw f X).2;obtain ⟨q,n,c,rfl,-⟩:=id hA;refine sE V _ λV1 l1=>(ka (rD (H_ h.ok)) ra ra ra).s ?_;rintro r V2 l2 ⟨-,g⟩;obtain ⟨p,rfl,gt⟩:=g t (NG (PA h.ok)) h.dep;refine ⟨p,.nilIface,rfl,.inl rfl,π,λ_ V4 l4=>(OZ h (gt.le l4)).s ?_⟩;rintro r V5 l5 ⟨p3,n3,c3,rfl,hF⟩;generalize bY (j7 t (aV t.cV))=F at *;obtain rfl:=hF.len;refine ⟨p3,_,c3,rfl,λz V'=>∃j:Nat,z.2.2.2=(j:Int)/\j<=F.length/\Ql V' z.1 z.2.1 z.2.2.1 ((F.take j).flatMap jd),λz=>F.length-z.2.2.2.toNat,⟨(0,0,[],0),σ,0,rfl,ã _,GR.nil,λh=>Å rfl h⟩,?_⟩;rintro ⟨Y,G,vs,z4⟩ V6 l6 ⟨j,T,yo,s⟩;dsimp only at T s;subst T;have el:∀i,((F.take i).flatMap jd).length<=12200:=λi=>by{have:=x_ (F.take i);rw [ê] at this;omega};refine ⟨rfl,λu=>?_,λu=>?_⟩;{have u:(j:Int)<F.length:=Á u;have U:j<F.length:=ω;have w:i64.wrap ((j:Int)+1)=((j+1:Nat):Int):=by{rw [au ω];rfl};dsimp only;rw [Ü,w];obtain ⟨ad,a0,xs,h2,h3⟩:=(hF.le l6 λ_ _ g=>xF.le g l6).at_ j U;have X:xF V6 (.agg xs.toArray) F[j].1 F[j].2:=h3.1;have d:=h3.2;obtain ⟨x1,x2,p',y1,y2,q',u1,u2,r',v1,v2,t',w1,w2,o',ex,-,-⟩:=id X;have ex:=Æ Array.toList (Value.agg.inj ex);subst ex;have ⟨s1,s2⟩:=zs _ (ô U);have step:(F.take (j+1)).flatMap jd=(F.take j).flatMap jd++jd F[j]:=by{rw [<-š U,Qc1];simp};have a4:=s.1.len;have H:=el j;refine ⟨bj a0,ū,x1,x2,p',y1,y2,q',u1,u2,r',v1,v2,t',w1,w2,o',_,_,ad,a0,d 0 _ rfl,d 1 _ rfl,d 2 _ rfl,d 3 _ rfl,d 4 _ rfl,d 5 _ rfl,d 6 _ rfl,d 7 _ rfl,d 8 _ rfl,d 9 _ rfl,d 10 _ rfl,d 11 _ rfl,d 12 _ rfl,d 13 _ rfl,d 14 _ rfl,d 15 _ rfl,d 16 _ rfl,λ_=>⟨ū,λV7 l7=>(uH ra s1 s2).s ?_⟩,λh=>nomatch h⟩;rintro r V8 l8 ⟨w',rfl,W⟩;have I:=W;obtain ⟨_,_,_,_,_,_,rfl,-,-⟩:=W;refine qyK ⟨rfl,λz V'=>Ql V' z.1 z.2.1 z.2.2 ((F.take j).flatMap jd++if F[j].2.a=true then [] else [(cP F[j].1 F[j].2.lo,cR F[j].1 F[j].2.lo)]),⟨λk=>?_,λk=>?_⟩,?_⟩;{have k:F[j].2.a=false:=by{simpa using k};rw [k] at I;refine ⟨ω,s.1.le,s.1.cap,rfl,CO,λsp Z D J=>⟨(Y+1,Z,_),σ,?_⟩⟩;rw [k,Ã φ];exact ⟨(s.1.s (V':=V8) λ_ _ g=>uu.le g ax).snoc rfl ⟨I,(nt s1 s2.1).s ω,(ny s1 s2.1).s ω⟩ φ D J,λ_=>by dsimp only;omega⟩};{have k:F[j].2.a=true:=by{simpa using k};refine ⟨(Y,G,vs),σ,?_⟩;rw [k,Ä rfl,ą];exact ra};rintro ⟨n1,n2,ns⟩ V9 l9 B;dsimp only at B;have m1:=B.1.len;refine ⟨rfl,λ_=>⟨ū,λgx a5=>(JI ra s1 s2).s ?_⟩,λh=>nomatch h⟩;rintro r fu dM ⟨a6,rfl,K⟩;have L:=K;obtain ⟨_,_,_,_,_,_,rfl,-,-⟩:=K;have m2:n1<=12201:=by{have:(if F[j].2.a=true then [] else [(cP F[j].1 F[j].2.lo,cR F[j].1 F[j].2.lo)]).length<=1:=by{split<;>simp};rw [î] at m1;omega};refine qyK ⟨rfl,λz V'=>Ql V' z.1 z.2.1 z.2.2 ((F.take (j+1)).flatMap jd),⟨λk=>?_,λk=>?_⟩,?_⟩;{have k:F[j].2.b=false:=by{simpa using k};rw [k] at L;refine ⟨by dsimp only;omega,B.1.le,B.1.cap,rfl,CO,λsp Z D J=>⟨(n1+1,Z,_),σ,?_⟩⟩;rw [step,jd,k,Ã (c:=false=true) φ,<-ě];exact ⟨(B.1.s (V':=fu) λ_ _ g=>uu.le g ax).snoc rfl ⟨L,(nt s1 s2.2).s ω,(ny s1 s2.2).s ω⟩ φ D J,λ_=>by dsimp only;omega⟩};{have k:F[j].2.b=true:=by{simpa using k};refine ⟨(n1,n2,ns),σ,?_⟩;rw [step,jd,k,Ä (c:=true=true) rfl,ą];exact ra};rintro ⟨D,J,ks⟩ iD eN a1;exact ⟨rfl,π,λ_=>⟨(D,J,ks,((j+1:Nat):Int)),by dsimp only;omega,σ,j+1,rfl,U,a1⟩⟩};have u:¬(j:Int)<F.length:=Â u;obtain rfl:j=F.length:=ω;have H:=el F.length;rw [Ĥ] at s H;obtain ⟨s,M⟩:=s;have N:=s.cap;have hle:=s.le;have hlen:=s.len;generalize F.flatMap jd=o at *;refine ⟨λhz=>?_,λhz jZ gG O f1 f2=>?_⟩;{subst hz;have c0:G=0:=by{simp at N;omega};subst c0;have n0:Y=0:=ω;subst n0;refine ⟨rfl,λkE fw=>zX.s ?_⟩;rintro r mg hZ rfl;refine ⟨rfl,λmz eH WQ e1 e2=>uG.s ?_⟩;rintro r mh fP rfl;refine ⟨0,[],λh=>Å rfl h,λh=>Å rfl h,none,0,0,rfl,λmX gX SY hl=>(fW (A:=[]) bM.nil φ).s ?_⟩;rintro r nM gy ⟨P,Q,R,rfl,hw⟩;refine ⟨P,Q,R,rfl,λ_ qh iX=>⟨P,Q,R,[],rfl,hw.le iX λ_ _ g=>df.le g iX,?_,List.Pairwise.nil⟩⟩;rw [(Ĝ.1 hlen.symm)]};have a7:=M hz;have a2:G≠0:=ω;have HU:∀b,mA b G=some ⟨b,0,none⟩:=λb=>by{unfold mA;rw [Ã a2]};rw [HU];refine (JO (V:=jZ.aw [vb vs jZ.w.heap.size O]) (f1 hz) ⟨by simp [kt hz],f2 hz⟩ ⟨s.row.le λ_ _ g=>uu.le g λb o h=>gG b o h,hlen,ω⟩).s ?_;rintro r qN mo ⟨rfl,C,m,e3,sr,pm,pw⟩;have H3:=pm.length_eq;have E:C≠[]:=λe=>by{have:=sr.row.dN φ;rw [e,H3,<-hlen] at this;simp at this;omega};refine ⟨rfl,hz,C,E,e3,λtR oB S W K=>?_⟩;rw [HU];refine ae.Uy (BJ (V:=tR.aw [vb C tR.w.heap.size S]) (lb:=S) (vs:=C) (l:=m) (W E) ⟨by simp [kt E],K E⟩ (sr.le λb o h=>oB b o h) hle) ?_;rintro r sO mL hH ⟨ws,rfl,T,row,wl⟩;have hk:=jQ (e:=eV) (l:=m);refine ⟨S,ws,λ_=>T,λ_=>.inr ⟨E,rfl⟩,some ⟨S,0,none⟩,(bU eV m).length,G,by rw [HU],λEc oC a3 D=>(fW (A:=bU eV m) (bM.bI D (row.le λ_ _ g=>uu.le g ((Cw λ_=>hH S (K E)).m oC)) φ ω)).s ?_⟩;rintro r Bw zC ⟨P,Q,R,rfl,hw⟩;exact ⟨P,Q,R,rfl,λ_ Jw yr=>⟨P,Q,R,m,rfl,ra,pm,pw⟩⟩
end
end
section
variable{vs:List Value}{V:Ó}
def Ru (p:Rat×Rat)(f:L3×Sp):Bool:=HS f.1 f.2 p.1 p.2&&(f.2.b||!decide (cP f.1 f.2.hi=p.1/\cR f.1 f.2.hi=p.2))
def O7 (p:Rat×Rat)(f:L3×Sp):Bool:=HS f.1 f.2 p.1 p.2&&(f.2.a||!decide (cP f.1 f.2.lo=p.1/\cR f.1 f.2.lo=p.2))
def Rv (p:Rat×Rat)(F:List (L3×Sp)):List (Rat×Rat):=(F.filter (Ru p)).map λf=>iO (aq.aB f.1)
def QN (p:Rat×Rat)(F:List (L3×Sp)):List (Rat×Rat):=(F.filter (O7 p)).map λf=>UJ (iO (aq.aB f.1))
theorem H0 {p F f}:Rv p (F++[f])=Rv p F++if Ru p f=true then [iO (aq.aB f.1)] else []:=by unfold Rv;congr 1;cases h:Ru p f<;>simp [h]
theorem Hy {p F f}:QN p (F++[f])=QN p F++if O7 p f=true then [UJ (iO (aq.aB f.1))] else []:=by unfold QN;congr 1;cases h:O7 p f<;>simp [h]
theorem Ur {p F}:(Rv p F).length<=F.length:=by unfold Rv;rw [ē];exact Qp6 ..
theorem cm_len {p F}:(QN p F).length<=F.length:=by unfold QN;rw [ē];exact Qp6 ..
theorem SO {l}(n:Nz l){p:Rat×Rat}(u:ay l p.1 p.2=0){q}:(cP l q=p.1/\cR l q=p.2)↔q=eE l p.1 p.2:=by constructor;{rintro ⟨e,a⟩;rw [<-e,<-a];exact (qO n q).2.symm};{rintro rfl;exact Ig n u}
theorem Pu {p f}(n:Nz f.1):Ru p f=true↔lvF p f:=by unfold Ru lvF HS;by_cases a:ay f.1 p.1 p.2=0;{simp only [Ċ,Pj,SO n a];grind};{simp [a]}
theorem O8 {p f}(n:Nz f.1):O7 p f=true↔cmF p f:=by unfold O7 cmF HS;by_cases a:ay f.1 p.1 p.2=0;{simp only [Ċ,Pj,SO n a];grind};{simp [a]}
theorem KD {fs}(u:∀f∈fs,Bd f.1):∀f∈bY fs,Bd f.1:=λf a=>by
 have ⟨m,hm,a⟩:=ċ.1 a;obtain ⟨s,-,rfl⟩:=ù.1 a;obtain ⟨g,b,rfl⟩:=ù.1 (((cE _).2 _).1 hm);exact u g b
def zT (V:Ó)(n c:Nat)(vs:List Value)(l:List (Rat×Rat)):Prop:=GR 6 oT V n c vs l/\(vs≠[]->0<n)
theorem zT.le {V V' n c l}(h:zT V n c vs l)(e:V.Le V'):zT V' n c vs l:=⟨h.1.s λ_ _ g=>oT.le g e,h.2⟩
theorem zT.snoc {n c l}(h:zT V n c vs l){xs sp:zA um}{a u}(y:xs.length=6)(z:oT V (.agg xs.toArray) a)(E:n+1<=u)(F:u*6<=(n+1)*6+sp.length):zT V (n+1) u (vs.take (n*6)++xs++sp) (l++[a]):=
 ⟨h.1.snoc y z φ E F,λ_=>Nat.succ_pos _⟩
theorem oT.v {v c}(h:oT V v c):uu V v c:=⟨h.1,h.2.1.s ω,h.2.2.s ω⟩
theorem ZR {V' l}(h:é 6 oT V vs l)(e:∀v a,oT V v a->oT V' v a):é 6 uu V' vs l:=⟨λi b=>by have ⟨xs,c,d,f⟩:=h.at_ i b;exact ⟨xs,c,(e _ _ d).v,f⟩⟩
section
variable {S:List L3} {t:Tr} (h:zR S t)
include h
set_option maxHeartbeats 1000000 in
theorem WY {V v w y z p}(hA:AT V v (rt 0 t) (wr 0 t))(hp:xE V w p.1 p.2)(sx:Sz 100000000 p.1)(sy:Sz 100000000 p.2)(hy:qL V 0 y)(hz:qL V 1 z):À 8 #[v,w] V λr W=>∃q n c m q' n' c' m',r=æ #[pT q n c,pT q' n' c',.nilIface]/\bM 6 df W q n (bU eP m)/\m.Perm (Rv p (bY (j7 t (aV t.cV))))/\(m.Pairwise λx y=>¬OX y x<0)/\bM 6 df W q' n' (bU eP m')/\m'.Perm (QN p (bY (j7 t (aV t.cV))))/\m'.Pairwise λx y=>¬OX y x<0:=by
 have ln:=h.len;have sz:=h.size;have jl:=th (j7 t (aV t.cV));have zs:=Ct λf R=>(h.zw f R).2;have bs:=KD λf R=>(h.zw f R).2.1;have h0:=hA;have c4:=hp;obtain ⟨q,n,c,rfl,-⟩:=hA;obtain ⟨_,_,_,_,_,_,_,_,_,_,_,_,_,_,rfl,-,-⟩:=hp;refine xh V _ λV1 l1=>(ka (rD (H_ h.ok)) (h0.le l1) (hy.le l1) (hz.le l1)).s ?_;rintro r V2 l2 ⟨-,g⟩;obtain ⟨pt,rfl,gt⟩:=g t (NG (PA h.ok)) h.dep;refine ⟨pt,.nilIface,rfl,.inl rfl,π,λ_ V4 l4=>(lf (c4.le ax) sx sy).s ?_⟩;rintro r V5 l5 gq;have S:=gq;obtain ⟨_,_,_,_,_,_,rfl,-,-⟩:=gq;refine qyZ ⟨rfl,λV6 l6=>(OZ h (gt.le ax)).s ?_⟩;rintro r V7 l7 ⟨p3,n3,c3,rfl,hF⟩;generalize bY (j7 t (aV t.cV))=F at *;have fl:F.length<=6100:=ω
 obtain rfl:=hF.len
 refine ⟨p3,_,c3,rfl,λz V'=>∃j:Nat,z.2.2.2.2.2.2=(j:Int)/\j<=F.length/\zT V' z.1 z.2.1 z.2.2.1 (Rv p (F.take j))/\zT V' z.2.2.2.1 z.2.2.2.2.1 z.2.2.2.2.2.1 (QN p (F.take j)),λz=>F.length-z.2.2.2.2.2.2.toNat,
  ⟨(0,0,[],0,0,[],0),σ,0,rfl,ã _,⟨GR.nil,λh=>Å rfl h⟩,GR.nil,λh=>Å rfl h⟩,?_⟩
 rintro ⟨E,c1,B,G,c2,H,z4⟩ V8 l8 ⟨j,e4,yo,i,d⟩;dsimp only at e4 i d;subst e4
 have f5:E<=6100:=by have:=i.1.len;have:=Ur (p:=p) (F:=F.take j);rw [ê] at this;omega
 have f6:G<=6100:=by have:=d.1.len;have:=cm_len (p:=p) (F:=F.take j);rw [ê] at this;omega
 have f7:=l6.m (l7.m l8);refine ⟨rfl,λL=>?_,λL WD Ms bk f1 f2=>?_⟩
 ·have L:(j:Int)<F.length:=Á L;have M:j<F.length:=ω
  have w:i64.wrap ((j:Int)+1)=((j+1:Nat):Int):=by rw [au ω];rfl
  dsimp only;rw [Ü,w];obtain ⟨ad,a0,xs,h2,h3⟩:=(hF.le l8 λ_ _ g=>xF.le g l8).at_ j M;have R:xF V8 (.agg xs.toArray) F[j].1 F[j].2:=h3.1;have u:=h3.2;obtain ⟨x1,x2,p',y1,y2,q',u1,u2,r',v1,v2,t',w1,w2,o',ex,hl,-⟩:=id R;have ex:=Æ Array.toList (Value.agg.inj ex);dsimp only at ex;subst ex;have ⟨s1,s2⟩:=zs _ (ô M);have bd:=bs _ (ô M);have et:F.take (j+1)=F.take j++[F[j]]:=(š M).symm
  refine ⟨bj a0,ū,x1,x2,p',y1,y2,q',u1,u2,r',v1,v2,t',w1,w2,o',_,_,ad,a0,u 0 _ rfl,u 1 _ rfl,u 2 _ rfl,u 3 _ rfl,u 4 _ rfl,u 5 _ rfl,u 6 _ rfl,u 7 _ rfl,u 8 _ rfl,u 9 _ rfl,u 10 _ rfl,u 11 _ rfl,u 12 _ rfl,u 13 _ rfl,u 14 _ rfl,u 15 _ rfl,u 16 _ rfl,
   λV9 l9=>(Tc (k:=100000000) (R.le l9) (S.le ax) (s1.up ω) ⟨s2.1.s ω,s2.2.s ω⟩ sx sy).s ?_⟩
  rintro r gx c9 rfl;refine ⟨_,rfl,λC=>?_,λC fu dM=>(k_Dir (hl.le ax) bd).s ?_⟩
  ·have C:HS F[j].1 F[j].2 p.1 p.2=false:=by{simpa using C};refine ⟨(E,c1,B,G,c2,H,((j+1:Nat):Int)),by dsimp only;omega,σ,j+1,rfl,M,?_,?_⟩;{rw [et,H0,Ã (by unfold Ru;rw [C];simp),ą];exact i.le ax};{rw [et,Hy,Ã (by unfold O7;rw [C];simp),ą];exact d.le ax}
  have C:HS F[j].1 F[j].2 p.1 p.2=true:=by simpa using C
  rintro r iD eN gd;have d0:=gd;obtain ⟨_,_,_,_,_,_,rfl,-,-⟩:=gd;have ⟨a7,a8⟩:=vi bd;refine qyZ ⟨rfl,λkE fw=>(BK (p:=aq.aB F[j].1) (d0.le fw) a7 a8).s ?_⟩;rintro r mg hZ ge;have Xr:=ge;obtain ⟨a1,a2,a3,a4,a5,a6,rfl,-,-⟩:=ge;have ⟨I,J⟩:=Lt a7 a8;have d3:=l9.m (c9.m (dM.m (eN.m (fw.m hZ))));refine qyZ ⟨rfl,λmz eH=>(JI (R.le ax) s1 s2).s ?_⟩;rintro r mh fP ⟨w',rfl,g2⟩;have a9:=g2;obtain ⟨_,_,_,_,_,_,rfl,-,-⟩:=g2;have d5:=d3.m (eH.m fP);refine qyK ⟨rfl,λz V'=>z=Ru p F[j],⟨λe=>?_,λe mX gX=>?_⟩,?_⟩
  ·have e:F[j].2.b=true:=by{simpa using e};refine ⟨true,σ,?_⟩;show true=Ru p F[j];unfold Ru;rw [C,e];rfl
  ·have e:F[j].2.b=false:=by{simpa using e};rw [e] at a9;refine (iI (k:=100000000) (a9.le gX) (S.le ax) ((nt s1 s2.2).s ω) ((ny s1 s2.2).s ω) sx sy).s ?_;rintro r nM gy rfl;refine ⟨_,rfl,_,σ,?_⟩;unfold Ru;rw [C,e];rfl
  rintro zb qh iX ez;have f8:=d5.m iX
  have N:∀(s:un),qh.Le s->Ru p F[j]=false->zT s E c1 B (Rv p (F.take (j+1))):=λs W e=>by rw [et,H0,e,Ã φ,ą];exact i.le ax
  have O:∀(s:un),qh.Le s->Ru p F[j]=true->∀{sp:zA um} {k:Nat},E+1<=k->k*6<=(E+1)*6+sp.length->zT s (E+1) k (B.take (E*6)++[Jq a1,Jq a2,qvZ a3,Jq a4,Jq a5,qvZ a6]++sp) (Rv p (F.take (j+1))):=λs W e sp k X Y=>by rw [et,H0,e,Ä rfl];exact (i.le ax).snoc (sp:=sp) rfl ⟨Xr.le (eH.m (fP.m ax)),I.s ω,J.s ω⟩ X Y
  have T:∀(s:un),qh.Le s->O7 p F[j]=false->zT s G c2 H (QN p (F.take (j+1))):=λs W e=>by rw [et,Hy,e,Ã φ,ą];exact d.le ax
  have Yd:∀(s:un),qh.Le s->O7 p F[j]=true->∀{xs sp:zA um} {k:Nat},xs.length=6->ja s (.agg xs.toArray) (-(iO (aq.aB F[j].1)).1) (-(iO (aq.aB F[j].1)).2)->G+1<=k->k*6<=(G+1)*6+sp.length->zT s (G+1) k (H.take (G*6)++xs++sp) (QN p (F.take (j+1))):=λs W e xs sp k hx K X Y=>by rw [et,Hy,e,Ä rfl];exact (d.le ax).snoc hx ⟨K,I.neg.s ω,J.neg.s ω⟩ X Y
  have b0:zb=Ru p F[j]:=ez;refine ⟨rfl,λhz=>⟨ω,i.1.le,i.1.cap,rfl,CO,λsp k X Y s W=>?_⟩,λhz s W=>?_⟩
  ·have lt:=b0.symm.m hz;refine (uH (R.le ax) s1 s2).s ?_;rintro r qN mo ⟨d6,rfl,g3⟩;have Sn:=g3;obtain ⟨_,_,_,_,_,_,rfl,-,-⟩:=g3;have YR:=W.m mo;refine qyK ⟨rfl,λe tR oB=>(vF (p:=iO (aq.aB F[j].1)) (Xr.le (eH.m (fP.m ax))) I J).s ?_,λe Ec oC=>?_⟩;{have e:F[j].2.a=true:=by{simpa using e};rintro r sO mL K;have D:=K;obtain ⟨_,_,_,_,_,_,rfl,-,-⟩:=K;have P:=YR.m (oB.m mL);exact qyZ ⟨rfl,ω,d.1.le,d.1.cap,rfl,CO,λZ k' k3 k4=>⟨(E+1,k,_,G+1,k',_,((j+1:Nat):Int)),by dsimp only;omega,σ,j+1,rfl,M,O sO P lt X Y,Yd sO P (by unfold O7;rw [C,e];rfl) rfl D k3 k4⟩⟩};{have e:F[j].2.a=false:=by{simpa using e};rw [e] at Sn;refine (iI (k:=100000000) (Sn.le oC) (S.le ax) ((nt s1 s2.1).s ω) ((ny s1 s2.1).s ω) sx sy).s ?_;rintro r Bw zC rfl;have U:=YR.m (oC.m zC);refine ⟨_,rfl,λe' Jw yr=>(vF (p:=iO (aq.aB F[j].1)) (Xr.le (eH.m (fP.m ax))) I J).s ?_,λe'=>⟨(E+1,k,_,G,c2,H,((j+1:Nat):Int)),by dsimp only;omega,σ,j+1,rfl,M,O Bw U lt X Y,T Bw U (by unfold O7;rw [C,e];exact e')⟩⟩;rintro r Mp Bf K;have D:=K;obtain ⟨_,_,_,_,_,_,rfl,-,-⟩:=K;have Q:=U.m (yr.m Bf);exact qyZ ⟨rfl,ω,d.1.le,d.1.cap,rfl,CO,λZ k' k3 k4=>⟨(E+1,k,_,G+1,k',_,((j+1:Nat):Int)),by dsimp only;omega,σ,j+1,rfl,M,O Mp Q lt X Y,Yd Mp Q (by unfold O7;rw [C,e];exact e') rfl D k3 k4⟩⟩}
  ·have lt:=b0.symm.m hz;refine (uH (R.le ax) s1 s2).s ?_;rintro r qN mo ⟨d6,rfl,g3⟩;have Sn:=g3;obtain ⟨_,_,_,_,_,_,rfl,-,-⟩:=g3;have YR:=W.m mo;refine qyK ⟨rfl,λe tR oB=>(vF (p:=iO (aq.aB F[j].1)) (Xr.le (eH.m (fP.m ax))) I J).s ?_,λe Ec oC=>?_⟩;{have e:F[j].2.a=true:=by{simpa using e};rintro r sO mL K;have D:=K;obtain ⟨_,_,_,_,_,_,rfl,-,-⟩:=K;have P:=YR.m (oB.m mL);exact qyZ ⟨rfl,ω,d.1.le,d.1.cap,rfl,CO,λZ k' k3 k4=>⟨(E,c1,B,G+1,k',_,((j+1:Nat):Int)),by dsimp only;omega,σ,j+1,rfl,M,N sO P lt,Yd sO P (by unfold O7;rw [C,e];rfl) rfl D k3 k4⟩⟩};{have e:F[j].2.a=false:=by{simpa using e};rw [e] at Sn;refine (iI (k:=100000000) (Sn.le oC) (S.le ax) ((nt s1 s2.1).s ω) ((ny s1 s2.1).s ω) sx sy).s ?_;rintro r Bw zC rfl;have U:=YR.m (oC.m zC);refine ⟨_,rfl,λe' Jw yr=>(vF (p:=iO (aq.aB F[j].1)) (Xr.le (eH.m (fP.m (iX.m (U.m yr))))) I J).s ?_,λe'=>⟨(E,c1,B,G,c2,H,((j+1:Nat):Int)),by dsimp only;omega,σ,j+1,rfl,M,N Bw U lt,T Bw U (by unfold O7;rw [C,e];exact e')⟩⟩;rintro r Mp Bf K;have D:=K;obtain ⟨_,_,_,_,_,_,rfl,-,-⟩:=K;have Q:=U.m (yr.m Bf);exact qyZ ⟨rfl,ω,d.1.le,d.1.cap,rfl,CO,λZ k' k3 k4=>⟨(E,c1,B,G+1,k',_,((j+1:Nat):Int)),by dsimp only;omega,σ,j+1,rfl,M,N Mp Q lt,Yd Mp Q (by unfold O7;rw [C,e];exact e') rfl D k3 k4⟩⟩}
 have L:¬(j:Int)<F.length:=Â L;obtain rfl:j=F.length:=ω
 rw [Ĥ] at i d;have e1:=i.1.len;have e2:=d.1.len;refine (vE (V:=WD.aw [vb B WD.w.heap.size bk]) (lb:=bk) f1 (λh=>⟨by simp [kt h],f2 h⟩) (i.1.s (V':=WD.aw _) λ_ _ g=>oT.le g λb o h=>Ms b o h) i.2 ω (VE _ _ _)).s ?_;rintro r f9 Rm ⟨bm,vm,n5,c5,m,b1,b2,rfl,row,rfl,b4,pm,pw⟩;refine ⟨bm,vm,b1,b2,none,_,c5,rfl,λb5 Nv Hf e3=>?_⟩;have d7:V8.Le b5:=Ms.m ((rC (V:=WD) (V':=WD) (λb o h=>Rm b o h) (Ó.Le.refl WD) λh=>(b2 h).imp id λh'=>by rw [h'.2];exact f2 h'.1).m Nv);have H3:=pm.length_eq;have f0:=jQ (e:=eP) (l:=m);refine (fW (A:=bU eP m) (bM.bI e3 (ZR row λ_ _ g=>(oT.le g λb o h=>Nv b o h:oT b5 _ _)) φ b4)).s ?_;rintro r g0 Ug ⟨q6,n6,c6,rfl,d8⟩;refine ⟨q6,n6,c6,rfl,λ_ SD Sr SW f3 f4=>?_⟩;refine (vE (V:=SD.aw [vb H SD.w.heap.size SW]) (lb:=SW) f3 (λh=>⟨by simp [kt h],f4 h⟩) (d.1.s (V':=SD.aw _) λ_ _ g=>oT.le g λb o h=>(d7.m (Ug.m Sr)) b o h) d.2 ω (VE _ _ _)).s ?_;rintro r g1 XN ⟨d9,e0,n7,c7,m',d1,d2,rfl,b6,rfl,d4,b7,e6⟩;refine ⟨d9,e0,d1,d2,none,_,c7,rfl,λb8 b9 WQ e5=>?_⟩;have c0:SD.Le b8:=(rC (V:=SD) (V':=SD) (λb o h=>XN b o h) (Ó.Le.refl SD) λh=>(d2 h).imp id λh'=>by rw [h'.2];exact f4 h'.1).m b9;have e7:=b7.length_eq;have e8:=jQ (e:=eP) (l:=m');refine (fW (A:=bU eP m') (bM.bI e5 (ZR b6 λ_ _ g=>(oT.le g λb o h=>b9 b o h:oT b8 _ _)) φ d4)).s ?_;rintro r g4 Wt ⟨q8,n8,c8,rfl,e9⟩;exact ⟨q8,n8,c8,rfl,λ_ g5 XO=>⟨q6,n6,c6,m,q8,n8,c8,m',rfl,d8.le (Sr.m (c0.m (Wt.m XO))) λ_ _ g=>df.le g (Sr.m (c0.m (Wt.m XO))),pm,pw,e9.le XO λ_ _ g=>df.le g XO,b7,e6⟩⟩
end
end
section
section
variable {t:Tr} (ht:∀k ∈ t.cV,bX k=true) {p:Rat × Rat} {m:List (Rat × Rat)}
include ht
theorem G2 {f:L3×Sp}(u:f∈bY (j7 t (aV t.cV))):bX f.1=true:=((Gq ht (m:=f.1) (s:=f.2)).1 u).1
theorem Xg (pm:m.Perm (Rv p (bY (j7 t (aV t.cV)))))(u:m.Pairwise λx y=>¬aq.cM y x<0):(bU eP m).Pairwise (λx y=>aq.cM x y<0)/\(∀x∈bU eP m,LvD t p x)/\∀x,LvD t p x->∃y∈bU eP m,aq.cM y x=0:=by have ⟨i,j⟩:=aq.J7 u;have mem:∀r,r∈m↔∃f∈bY (j7 t (aV t.cV)),lvF p f/\r=iO (aq.aB f.1):=λr=>by{rw [pm.mem_iff];unfold Rv;rw [ù];constructor;{rintro ⟨f,a,rfl⟩;have ⟨a,e⟩:=ġ.1 a;exact ⟨f,a,(Pu (eK (G2 ht a))).1 e,rfl⟩};{rintro ⟨f,a,e,rfl⟩;exact ⟨f,ġ.2 ⟨a,(Pu (eK (G2 ht a))).2 e⟩,rfl⟩}};refine ⟨i,λx b=>?_,λx b=>?_⟩;{obtain ⟨f,a,e,rfl⟩:=(mem x).1 (vS x b);have ⟨c,g,h⟩:=wC (uO (G2 ht a));exact (Nx ht).2 ⟨f,a,e,c,g,h⟩};{obtain ⟨f,a,e,c,g,rfl⟩:=(Nx ht).1 b;have nz:=uO (G2 ht a);have ⟨d,d0,h⟩:=wC nz;have ⟨y,k,z⟩:=j _ ((mem _).2 ⟨f,a,e,rfl⟩);exact ⟨y,k,aq.sQ z (aq.sQ (sP nz d0 h) (oU (sP nz g rfl)))⟩}
theorem Xf (pm:m.Perm (QN p (bY (j7 t (aV t.cV)))))(u:m.Pairwise λx y=>¬aq.cM y x<0):(bU eP m).Pairwise (λx y=>aq.cM x y<0)/\(∀x∈bU eP m,CmD t p x)/\∀x,CmD t p x->∃y∈bU eP m,aq.cM y x=0:=by have ⟨i,j⟩:=aq.J7 u;have mem:∀r,r∈m↔∃f∈bY (j7 t (aV t.cV)),cmF p f/\r=UJ (iO (aq.aB f.1)):=λr=>by{rw [pm.mem_iff];unfold QN;rw [ù];constructor;{rintro ⟨f,a,rfl⟩;have ⟨a,e⟩:=ġ.1 a;exact ⟨f,a,(O8 (eK (G2 ht a))).1 e,rfl⟩};{rintro ⟨f,a,e,rfl⟩;exact ⟨f,ġ.2 ⟨a,(O8 (eK (G2 ht a))).2 e⟩,rfl⟩}};refine ⟨i,λx b=>?_,λx b=>?_⟩;{obtain ⟨f,a,e,rfl⟩:=(mem x).1 (vS x b);have ⟨c,g,h⟩:=wC (uO (G2 ht a));exact (MZ ht).2 ⟨f,a,e,c,g,by unfold UJ;rw [h]⟩};{obtain ⟨f,a,e,c,g,rfl⟩:=(MZ ht).1 b;have nz:=uO (tw (G2 ht a));rw [oe] at nz;have ⟨d,d0,h⟩:=wC (uO (G2 ht a));have ⟨y,k,z⟩:=j _ ((mem _).2 ⟨f,a,e,rfl⟩);exact ⟨y,k,aq.sQ z (aq.sQ (sP nz d0 (by unfold UJ;rw [h];grind)) (oU (sP nz g χ)))⟩}
end
end
section
section
variable {S:List L3} {t:Tr} (h:zR S t)
include h
theorem TC {p x:Rat×Rat}(u:x∈Rv p (bY (j7 t (aV t.cV)))\/x∈QN p (bY (j7 t (aV t.cV)))):Sz 100000 x.1/\Sz 100000 x.2:=by have one:∀f∈bY (j7 t (aV t.cV)),Sz 100000 (iO (aq.aB f.1)).1/\Sz 100000 (iO (aq.aB f.1)).2:=λf a=>by{have ⟨s1,s2⟩:=vi ((KD λf a=>(h.zw f a).2.1) f a);have ⟨b,c⟩:=Lt s1 s2;exact ⟨b.s ω,c.s ω⟩};rcases u with u|u;{obtain ⟨f,a,rfl⟩:=ù.1 u;exact one f (ġ.1 a).1};{obtain ⟨f,a,rfl⟩:=ù.1 u;have ⟨b,c⟩:=one f (ġ.1 a).1;exact ⟨b.neg,c.neg⟩}
theorem TM {x:Rat×Rat}(u:x∈(bY (j7 t (aV t.cV))).flatMap jd):Sz 100000000 x.1/\Sz 100000000 x.2:=by have ⟨f,a,u⟩:=ċ.1 u;have ⟨s1,s2⟩:=Ct (λf a=>(h.zw f a).2) f a;rcases ú.1 u with u|u;{split at u;{cases u};{rw [õ.1 u];exact ⟨(nt s1 s2.1).s ω,(ny s1 s2.1).s ω⟩}};{split at u;{cases u};{rw [õ.1 u];exact ⟨(nt s1 s2.2).s ω,(ny s1 s2.2).s ω⟩}}
theorem Oa {p}(F:p∈(bY (j7 t (aV t.cV))).flatMap jd){m u}(pm:m.Perm (Rv p (bY (j7 t (aV t.cV)))))(M:m.Pairwise λx y=>¬aq.cM y x<0)(z:u.Perm (QN p (bY (j7 t (aV t.cV)))))(E:u.Pairwise λx y=>¬aq.cM y x<0):(bU eP m).length=(bU eP u).length/\0<(bU eP m).length/\((∀(k:Nat)(x y:Rat×Rat),(bU eP m)[k]?=some x->(bU eP u)[k]?=some y->aq.cM x y<0)/\(∀(k:Nat)(x y:Rat×Rat),(bU eP u)[k]?=some x->(bU eP m)[k+1]?=some y->aq.cM x y<0) \/ (∀(k:Nat)(x y:Rat×Rat),(bU eP u)[k]?=some x->(bU eP m)[k]?=some y->aq.cM x y<0)/\(∀(k:Nat)(x y:Rat×Rat),(bU eP m)[k]?=some x->(bU eP u)[k+1]?=some y->aq.cM x y<0)):=by have ⟨f,d,a⟩:=ċ.1 F;have ⟨i,j,c⟩:=Xg h.oks pm M;obtain ⟨l,b1,b2⟩:=Xf h.oks z E;have ⟨e,g⟩:=balance h.oks i l j c b1 b2;refine ⟨e,?_,g⟩;rcases TL h.oks d a with ⟨x,a⟩|⟨x,a⟩;{obtain ⟨y,b,-⟩:=c x a;exact List.length_pos_of_mem b};{obtain ⟨y,b,-⟩:=b2 x a;rw [e];exact List.length_pos_of_mem b}
end
end
section
variable{V:Ó}
theorem cV_or {a b}(h:¬AZ a b<0)(n:¬(a.1=b.1/\a.2=b.2)):AZ b a<0:=Qv0 λg=>n (by rw [cCV_eq h g];exact ⟨rfl,rfl⟩)
theorem cV_tr {a b c}(h:AZ a b<0)(u:AZ b c<0):AZ a c<0:=by rw [Hj] at *;grind
theorem Tt:∀{r:zA (Rat×Rat)} {p:Rat×Rat},(p::r).Pairwise (λx y=>¬AZ y x<0)->(lC eV p r).Pairwise (λx y=>AZ x y<0)/\(∀x∈lC eV p r,AZ p x<0)/\∀x,x∈p::lC eV p r↔x∈p::r
 | [],p,_=>⟨List.Pairwise.nil,(λx h=>by cases h),λx=>Wv7⟩
 | a::r,p,h=>by
  have ⟨u,z⟩:=Ģ.1 h;have ⟨i1,i2,i3⟩:=Tt z;unfold lC;by_cases e:a=p
  ·subst e;have:eV a a=true:=by simp [eV]
   grind
  ·have n:¬(a.1=p.1/\a.2=p.2):=λg=>e (Ww7 g.1 g.2);have:eV a p=false:=by simpa [eV] using n
   have b:=cV_or (u a ψ) n;grind [List.pairwise_cons.2,cV_tr]
theorem cmpt_v {m}(h:m.Pairwise (λx y=>¬AZ y x<0)):(bU eV m).Pairwise (λx y=>AZ x y<0)/\∀x,x∈bU eV m↔x∈m:=by (cases m with|nil=>exact ⟨List.Pairwise.nil,λx=>Wv7⟩|cons p r=>{have ⟨a,b,c⟩:=Tt h;exact ⟨Ģ.2 ⟨b,a⟩,c⟩})
theorem zZ {v w a b}(h:xE V v a.1 a.2)(y:xE V w b.1 b.2)(s1:Sz 100000000 a.1)(s2:Sz 100000000 a.2)(s3:Sz 100000000 b.1)(s4:Sz 100000000 b.2):À 9 #[v,w] V λr W=>r=Jq (AZ a b):=by have g:=h;have e:=y;obtain ⟨_,_,_,_,_,_,_,_,_,_,_,_,_,_,rfl,-,-⟩:=h;obtain ⟨_,_,_,_,_,_,_,_,_,_,_,_,_,_,rfl,-,-⟩:=y;refine yO V _ λi j=>(lf ra s1 s2).s λr V2 k c=>ja.ex c λ_ _ c _ _=>λl m=>(lf ra s3 s4).s ?_;rintro r n o d;have f:=d;obtain ⟨_,_,_,_,_,_,rfl,-,-⟩:=d;refine qyZ ⟨rfl,λp q=>(JK ra ra s1 s2 s3 s4).s ?_⟩;rintro r s t rfl;exact ⟨_,rfl,λu x=>rfl⟩
theorem gO {v w a b}(h:xE V v a.1 a.2)(y:xE V w b.1 b.2)(s1:Sz 100000 a.1)(s2:Sz 100000 a.2)(s3:Sz 100000 b.1)(s4:Sz 100000 b.2):À 10 #[v,w] V λr W=>r=Jq (aq.cM a b):=by have g:=h;have e:=y;obtain ⟨_,_,_,_,_,_,_,_,_,_,_,_,_,_,rfl,-,-⟩:=h;obtain ⟨_,_,_,_,_,_,_,_,_,_,_,_,_,_,rfl,-,-⟩:=y;refine DQ V _ λi j=>(lf ra s1 s2).s λr V2 k c=>ja.ex c λ_ _ c _ _=>λl m=>(lf ra s3 s4).s ?_;rintro r n o d;have f:=d;obtain ⟨_,_,_,_,_,_,rfl,-,-⟩:=d;refine qyZ ⟨rfl,λp q=>(yZ ra ra s1 s2 s3 s4).s ?_⟩;rintro r s t rfl;exact ⟨_,rfl,λu x=>rfl⟩
def GX:Tr:=.node LL (.leaf true) (.leaf false)
theorem IM:GX.eu my:=⟨⟨LL_ok,Sw⟩,trivial,trivial⟩
theorem Y8:nO LL GX=[bV]/\nO (Ö LL) GX=[]:=by have a:=reg_eq (à ([]++[])) (comb_reg ..) ⟨λs h=>(by cases h),List.Pairwise.nil⟩ λt ht=>by{rw [comb_inB 1 _ _ ht];simp [ģ,ë]};have b:bg LL true GX bV=[bV]:=by{unfold GX;rw [bg,Ä (.inl ⟨rfl,rfl⟩)];rfl};have c:bg LL false GX bV=[]:=by{unfold GX;rw [bg,Ã φ,Ä (.inl rfl)];rfl};have d:bg (Ö LL) true GX bV=[]:=by{unfold GX;rw [bg,Ã φ,Ä (.inr φ)];rfl};have e:bg (Ö LL) false GX bV=[bV]:=by{unfold GX;rw [bg,Ä (.inr ⟨φ,rfl⟩)];rfl};unfold nO;rw [b,c,d,e,a,F0];refine ⟨?_,?_⟩;{refine reg_eq (à ([bV]++[])) (comb_reg ..) ⟨λs h=>by rw [õ.1 h];exact lG,Qf3 _ _⟩ λt ht=>?_;rw [comb_inB 3 _ _ ht];simp [ģ,ë]};{refine reg_eq (à ([]++[bV])) (comb_reg ..) ⟨λs h=>(by cases h),List.Pairwise.nil⟩ λt ht=>?_;rw [comb_inB 3 _ _ ht];simp [ģ,ë]}
theorem Tv {L}(h:Û LL L=0):OP L [] GX:=⟨⟨λg=>Å h g,trivial,trivial⟩,List.Pairwise.nil,ψ,λx h=>by cases h⟩
theorem fr_HP:j7 GX (aV GX.cV)=[(LL,bV)]:=by have e:aV GX.cV=[LL]:=κ;rw [e];unfold j7 uc;rw [Ė,Y8.1,Y8.2];rfl
set_option maxHeartbeats 1000000 in
theorem QC {y z}(hj:G3 [(LL,bV)] [(LL,bV)])(cl:Jr 1)(hy:qL V 0 y)(hz:qL V 1 z):À 11 #[] V λr W=>r=Õ true:=by refine DN V _ λV1 K=>(dG 0 0 ω ω ω).s λr V2 l2 D=>RP.ex D λ_ _ D _ _=>λV3 l3=>(dG 1 0 ω ω ω).s λr V4 l4 E=>RP.ex E λ_ _ E _ _=>λV5 l5=>(Hv ra ra).s ?_;rintro r L l6 ⟨l,rfl,m⟩;obtain ⟨b1,u1,v1,w1,b2,u2,v2,w2,b3,u3,v3,w3,rfl⟩:=Ju m;refine ⟨_,_,_,_,_,_,_,_,_,_,_,_,_,rfl,λV7 M=>(cQ true).s ?_⟩;rintro r N O ⟨pa,rfl,Q⟩;refine ⟨_,rfl,λV9 F=>(cQ false).s ?_⟩;rintro r R u ⟨pb,rfl,S⟩;have g:=M.m (O.m (F.m u));refine ⟨_,rfl,λs v T U e2=>(uM (V:=s.aw [T]) (ln:=LL) (x:=.leaf true) (y:=.leaf false) U (RL.le (V:=L) (V':=s.aw _) m λb o h=>(g.m v) b o h) (RW.le (V:=N) (V':=s.aw _) (λb o h=>(F.m ax) b o h) Q) (RW.le (V:=R) (V':=s.aw _) (λb o h=>v b o h) S) IM φ).s ?_⟩;rintro r W X ⟨Y,a⟩;have j:=a;clear a;obtain ⟨q,n,c,rfl,-⟩:=id j;have k:s.Le W:=λb o h=>X b o h;refine qyW ⟨rfl,_,_,_,_,_,_,_,_,_,_,_,_,_,_,_,_,Y,λkE w=>?_⟩;have t:=((K.m ax).m ax).m w;have Z:G3 (j7 GX (aV GX.cV)) [(LL,bV)]:=by{rw [fr_HP];exact hj};have A:∀l∈aV GX.cV,∃P P',OP l P GX/\OP (Ö l) P' GX:=λl m=>by{rw [õ.1 m];exact ⟨[],[],Tv κ,Tv κ⟩};refine (qR (rD (H_ IM)) (j.le w) (NG (IM.imp λ_ h=>h.1) φ) φ (IM.imp λ_ h=>h.2) φ φ A (λi hi=>ID i) (VD _) cl Z φ (λf hf=>by rw [õ.1 hf];exact ⟨Sw.iS.up ω,Dt _,Dt _⟩) (hy.le t) (hz.le t)).s ?_;rintro r mg hZ ⟨p,n,c,rfl,G⟩;obtain rfl:=G.len;obtain ⟨d,e,xs,⟨c1,c2,c3,c4,c5,c6,c7,c8,c9,d1,d2,d3,d4,d5,d6,d7,d8,d9,d10,d11,d12,d13,d14,d15,d16,d17,ex,gl,-⟩,a⟩:=G.at_ 0 φ;have ex:=Æ Array.toList (Value.agg.inj ex);subst ex;have B:=bj e;have az:d.add 0=d:=by{simp [Addr.add]};have H:af (some d) 6=some (d.add 6):=rfl;refine ⟨p,1,c,.nilIface,rfl,.inl rfl,λ_=>⟨λ_=>⟨B,⟨φ,φ⟩,by rw [e];rfl,_,_,_,_,_,_,_,_,_,_,_,_,d,by rw [e];show some (d.add 0)=_;rw [az],a 0 _ rfl,a 1 _ rfl,a 2 _ rfl,a 3 _ rfl,a 4 _ rfl,a 5 _ rfl,λmz I=>(zg (m.le ((g.m (v.m (k.m (w.m hZ)))).m I)) φ φ φ).s ?_⟩,π⟩,π⟩;rintro r mh fP C;obtain ⟨_,_,_,_,_,_,_,_,_,_,_,_,rfl⟩:=Ju C;refine qxZ ⟨rfl,λmX gX=>(Ev ra ra φ φ φ).s ?_⟩;rintro r nM gy rfl;have J:=I.m (fP.m (gX.m gy));refine ⟨_,rfl,λ_=>⟨B,⟨φ,φ⟩,by rw [e];rfl,by rw [e];rfl,true,⟨d.add 12,by rw [e,H];show some ((d.add 6).add 6)=_;rw [ku],J.at (a 12 _ rfl)⟩,λ_=>⟨B,⟨φ,φ⟩,by rw [e];rfl,by rw [e];rfl,true,⟨d.add 13,by rw [e,H];show some ((d.add 6).add 7)=_;rw [ku],J.at (a 13 _ rfl)⟩,λqh iX=>rfl⟩,π⟩,λh=>by simp at h⟩
structure YP (f:L3×Sp):Prop where
 ok:bX f.1=true
 bd:Bd f.1
 gd:f.2.good
 sz:f.2.sz 100000
theorem FH (l)(h:Nz l):j9 l l=0:=by unfold j9;exact (qO h 0).1
theorem N_ {l}(h:Nz l)(s):qu l s l=[]/\qu l s (Ö l)=[]:=by have a:Û l l=0:=by{unfold Û;grind};have b:Û (Ö l) l=0:=by{unfold Û Ö;simp only [Qh0];grind};have c:j9 (Ö l) l=0:=by{have:=FH l h;unfold j9 at *;rw [val_rev,this];rfl};refine ⟨?_,?_⟩<;>unfold qu cU;{rw [a,FH l h];rfl};{rw [b,c];rfl}
theorem yG (l s m):(qu l s m).length<=1:=by unfold qu;split<;>simp
theorem VA {l m s}(h:YP (l,s))(y:Bd m):∀u∈qu l s m,YP u:=λu hu=>by
 unfold qu at hu;split at hu
 ·rename_i g;rw [õ.1 hu];exact ⟨h.ok,h.bd,lD h.gd g,Bp h.bd.iS y.iS h.sz ω⟩
 ·cases hu
def lQ (m:L3)(fs:List (L3×Sp)):List (L3×Sp):=fs.flatMap λf=>qu f.1 f.2 m
theorem KW {m fs}(h:∀f∈fs,YP f)(y:Bd m):∀u∈lQ m fs,YP u:=λu hu=>by
 have ⟨f,a,b⟩:=ċ.1 hu;grind [VA]
theorem tA (m):∀fs:zA (L3×Sp),(lQ m fs).length<=fs.length
 | []=>Ù _
 | f::fs=>by
  have:=tA m fs;grind [yG,lQ]
theorem NK {f:L3×Sp}{fs:zA (L3×Sp)}(h:Nz f.1):(lQ f.1 (f::fs)).length<=fs.length/\(lQ (Ö f.1) (f::fs)).length<=fs.length:=by have ⟨a,b⟩:=N_ h f.2;refine ⟨?_,?_⟩<;>unfold lQ<;>rw [Ė];{rw [a];exact tA _ fs};{rw [b];exact tA _ fs}
theorem HZ {p n al}(h:bM 14 vA V p n al){i:Nat}(hi:i<al.length):p.isSome=true/\∃(b1:ut)(u:OA)(y c1:Nat)(b2:ut)(z:OA)(E F:Nat)(b3:ut)(M:OA)(N O:Nat)(b:ut)(Z:OA)(m1 e1:Nat)(q2:OA)(m2 e2:Nat)(d:ut)(q3:OA)(m3 e3:Nat)(q4:OA)(m4 e4:Nat)(a:Addr),af p (i*14)=some a/\V.at (a.add 0) (Õ b1)/\V.at (a.add 1) (pT u y c1)/\V.at (a.add 2) (Õ b2)/\V.at (a.add 3) (pT z E F)/\V.at (a.add 4) (Õ b3)/\V.at (a.add 5) (pT M N O)/\V.at (a.add 6) (Õ b)/\V.at (a.add 7) (pT Z m1 e1)/\V.at (a.add 8) (pT q2 m2 e2)/\V.at (a.add 9) (Õ d)/\V.at (a.add 10) (pT q3 m3 e3)/\V.at (a.add 11) (pT q4 m4 e4)/\V.at (a.add 12) (Õ al[i].2.a)/\V.at (a.add 13) (Õ al[i].2.b)/\dh V (dB #[Õ b1,pT u y c1,Õ b2,pT z E F,Õ b3,pT M N O]) al[i].1/\qK V (dB #[Õ b,pT Z m1 e1,pT q2 m2 e2,Õ d,pT q3 m3 e3,pT q4 m4 e4,Õ al[i].2.a,Õ al[i].2.b]) al[i].2:=by have ⟨f,e,xs,l,g,c⟩:=h.at_ i hi;obtain ⟨_,_,_,_,_,_,_,_,_,_,_,_,_,_,_,_,_,_,_,_,_,_,_,_,_,_,ex,j,k⟩:=g;have ex:=Æ Array.toList (Value.agg.inj ex);subst ex;refine ⟨?_,_,_,_,_,_,_,_,_,_,_,_,_,_,_,_,_,_,_,_,_,_,_,_,_,_,_,f,e,c 0 _ rfl,c 1 _ rfl,c 2 _ rfl,c 3 _ rfl,c 4 _ rfl,c 5 _ rfl,c 6 _ rfl,c 7 _ rfl,c 8 _ rfl,c 9 _ rfl,c 10 _ rfl,c 11 _ rfl,c 12 _ rfl,c 13 _ rfl,j,k⟩;(cases p with|none=>{cases e}|some a=>rfl)
theorem Yq {xs:zA um}{x}(h:vA V (.agg xs.toArray) x):∀v∈xs,v.oneCell'=true:=by have ⟨_,_,_,_,_,_,_,_,_,_,_,_,_,_,_,_,_,_,_,_,_,_,_,_,_,_,ex⟩:=Ld h;have ex:=Æ Array.toList (Value.agg.inj ex);subst ex;exact PC
theorem WX {v x y}(h:xE V v x y){k}(s1:Sz k x)(s2:Sz k y)(M:k<=2^38:=by omega):À 170 #[v] V λr W=>RP W r x y:=by obtain ⟨_,_,_,_,_,_,_,_,_,_,_,_,_,_,rfl,d,e⟩:=h;refine Mj V _ λf g=>(Tf ra s1 M).s ?_;rintro r V2 i ⟨j,l,m,n,o,p,rfl,q,a⟩;refine qyK ⟨rfl,λs t=>(Tf ra s2 M).s ?_⟩;rintro r u w ⟨z,A,B,C,D,E,rfl,F,b⟩;exact qyK ⟨rfl,λG c=>⟨_,_,_,_,_,_,_,_,_,_,_,_,rfl,⟨_,_,_,_,_,_,rfl,ra,a.le ax⟩,⟨_,_,_,_,_,_,rfl,ra,b.le c⟩⟩⟩
end
end Go.Proofs.Tryz
