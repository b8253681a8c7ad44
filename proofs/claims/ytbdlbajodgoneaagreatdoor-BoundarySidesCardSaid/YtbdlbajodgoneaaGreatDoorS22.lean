import Derived.Test.YtbdlbajodgoneaaGreatDoorS21
import Derived.Test.YtbdlbajodgoneaaGreatDoorS10
set_option linter.all false
open Go.IntKind (i64 u64 u32)
namespace Go.Proofs.Tryz
open Go.Eng Go.Big
open Go.Value renaming slice→yD,agg→dB,bool→gF,pointer→Õ,tuple→ê,int→Ô
variable{c lb n:Nat}{vs:List Value}{L l m:L3}{v y z:Value}{V:Ó}{p:OA}{s:Sp}
theorem ph {V:ut}{l:zA (L3×Sp)}(hw:V.w.heap[lb]?=some (.cells vs.toArray 109 (0,0)))(E:V.X lb)(h:vH V n vs l){a b k:Nat}(hab:a+k<=b)(M:b+k<=l.length:=by omega):À 311 #[yD (some ⟨lb,0,none⟩) n c,Ô .i64 a,Ô .i64 b,Ô .i64 k,.func (.func 161) #[] #[]] V λr W=>r=ê #[]/\∃F l',W.w.heap[lb]?=some (.cells F.toArray 109 (0,0))/\vH W n F l'/\Wb gJ l l' a b k:=by have kS:=h.kS;have len:=h.len;refine kz lb n c vs a b k V _ hw E ⟨λz V'=>∃(i:Nat)(m:zA (L3×Sp)),z.1=(i:Int)/\i<=k/\vH V' n z.2 m/\Wb gJ l m a b i,λz=>(k-z.1).toNat,⟨(0,vs),σ,0,l,rfl,å _,h,.nil⟩,?_⟩;rintro ⟨z,us⟩ x y ⟨i,m,e,A,f,E⟩;dsimp only at e f;subst e;dsimp only;have B:=E.qK.len;refine ⟨rfl,λd=>?_,λd C D g=>⟨rfl,us,m,g,ra,?_⟩⟩;{have d:(i:Int)<k:=Á d;have o:i64.wrap ((a:Int)+i)=((a+i:Nat):Int):=by{rw [aq ω];omega};have p:i64.wrap ((b:Int)+i)=((b+i:Nat):Int):=by{rw [aq ω];omega};have q:i64.wrap ((i:Int)+1)=((i+1:Nat):Int):=by{rw [aq ω];omega};rw [o,p,q,ß,ß];have ⟨_,_,_,_,_,_,_,_,_,_,_,_,_,_,_,_,_,s,t⟩:=f.get (k:=b+i) ω;have ⟨_,_,_,_,_,_,_,_,_,_,_,_,_,_,_,_,_,u,v⟩:=f.get (k:=a+i) ω;obtain ⟨s1,s2,s3⟩:=f.swap (i:=a+i) (j:=b+i) ω ω v t;exact ⟨Ź,_,_,_,_,_,_,_,_,_,_,_,_,_,_,_,_,_,s,Ź,_,_,_,_,_,_,_,_,_,_,_,_,_,_,_,_,_,u,Ź,s1,Ź,s2,(((i+1:Nat):Int),_),ω,σ,i+1,_,rfl,ω,s3,E.snoc ω ω⟩};have d:¬(i:Int)<k:=Â d;obtain rfl:i=k:=ω;exact E
theorem QP {V:ut}{l:zA (L3×Sp)}(hw:V.w.heap[lb]?=some (.cells vs.toArray 109 (0,0)))(hx:V.X lb)(h:vH V n vs l){a m b:Nat}(ham:a<m)(hmb:m<b)(hb:b<=l.length:=by omega):À 295 #[yD (some ⟨lb,0,none⟩) n c,Ô .i64 a,Ô .i64 m,Ô .i64 b,.func (.func 161) #[] #[]] V λr W=>r=ê #[]/\∃vs' l',W.w.heap[lb]?=some (.cells vs'.toArray 109 (0,0))/\vH W n vs' l'/\Ep gJ l l' a m b:=by
 have kS:=h.kS;have len:=h.len;have L:i64.wrap ((m:Int)-a)=((m-a:Nat):Int):=by rw [aq ω];omega
 have M:i64.wrap ((b:Int)-m)=((b-m:Nat):Int):=by rw [aq ω];omega
 refine mH lb n c vs a m b V _ hw hx ⟨λz V'=>∃(i j:Nat)(g:zA (L3×Sp)),z.1=(i:Int)/\z.2.1=(j:Int)/\0<i/\0<j/\a+i<=m/\m+j<=b/\vH V' n z.2.2 g/\g.length=l.length/\∀l',Ep gJ g l' (m-i) m (m+j)->Ep gJ l l' a m b,λz=>(z.1+z.2.1).toNat,
  ⟨(_,_,vs),σ,m-a,b-m,l,L,M,ω,ω,ω,ω,h,rfl,λl' h=>by rwa [show m-(m-a)=a by omega,show m+(b-m)=b by omega] at h⟩,?_⟩
 rintro ⟨T,U,us⟩ W Y ⟨i,j,g,G,H,N,O,y,A,x,I,B⟩;dsimp only at G H x;subst G H;dsimp only;have P:i64.wrap ((m:Int)-i)=((m-i:Nat):Int):=by rw [aq ω];omega
 have Q:i64.wrap ((m:Int)+j)=((m+j:Nat):Int):=by rw [aq ω];omega
 have R:i64.wrap (((m+j:Nat):Int)-i)=((m+j-i:Nat):Int):=by rw [aq ω];omega
 rw [P,Q,R];refine ⟨rfl,λC=>⟨λf V2 q s t u=>?_,λf V2 q s t u=>?_⟩,λheq V2 q s t u=>?_⟩
 ·have f:(i:Int)>j:=Á f;have D:i64.wrap ((i:Int)-j)=((i-j:Nat):Int):=by rw [aq ω];omega
  refine (ph (V:=V2.ao [s]) t ⟨ψ,u⟩ (x.le λb o h=>q b o h) (a:=m-i) (b:=m) (k:=j) ω).s λr J K ⟨rfl,ws,k,v,p,d⟩=>⟨rfl,ws,v,(((i-j:Nat):Int),(j:Int),ws),ω,by and_intros<;>first|rfl|exact D,i-j,j,k,rfl,rfl,ω,O,ω,A,p.le λb o h=>h,d.qK.len.m I,λl' h=>B l' (rot_gt ω ω d h)⟩
 ·have f:¬(i:Int)>j:=Â f;have E:i≠j:=λe=>by subst e;simp at C
  have D:i64.wrap ((j:Int)-i)=((j-i:Nat):Int):=by rw [aq ω];omega
  refine (ph (V:=V2.ao [s]) t ⟨ψ,u⟩ (x.le λb o h=>q b o h) (a:=m-i) (b:=m+j-i) (k:=i) ω).s λr J K ⟨rfl,ws,k,v,p,d⟩=>⟨rfl,ws,v,((i:Int),((j-i:Nat):Int),ws),ω,by and_intros<;>first|rfl|exact D,i,j-i,k,rfl,rfl,N,ω,y,ω,p.le λb o h=>h,d.qK.len.m I,λl' h=>B l' (rot_lt ω ω d h)⟩
 ·have E:(i:Int)=j:=by{simpa using heq};obtain rfl:i=j:=ω;refine (ph (V:=V2.ao [s]) t ⟨ψ,u⟩ (x.le λb o h=>q b o h) (a:=m-i) (b:=m) (k:=i) ω).s λr J K ⟨rfl,ws,k,v,p,d⟩=>⟨rfl,ws,v,λZ S F=>⟨rfl,ws,k,F,p.le λb o h=>S b o h,B k (rot_eq ω d)⟩⟩
theorem H0 {x y:Nat}(h:x+y<2^62:=by omega):i64.wrap ((u64.wrap (i64.wrap ((x:Int)+y))).fdiv (2^1))=(((x+y)/2:Nat):Int):=by have e:(x:Int)+y=((x+y:Nat):Int):=ω;rw [e,aq (x:=((x+y:Nat):Int)) ω,bw ω,j7,aq ω]
set_option maxHeartbeats 4000000 in
theorem mO:∀(N:Nat) {V:ut} {lb n c:Nat} {vs:zA un} {l:zA (L3×Sp)},V.w.heap[lb]?=some (.cells vs.toArray 109 (0,0))->V.X lb->vH V n vs l->∀{a m b:Nat},b<=a+N->a<m->m<b->b<=l.length->p_ uG gJ l a m->p_ uG gJ l m b ->À 273 #[yD (some ⟨lb,0,none⟩) n c,Ô .i64 a,Ô .i64 m,Ô .i64 b,.func (.func 161) #[] #[]] V λr W=>r=ê #[]/\MP lb n l a b W λl'=>p_ uG gJ l' a b
 | 0,_,_,_,_,_,_,_,_,_,a,m,b,h1,h2,h3,_,_,_=>ω
 | N+1,V,lb,n,c,vs,l,hw,hx,h,a,m,b,hN,ham,hmb,hb,ua,ub=>by
  have kS:=h.kS;have len:=h.len;have f:=UQ;have a5:i64.wrap ((m:Int)-a)=((m-a:Nat):Int):=by rw [aq ω];omega
  have a6:i64.wrap ((b:Int)-m)=((b-m:Nat):Int):=by rw [aq ω];omega
  have Q:i64.wrap ((u64.wrap (i64.wrap ((a:Int)+b))).fdiv (2^1))=(((a+b)/2:Nat):Int):=H0;have hM:a<(a+b)/2/\(a+b)/2<b/\a+b<2*((a+b)/2)+2/\2*((a+b)/2)<a+b+1:=ω
  generalize (a+b)/2=mid at *;have wn:i64.wrap ((mid:Int)+m)=((mid+m:Nat):Int):=by rw [aq ω];omega
  have wp:i64.wrap (((mid+m:Nat):Int)-1)=((mid+m-1:Nat):Int):=by rw [aq ω];omega
  refine ld lb n c vs a m b V _ hw hx ?_;rw [a5,a6,Q,wn,wp];refine ⟨λc1=>?_,λc1=>⟨λc2=>?_,λc2=>⟨φ,?_⟩⟩⟩
  ·
   obtain rfl:m=a+1:=by have:=Ê c1;omega
   refine ⟨λz V'=>∃i j:Nat,z.1=(i:Int)/\z.2=(j:Int)/\a+1<=i/\i<=j/\j<=b/\(∀y,a+1<=y->y<i->uG (l.getD y gJ) (l.getD a gJ)<0)/\∀y,j<=y->y<b->¬uG (l.getD y gJ) (l.getD a gJ)<0,λz=>(z.2-z.1).toNat,
    ⟨(_,_),σ,a+1,b,rfl,rfl,Ú _,ω,Ú _,λy h1 h2=>ω,λy h1 h2=>ω⟩,?_⟩
   rintro ⟨R,z2⟩ V1 l1 ⟨i,j,u,F,H,S,I,J,v⟩;dsimp only at u F;subst u F;dsimp only;refine ⟨rfl,λd=>⟨φ,?_⟩,λd=>?_⟩
   ·have d:(i:Int)<j:=Á d;rw [H0];have hH:i<=(i+j)/2/\(i+j)/2<j:=ω
    generalize (i+j)/2=k at *;have T:i64.wrap ((k:Int)+1)=((k+1:Nat):Int):=by rw [aq ω];omega
    rw [T,ß,ß];have ⟨_,_,_,_,_,_,_,_,_,_,_,_,_,_,_,_,_,A,M⟩:=h.get (k:=k) ω;have ⟨_,_,_,_,_,_,_,_,_,_,_,_,_,_,_,_,_,t,O⟩:=h.get (k:=a) ω;refine ⟨Ź,_,_,_,_,_,_,_,_,_,_,_,_,_,_,_,_,_,A,Ź,_,_,_,_,_,_,_,_,_,_,_,_,_,_,_,_,_,t,λV2 l2=>(oS ra ra).s ?_⟩;rintro r V3 l3 rfl;refine ⟨_,rfl,λp=>⟨(((k+1:Nat):Int),(j:Int)),ω,σ,k+1,j,rfl,rfl,ω,ω,I,λy h1 h2=>?_,v⟩,λp=>⟨((i:Int),(k:Int)),ω,σ,i,k,rfl,rfl,H,ω,ω,J,λy h1 h2=>?_⟩⟩
    ·have p:=Á p;exact Qj5 λg=>f.tr _ _ _ (ub.le f h1 (show y<=k by omega) ω) g p
    ·exact f.tr _ _ _ (ub.le f ω h1 h2) (Â p)
   ·have d:¬(i:Int)<j:=Â d;obtain rfl:i=j:=ω
    have w4:i64.wrap ((i:Int)-1)=((i-1:Nat):Int):=by rw [aq ω];omega
    rw [w4];refine ⟨λz V'=>∃(k:Nat)(g:zA (L3×Sp)),z.1=(k:Int)/\a<=k/\k+1<=i/\vH V' n z.2 g/\Ep gJ l g a (a+1) (k+1),λz=>(i-z.1).toNat,⟨((a:Int),vs),σ,a,l,rfl,Ú _,H,ra,.nil2⟩,?_⟩;rintro ⟨R,us⟩ V4 l4 ⟨k,g,u,a7,b1,E,C⟩;dsimp only at u E;subst u;dsimp only;have gl:=C.qK.len;refine ⟨rfl,λd=>?_,λd V5 l5 P=>⟨rfl,us,g,P,ra,C.qK.wide (Ú _) ω,?_⟩⟩
    ·have d:(k:Int)<((i-1:Nat):Int):=Á d;have U:i64.wrap ((k:Int)+1)=((k+1:Nat):Int):=by rw [aq ω];omega
     rw [U,ß,ß];have ⟨_,_,_,_,_,_,_,_,_,_,_,_,_,_,_,_,_,A,M⟩:=E.get (k:=k+1) ω;have ⟨_,_,_,_,_,_,_,_,_,_,_,_,_,_,_,_,_,t,O⟩:=E.get (k:=k) ω;obtain ⟨s1,s2,s3⟩:=E.swap (i:=k) (j:=k+1) ω ω O M;exact ⟨Ź,_,_,_,_,_,_,_,_,_,_,_,_,_,_,_,_,_,A,Ź,_,_,_,_,_,_,_,_,_,_,_,_,_,_,_,_,_,t,Ź,s1,Ź,s2,(((k+1:Nat):Int),_),ω,σ,k+1,_,rfl,ω,ω,s3,rot_up C a7⟩
    ·have d:¬(k:Int)<((i-1:Nat):Int):=Â d;obtain rfl:i=k+1:=ω
     exact asc_up H I C ub J v f
  ·
   obtain rfl:b=m+1:=by have:=Ê c2;omega
   refine ⟨λz V'=>∃i j:Nat,z.1=(i:Int)/\z.2=(j:Int)/\a<=i/\i<=j/\j<=m/\(∀x,a<=x->x<i->¬uG (l.getD m gJ) (l.getD x gJ)<0)/\∀x,j<=x->x<m->uG (l.getD m gJ) (l.getD x gJ)<0,λz=>(z.2-z.1).toNat,
    ⟨(_,_),σ,a,m,rfl,rfl,Ú _,ω,Ú _,λy h1 h2=>ω,λy h1 h2=>ω⟩,?_⟩
   rintro ⟨R,z2⟩ V1 l1 ⟨i,j,u,F,H,S,I,J,v⟩;dsimp only at u F;subst u F;dsimp only;refine ⟨rfl,λd=>⟨φ,?_⟩,λd=>?_⟩
   ·have d:(i:Int)<j:=Á d;rw [H0];have hH:i<=(i+j)/2/\(i+j)/2<j:=ω
    generalize (i+j)/2=k at *;have T:i64.wrap ((k:Int)+1)=((k+1:Nat):Int):=by rw [aq ω];omega
    rw [T,ß,ß];have ⟨_,_,_,_,_,_,_,_,_,_,_,_,_,_,_,_,_,A,M⟩:=h.get (k:=m) ω;have ⟨_,_,_,_,_,_,_,_,_,_,_,_,_,_,_,_,_,t,O⟩:=h.get (k:=k) ω;refine ⟨Ź,_,_,_,_,_,_,_,_,_,_,_,_,_,_,_,_,_,A,Ź,_,_,_,_,_,_,_,_,_,_,_,_,_,_,_,_,_,t,λV2 l2=>(oS ra ra).s ?_⟩;rintro r V3 l3 rfl;refine ⟨_,rfl,λp=>⟨(((k+1:Nat):Int),(j:Int)),ω,σ,k+1,j,rfl,rfl,ω,ω,I,λx h1 h2=>?_,v⟩,λp=>⟨((i:Int),(k:Int)),ω,σ,i,k,rfl,rfl,H,ω,ω,J,λx h1 h2=>?_⟩⟩
    ·have p:¬uG (l.getD m gJ) (l.getD k gJ)<0:=Â (by simpa using p);exact f.tr _ _ _ p (ua.le f h1 (show x<=k by omega) ω)
    ·have p:uG (l.getD m gJ) (l.getD k gJ)<0:=Á (by simpa using p);exact Qj5 λg=>f.tr _ _ _ g (ua.le f ω h1 h2) p
   ·have d:¬(i:Int)<j:=Â d;obtain rfl:i=j:=ω
    refine ⟨λz V'=>∃(k:Nat)(g:zA (L3×Sp)),z.1=(k:Int)/\i<=k/\k<=m/\vH V' n z.2 g/\Ep gJ l g k m (m+1),λz=>z.1.toNat,⟨((m:Int),vs),σ,m,l,rfl,I,Ú _,h.le l1,.nil1⟩,?_⟩;rintro ⟨R,us⟩ V4 l4 ⟨k,g,u,b2,a8,E,C⟩;dsimp only at u E;subst u;dsimp only;have gl:=C.qK.len;refine ⟨rfl,λd=>?_,λd V5 l5 P=>⟨rfl,us,g,P,ra,C.qK.wide ω (Ú _),?_⟩⟩
    ·have d:(k:Int)>(i:Int):=Á d;have U:i64.wrap ((k:Int)-1)=((k-1:Nat):Int):=by rw [aq ω];omega
     rw [U,ß,ß];have ⟨_,_,_,_,_,_,_,_,_,_,_,_,_,_,_,_,_,A,M⟩:=E.get (k:=k-1) ω;have ⟨_,_,_,_,_,_,_,_,_,_,_,_,_,_,_,_,_,t,O⟩:=E.get (k:=k) ω;obtain ⟨s1,s2,s3⟩:=E.swap (i:=k) (j:=k-1) ω ω O M;exact ⟨Ź,_,_,_,_,_,_,_,_,_,_,_,_,_,_,_,_,_,A,Ź,_,_,_,_,_,_,_,_,_,_,_,_,_,_,_,_,_,t,Ź,s1,Ź,s2,(((k-1:Nat):Int),_),ω,σ,k-1,_,rfl,ω,ω,s3,Vf C ω a8⟩
    ·have d:¬(k:Int)>(i:Int):=Â d;obtain rfl:i=k:=ω
     exact SN H I C ua v J f
  refine ⟨λz V'=>∃s r:Nat,z.1=(s:Int)/\z.2=(r:Int)/\a<=s/\s<=r/\r<=m/\r<=mid/\mid+m<=s+b/\(s=a\/s+b=mid+m)/\(r=m\/r=mid),⟨λB=>⟨(((mid+m-b:Nat):Int),(mid:Int)),?_,mid+m-b,mid,rfl,rfl,?_⟩,λB=>⟨((a:Int),(m:Int)),σ,a,m,rfl,rfl,?_⟩⟩,?_⟩
  ·have B:(m:Int)>mid:=Á B;have w:i64.wrap (((mid+m:Nat):Int)-b)=((mid+m-b:Nat):Int):=by rw [aq ω];omega
   and_intros<;>first|rfl|exact w
  ·have B:(m:Int)>mid:=Á B;omega
  ·have B:¬(m:Int)>mid:=Â B;omega
  rintro ⟨R,z2⟩ eW cU ⟨s0,r0,u,F,b3,a9,b4,rd0,b5,sa,ra⟩;dsimp only at u F;subst u F;dsimp only
  refine ⟨rfl,λz V'=>∃i j:Nat,z.1=(i:Int)/\z.2=(j:Int)/\s0<=i/\i<=j/\j<=r0/\(∀x,s0<=x->x<i->¬uG (l.getD (mid+m-1-x) gJ) (l.getD x gJ)<0)/\∀x,j<=x->x<r0->uG (l.getD (mid+m-1-x) gJ) (l.getD x gJ)<0,λz=>(z.2-z.1).toNat,
   ⟨(_,_),σ,s0,r0,rfl,rfl,Ú _,a9,Ú _,λy h1 h2=>ω,λy h1 h2=>ω⟩,?_⟩
  rintro ⟨R,z2⟩ gC dI ⟨i,j,u,F,H,S,I,J,v⟩;dsimp only at u F;subst u F;dsimp only;have XJ:=cU.m dI;refine ⟨rfl,λd=>⟨φ,?_⟩,λd=>?_⟩
  ·have d:(i:Int)<j:=Á d;rw [H0];have hH:i<=(i+j)/2/\(i+j)/2<j:=ω
   generalize (i+j)/2=k at *;have T:i64.wrap ((k:Int)+1)=((k+1:Nat):Int):=by rw [aq ω];omega
   have w4:i64.wrap (((mid+m-1:Nat):Int)-k)=((mid+m-1-k:Nat):Int):=by rw [aq ω];omega
   rw [T,w4,ß,ß];have ⟨_,_,_,_,_,_,_,_,_,_,_,_,_,_,_,_,_,A,M⟩:=h.get (k:=mid+m-1-k) ω;have ⟨_,_,_,_,_,_,_,_,_,_,_,_,_,_,_,_,_,t,O⟩:=h.get (k:=k) ω;refine ⟨Ź,_,_,_,_,_,_,_,_,_,_,_,_,_,_,_,_,_,A,Ź,_,_,_,_,_,_,_,_,_,_,_,_,_,_,_,_,_,t,λiI dS=>(oS (M.le au) (O.le au)).s ?_⟩;rintro r kK fH rfl;refine ⟨_,rfl,λp=>⟨(((k+1:Nat):Int),(j:Int)),ω,σ,k+1,j,rfl,rfl,ω,ω,I,λx h1 h2=>?_,v⟩,λp=>⟨((i:Int),(k:Int)),ω,σ,i,k,rfl,rfl,H,ω,ω,J,λx h1 h2=>?_⟩⟩
   ·have p:¬uG (l.getD (mid+m-1-k) gJ) (l.getD k gJ)<0:=Â (by simpa using p);exact f.tr _ _ _ (ub.le f ω (show mid+m-1-k<=mid+m-1-x by omega) ω) (f.tr _ _ _ p (ua.le f ω (show x<=k by omega) ω))
   ·have p:uG (l.getD (mid+m-1-k) gJ) (l.getD k gJ)<0:=Á (by simpa using p);exact Qj5 λg=>f.tr _ _ _ (ub.le f ω (show mid+m-1-x<=mid+m-1-k by omega) ω) (f.tr _ _ _ g (ua.le f ω h1 ω)) p
  have d:¬(i:Int)<j:=Â d;obtain rfl:i=j:=ω
  have U:i64.wrap (((mid+m:Nat):Int)-i)=((mid+m-i:Nat):Int):=by rw [aq ω];omega
  rw [U];obtain ⟨e,he⟩:∃e,e=mid+m-i:=⟨_,rfl⟩;rw [<-he]
  have hA:∀x y,a<=x->x<i->e<=y->y<b->¬uG (l.getD y gJ) (l.getD x gJ)<0:=λx y h1 h2 h3 h4=>by
   have q:=J (i-1) ω ω;rw [show mid+m-1-(i-1)=e by omega] at q;exact f.tr _ _ _ (ub.le f ω h3 h4) (f.tr _ _ _ q (ua.le f h1 (show x<=i-1 by omega) ω))
  have hB:∀x y,i<=x->x<m->m<=y->y<e->¬uG (l.getD x gJ) (l.getD y gJ)<0:=λx y h1 h2 h3 h4=>by
   have q:=f.asy _ _ (v i (Ú _) ω);rw [show mid+m-1-i=e-1 by omega] at q;exact f.tr _ _ _ (ua.le f ω h1 h2) (f.tr _ _ _ q (ub.le f h3 (show y<=e-1 by omega) ω))
  refine ⟨λz V'=>z=decide (i<m/\m<e),⟨λg=>⟨_,σ,?_⟩,λg=>⟨_,σ,?_⟩⟩,?_⟩
  ·have g:(i:Int)<m:=Á g;exact É.2 ⟨λh=>Ź,λh=>ω⟩
  ·have g:¬(i:Int)<m:=Â g;exact (È λh=>ω).symm
  rintro z ke fB rfl;have K:=XJ.m fB;refine ⟨rfl,λus V'=>∃g,vH V' n us g/\Ep gJ l g i m e,⟨λg kf e_ W Y h3=>?_,λg=>⟨_,σ,l,h.le K,?_⟩⟩,?_⟩
  ·have g:=Á g;refine (QP (V:=kf.ao [W]) Y ⟨ψ,h3⟩ (h.le λb o h=>e_ b o (K b o h)) g.1 g.2).s λr lu gX ⟨rfl,ws,k,Z,G,b0⟩=>⟨rfl,ws,Z,ws,σ,k,G.le λb o h=>h,b0⟩
  ·have g:=Â g;rcases ę i m with A|A
   ·obtain rfl:m=e:=ω
    exact .nil2
   ·obtain rfl:i=m:=ω
    exact .nil1
  rintro us mD gj ⟨g,E,C⟩;have gl:=C.qK.len;have ⟨t1,t2,t3,t4,t5⟩:=Hu (a:=a) (b:=b) ω ω ω ω C ua ub hA hB;refine ⟨rfl,λz V'=>z=decide (a<i/\i<mid),⟨λg=>⟨_,σ,?_⟩,λg=>⟨_,σ,?_⟩⟩,?_⟩
  ·have g:(a:Int)<i:=Á g;exact É.2 ⟨λh=>Ź,λh=>ω⟩
  ·have g:¬(a:Int)<i:=Â g;exact (È λh=>ω).symm
  rintro z nf je rfl;refine ⟨rfl,λws V'=>∃t,vH V' n ws t/\uC gJ g t a mid/\p_ uG gJ t a mid,⟨λq kg il W Y h3=>?_,λq=>⟨_,σ,g,E.le je,.refl _ _ _,?_⟩⟩,?_⟩
  ·have q:=Á q;refine (mO N (V:=kg.ao [W]) Y ⟨ψ,h3⟩ (E.le λb o h=>il b o (je b o h)) ω q.1 q.2 ω t2 λx y h1 h2 h3=>t3 x y h1 h2 ω).s λr qC nQ ⟨rfl,ws,k,Z,G,sg,asc⟩=>⟨rfl,ws,Z,ws,σ,k,G.le λb o h=>h,sg,asc⟩
  ·have q:=Â q;rcases ę a i with A|A
   ·obtain rfl:i=mid:=ω
    exact t2
   ·obtain rfl:a=i:=ω
    exact λx y h1 h2 h3=>t3 x y h1 h2 ω
  rintro ws qN lZ ⟨t,a0,D,L⟩;have b6:=D.len;refine ⟨rfl,λz V'=>z=decide (mid<e/\e<b),⟨λg=>⟨_,σ,?_⟩,λg=>⟨_,σ,?_⟩⟩,?_⟩
  ·have g:(mid:Int)<e:=Á g;exact É.2 ⟨λh=>Ź,λh=>ω⟩
  ·have g:¬(mid:Int)<e:=Â g;exact (È λh=>ω).symm
  have a1:p_ uG gJ t mid e:=p_.qK (λx y h1 h2 h3=>t4 x y ω h2 h3) D (.inr (Ú _));have a2:p_ uG gJ t e b:=t5.qK D (.inr ω);have cr:∀x y,a<=x->x<mid->mid<=y->y<b->¬uG (g.getD y gJ) (g.getD x gJ)<0:=λx y h1 h2 h3 h4=>t1 x y h1 ω ω h4;have sl:uC gJ l t a b:=(C.qK.wide ω ω).m (D.wide (Ú _) ω);rintro z qD l_ rfl;refine ⟨rfl,λq Aa nt W Y h3=>?_,λq Aa nt a3=>⟨rfl,ws,t,a3,a0.le au,sl,?_⟩⟩
  ·have q:=Á q;refine (mO N (V:=Aa.ao [W]) Y ⟨ψ,h3⟩ (a0.le λb o h=>nt b o (l_ b o h)) ω q.1 q.2 ω a1 a2).s λr A8 uV ⟨rfl,xs,k,Z,G,sg,asc⟩=>⟨rfl,xs,Z,λMD Bj a4=>⟨rfl,xs,k,a4,G.le λb o h=>Bj b o h,sl.m (sg.wide ω (Ú _)),O3 cr D L sg asc⟩⟩
  ·have q:=Â q;refine O3 cr D L (.refl _ _ _) ?_;rcases ę mid e with A|A
   ·obtain rfl:e=b:=ω
    exact a1
   ·obtain rfl:mid=e:=ω
    exact a2
set_option maxHeartbeats 1000000 in
theorem QQ {V:ut}{l:zA (L3×Sp)}(hw:V.w.heap[lb]?=some (.cells vs.toArray 109 (0,0)))(hx:V.X lb)(h:vH V n vs l):À 217 #[yD (some ⟨lb,0,none⟩) n c,Ô .i64 n,.func (.func 161) #[] #[]] V λr W=>r=ê #[]/\MP lb n l 0 n W λl'=>p_ uG gJ l' 0 n:=by
 have len:=h.len;have kS:=h.kS;refine mI lb n c vs n V _ hw hx ⟨λz V'=>∃(q:Nat)(g:zA (L3×Sp)),z.1=((q*20:Nat):Int)/\z.2.1=((q*20+20:Nat):Int)/\q*20<=n/\vH V' n z.2.2 g/\uC gJ l g 0 n/\VX uG gJ g 20 q,λz=>n-z.1.toNat,⟨(0,20,vs),σ,0,l,rfl,rfl,å _,h,.refl _ _ _,λp D=>ω⟩,?_⟩;rintro ⟨z1,z2,us⟩ V1 l1 ⟨q,g,H,I,Y,Z,J,fr⟩;subst H I;dsimp only;have gl:=J.len;refine ⟨rfl,λd V2 K t L M=>?_,λd V2 K t L M=>?_⟩
 ·have d:=Á d;have w:i64.wrap (((q*20+20:Nat):Int)+20)=(((q+1)*20+20:Nat):Int):=by{rw [aq ω];omega};refine (nX (V:=V2.ao [t]) L ⟨ψ,M⟩ (Z.le λb o h=>K b o h) (a:=q*20) (b:=q*20+20) ω).s λr V3 l3 ⟨rfl,ws,k,N,u,f,asc⟩=>⟨rfl,ws,N,(((q*20+20:Nat):Int),_,ws),ω,σ,q+1,k,ω,w,ω,u.le λb o h=>h,J.m (f.wide ω ω),fr.snoc f asc⟩
 have d:=Â d;refine (nX (V:=V2.ao [t]) L ⟨ψ,M⟩ (Z.le λb o h=>K b o h) (a:=q*20) (b:=n) Y).s ?_;rintro r V3 l3 ⟨rfl,ws,k,N,u,f,asc⟩;refine ⟨rfl,ws,N,λz V'=>∃(B:Nat)(g:zA (L3×Sp)),z.1=(B:Int)/\0<B/\B<=20000/\vH V' n z.2 g/\uC gJ l g 0 n/\Blk uG gJ g B n,λz=>n-z.1.toNat,⟨(20,ws),σ,20,k,rfl,ω,ω,u.le λb o h=>h,J.m (f.wide ω ω),fr.aX f asc ω⟩,?_⟩;rintro ⟨z,xs⟩ V6 l6 ⟨B,g2,e,B0,Bn,O,E,s⟩;subst e;refine ⟨rfl,λd=>?_,λd gC dI XA=>⟨rfl,xs,g2,XA,ra,E,?_⟩⟩;rotate_left
 ·have d:=Â d;have:=s 0;grind
 have d:=Á d;have w1:i64.wrap (2*(B:Int))=((2*B:Nat):Int):=by rw [aq ω];omega
 have w2:i64.wrap ((B:Int)*2)=((2*B:Nat):Int):=by rw [aq ω];omega
 rw [w1,w2]
 refine ⟨λz V'=>∃(q:Nat)(g:zA (L3×Sp)),z.1=((q*(2*B):Nat):Int)/\z.2.1=((q*(2*B)+2*B:Nat):Int)/\q*(2*B)<=n/\vH V' n z.2.2 g/\uC gJ l g 0 n/\VX uG gJ g (2*B) q/\∀p,2*q<=p->p_ uG gJ g (p*B) (min ((p+1)*B) n),λz=>n-z.1.toNat,
  ⟨(0,((2*B:Nat):Int),xs),σ,0,g2,by rw [ť];rfl,by rw [ť,č],ω,O,E,λp D=>ω,λp _=>s p⟩,?_⟩
 rintro ⟨z1,z2,ys⟩ V7 l7 ⟨q,g3,H,I,Y,v,i,x,rest⟩;subst H I;dsimp only;have a0:=i.len;have G:=rest (2*q) (Ú _);have P:=rest (2*q+1) ω
 have Q:∀p,2*(q+1)<=p->q*(2*B)+2*B<=p*B:=λp D=>by have:=ć B D;grind
 have q1:(q+1)*(2*B)=q*(2*B)+2*B:=χ
 rw [show 2*q*B=q*(2*B) by grind,show (2*q+1)*B=q*(2*B)+B by grind] at G;rw [show (2*q+1)*B=q*(2*B)+B by grind,show (2*q+1+1)*B=q*(2*B)+2*B by grind] at P;generalize hA:q*(2*B)=A at *;have w3:i64.wrap ((A:Int)+B)=((A+B:Nat):Int):=by rw [aq ω];omega
 rw [w3];refine ⟨rfl,λy R S t T U=>?_,λy=>⟨λhm R S t T U=>?_,λhm=>?_⟩⟩
 ·have y:=Á y;have w4:i64.wrap (((A+2*B:Nat):Int)+((2*B:Nat):Int))=((A+2*B+2*B:Nat):Int):=by rw [aq ω];omega
  refine (mO (2*B) (V:=R.ao [t]) T ⟨ψ,U⟩ (v.le λb o h=>S b o h) (a:=A) (m:=A+B) (b:=A+2*B) ω ω ω ω (G.sub (Ú _) ω) (P.sub (Ú _) ω)).s λr V9 l9 ⟨rfl,us,k,W,C,j,F⟩=>⟨rfl,us,W,(((A+2*B:Nat):Int),((A+2*B+2*B:Nat):Int),us),ω,by and_intros<;>first|rfl|exact w4,q+1,k,by rw [q1],by rw [q1],ω,C.le λb o h=>h,i.m (j.wide ω ω),?_,λp D=>(rest p ω).qK j (.inr (Q p D))⟩<;>grind [x.snoc]
 ·have y:=Â y;have hm:=Á hm;refine (mO (2*B) (V:=R.ao [t]) T ⟨ψ,U⟩ (v.le λb o h=>S b o h) (a:=A) (m:=A+B) (b:=n) ω ω ω ω (G.sub (Ú _) ω) (P.sub (Ú _) ω)).s λr V9 l9 ⟨rfl,us,k,W,C,j,F⟩=>⟨rfl,us,W,(((2*B:Nat):Int),us),ω,σ,2*B,k,rfl,ω,ω,C.le λb o h=>h,i.m (j.wide ω ω),?_⟩<;>grind [x.aX]
 ·have y:=Â y;have hm:=Â hm;refine ⟨(((2*B:Nat):Int),ys),ω,σ,2*B,g3,rfl,ω,ω,v,i,?_⟩;subst hA;exact x.aX (.refl _ _ _) (G.sub (Ú _) ω) ω
theorem Ey {V:ut}{lb n c:Nat}{vs:zA un}{l:zA (L3×Sp)}(hw:V.w.heap[lb]?=some (.cells vs.toArray 109 (0,0)))(E:V.X lb)(h:vH V n vs l):À 160 #[yD (some ⟨lb,0,none⟩) n c,.func (.func 161) #[] #[]] V λr W=>r=ê #[]/\∃D l',W.w.heap[lb]?=some (.cells D.toArray 109 (0,0))/\vH W n D l'/\l'.Perm l/\l'.Pairwise λx y=>¬iQ y.1 x.1<0:=by have len:=h.len;refine mC lb n c vs V _ hw E λf g k p q=>(QQ (V:=f.ao [k]) p ⟨ψ,q⟩ (h.le λb o h=>g b o h)).s λr V2 A ⟨rfl,ws,m,s,t,e,asc⟩=>⟨rfl,ws,s,λB u a=>⟨rfl,ws,m,a,t.le λb o h=>u b o h,e.perm,?_⟩⟩;have sl:=e.len;refine Qv6.2 λi j v z d=>?_;have:=asc i j ω d ω;rw [ě,ě,ô v,ô z] at this;exact this
theorem vQ:À 160 #[yD none 0 0,.func (.func 161) #[] #[]] V λr W=>r=ê #[]:=by refine jG V _ λb f=>?_;have st:À 217 #[yD none 0 0,Ô .i64 0,.func (.func 161) #[] #[]] b λr W=>r=ê #[]:=by{refine j_ 0 b _ ⟨λz _=>z=(0,20),λ_=>0,⟨(0,20),σ,rfl⟩,?_⟩;rintro z V2 g rfl;refine ⟨rfl,λa=>Å (Á a) φ,λ_ c i=>?_⟩;have ins:À 272 #[yD none 0 0,Ô .i64 0,Ô .i64 0,.func (.func 161) #[] #[]] c λr W=>r=ê #[]:=by{(refine gW 0 0 c _ ⟨λz _=>z=1,λ_=>0,⟨1,by and_intros<;>first|rfl|exact aq ω,rfl⟩,?_⟩;rintro z d e rfl;exact ⟨rfl,λh=>Å (Á h) ω,λ_ j k=>rfl⟩)};refine ins.s ?_;rintro r d e rfl;refine ⟨rfl,λz _=>z=20,λ_=>0,⟨20,σ,rfl⟩,?_⟩<;>grind};grind
theorem S_ {fs:zA (L3×Sp)}(h:aZ 17 qB V p n fs)(O:fs.length<=1000000)(N:fs=[]->p=none):À 159 #[yD p n c] V λr V'=>∃(M:Nat)(vs:zA un),(vs≠[]->V'.w.heap[M]?=some (.cells vs.toArray 109 (0,0)))/\(vs≠[]->V.w.heap.size<=M)/\∃e,r=yD (mA M e) fs.length e/\fs.length<=e/\(vs=[]↔e=0)/\(vs≠[]↔fs≠[])/\é 17 qB (V'.bq (vs≠[]) M) vs fs/\V.Le (V'.bq (vs≠[]) M):=by obtain rfl:=h.len;refine xJ p _ c V _ ⟨λg C q=>?_,λg=>?_⟩;{have s:p=none:=by{simpa using g};have e:fs=[]:=by{rcases fs with-| ⟨x,r⟩;{rfl};obtain ⟨D,e,-⟩:=h.at_ 0 (Wq6 _);rw [s] at e;cases e};subst e;exact ⟨0,[],λh=>Å rfl h,λh=>Å rfl h,0,rfl,Ú _,⟨λ_=>rfl,λ_=>rfl⟩,⟨λh=>Å rfl h,λh=>Å rfl h⟩,é.nil,Rk q λh=>h rfl⟩};have b:fs≠[]:=λe=>by{rw [N e] at g;cases g};have i:=Qh6.2 b;have ⟨xs,t,j,k⟩:=cQ h φ;refine ⟨xs,t,j,ω,Ú _,Ú _,j,λv u=>?_,λE J sp y l F V2 d z A B=>?_⟩;{obtain ⟨m,hm,rfl⟩:=Qb8.1 u;exact fy k φ (λxs a g=>Lr g) (m:=m) ω (ô hm)};rw [č] at l ⊢;have o:V.Le (V2.bq ((([]:zA un).take (0*17)++xs++sp)≠[]) d):=Nx z;have f:(([]:zA un).take (0*17)++xs++sp)≠[]:=λe=>χ;exact ⟨d,_,λ_=>A,λ_=>B.elim id False.elim,y,by rw [mA,Ã ω],l,⟨λe=>Å e f,λe=>ω⟩,⟨λ_=>b,λ_=>f⟩,(eM (vs:=[]) (sp:=sp) é.nil k φ).le λ_ _ g=>z_.le g o,o⟩
def ñ (l m:L3):List Sp:=if Ý l m=0 then (if 0<aG m (cu l 0) (cw l 0) then [æ] else []) else if 0<Û m l then [⟨Ø m l,0,false,true⟩] else [⟨0,Ø m l,true,false⟩]
theorem yC (l m:L3):ñ l m=[]\/∃u,ñ l m=[u]/\u.can:=by unfold ñ;split;{grind [iE.1]};split;{exact .inr ⟨_,rfl,⟨ű,λ_=>rfl⟩⟩};exact .inr ⟨_,rfl,⟨λ_=>rfl,ű⟩⟩
theorem comb_nil (a:zA Sp):Ü 2 a []=[]:=by (cases e:Ü 2 a [] with|nil=>rfl|cons s r=>{exfalso;have d:=comb_reg 2 a [];rw [e] at d;have ⟨g,i,b,c⟩:=TV (d.1 s (ď ..));have ⟨t,t1,t2,t3⟩:=SQ (á (a++[])) b;have f:=comb_inB 2 a [] (t:=t) (λh=>t3 t h rfl);rw [e] at f;have j:ð (s::r) t=true:=kU.2 ⟨s,ď ..,c t t1 t2⟩;have k:ð [] t=false:=rfl;have l:ĥ 2 (ð a t) false=(ð a t&&false):=rfl;grind})
theorem Rv {v:Sp}(u:v.can):v.meet æ=v:=by obtain ⟨c,d,a,b⟩:=v;unfold Sp.can at u;unfold Sp.meet æ;grind
theorem Rd {v:Sp}(u:v.can):æ.meet v=v:=by obtain ⟨c,d,a,b⟩:=v;unfold Sp.meet æ;cases a<;>cases b<;>simp at u⊢<;>simp
theorem C5 {u:Sp}(hu:u.good):Ü 2 [æ] [u]=[u]:=by rw [we iE.1 hu.1,Rd hu.1,Ã (by rw [hu.2];exact ū)]
theorem R7 {l m:L3}{v:Sp}(D:v.good):Ü 2 [v] (Ü 2 [æ] (ñ l m))=if cW l v m=true then [bF l v m] else []:=by unfold ñ;by_cases a:Ý l m=0;{have b:Û m l=0:=by{rw [cross_dot] at a;grind};have d:bF l v m=v:=by{unfold bF;rw [b];rfl};have c:cW l v m=decide ((jW m l).num.sign>0):=by{unfold cW;rw [b];rfl};rw [Ä a,d,c];by_cases g:0<aG m (cu l 0) (cw l 0);{rw [Ä g,C5 iE,we D.1 iE.1,Rv D.1,Ã (by rw [D.2];exact ū),Ä (Ç (show (jW m l).num.sign>0 from ax.qp.2 g))]};rw [Ã g,comb_nil,comb_nil,Ã (by rw [Ñ];exact λh=>g (ax.qp.1 h))]};have b:Û m l≠0:=λe=>a (by rw [cross_dot,e];grind);have c:cW l v m=!(bF l v m).emp:=by{unfold cW;grind [b_]};have fin:∀{u:Sp},u.good->v.meet u=bF l v m->Ü 2 [v] (Ü 2 [æ] [u])=if cW l v m=true then [bF l v m] else []:=λ{u} hu e=>by{rw [C5 hu,we D.1 hu.1,e,c];grind};rw [Ã a];rcases b_ (Û m l) with ⟨h,e⟩|⟨h,e⟩|⟨h,e⟩;{exact Å h b};{rw [Ä h];refine fin ⟨⟨ű,λ_=>rfl⟩,Sp.iS.2 (.inr (.inl rfl))⟩ ?_;unfold bF;rw [e];rfl};rw [Ã χ];refine fin ⟨⟨λ_=>rfl,ű⟩,Sp.iS.2 (.inl rfl)⟩ ?_;unfold bF;rw [e];rfl
def õ (m:L3)(k:Int):L3:=if k=1 then m else Ö m
theorem Lv {q:Rat}{k:Int}(u:k=1\/k=-1):(q.num.sign==k)=decide (0<(if k=1 then q else -q)):=by rcases b_ q with ⟨h,e⟩|⟨h,e⟩|⟨h,e⟩<;>rcases u with rfl|rfl<;>rw [e]<;>simp<;>grind
theorem LA (m:L3)(k:Int)(x y:Rat):aG (õ m k) x y=if k=1 then aG m x y else -aG m x y:=by unfold õ;split;{rfl};exact val_rev ..
theorem Lz (m l:L3)(k:Int):Û (õ m k) l=if k=1 then Û m l else -Û m l:=by unfold õ;split;{rfl};exact dot_rev ..
theorem side_cross (m l:L3)(k:Int):Ý l (õ m k)=0↔Ý l m=0:=by rw [cross_dot,cross_dot,Lz];split<;>grind
theorem Vp (k:Int)(h:Û m l≠0):Ø (õ m k) l=Ø m l:=by unfold õ;split;{rfl};exact cutP_rev h
def onP (l m:L3):Bool:=decide (Ý l m=0/\aG m (cu l 0) (cw l 0)=0)
theorem vW {w:un}{l m:L3}{k:Int}(hk:k=1\/k=-1)(hl:bW V v l)(hm:bW V w m)(nz:Nz l)(bl:Bd l)(bm:Bd m):À 249 #[v,w,Ô .i64 k] V λr W=>∃q n c,r=ê #[yD q n c,gF (onP l m)]/\aZ 8 oO W q n (ñ l (õ m k)):=by have i:=hl;have j:=hm;obtain ⟨_,_,_,_,_,_,_,_,_,_,_,_,rfl⟩:=br hl;obtain ⟨_,_,_,_,_,_,_,_,_,_,_,_,rfl⟩:=br hm;have sl:=bl.eO;have sm:=bm.eO;refine FJ V _ λV1 s=>(IA (bW.le i s) (bW.le j s) sl sm).s ?_;rintro r V2 M ⟨u,rfl,N,O⟩;have ⟨s1,s2⟩:=Bt sl sm;have y:=s.m M;by_cases f:Ý l m=0;{have z:=N f;unfold JD at z;subst z;refine wwQ ⟨rfl,λ_ V3 l3=>(PX (bW.le i au) nz bl).s ?_,λh=>by simp [f] at h⟩;rintro r V4 l4 A;obtain ⟨_,_,_,_,_,_,_,_,_,_,_,_,rfl,-⟩:=id A;have P:=y.m au;refine qxW ⟨rfl,λV5 Q=>(yO (bW.le j au) (A.le Q) (sm.up (K:=30000) ω) (IW bl).1 (IW bl).2).s ?_⟩;rintro r V6 l6 rfl;have R:=P.m au;have a:((aG m (cu l 0) (cw l 0)).num.sign==(0:Int))=onP l m:=by{unfold onP;rcases b_ (aG m (cu l 0) (cw l 0)) with ⟨h,e⟩|⟨h,e⟩|⟨h,e⟩<;>rw [e]<;>simp [f]<;>grind};have b:ñ l (õ m k)=if ((aG m (cu l 0) (cw l 0)).num.sign==k)=true then [æ] else []:=by{unfold ñ;rw [Ä ((side_cross m l k).2 f),Lv hk,LA];by_cases g:0<(if k=1 then aG m (cu l 0) (cw l 0) else -aG m (cu l 0) (cw l 0));{rw [Ä g,Ä (Ç g)]};rw [Ã g,Ã (by rw [È g];exact ū)]};refine ⟨_,rfl,λh V7 l7=>vV.s ?_,λh eV S=>⟨_,_,_,by rw [a],?_⟩⟩;{rintro r V8 l8 B;obtain ⟨_,_,_,_,_,_,_,_,_,_,_,_,_,_,rfl,-⟩:=id B;refine ⟨_,_,_,_,_,_,_,_,_,_,_,_,_,_,_,_,rfl,λT U C d=>⟨_,_,_,by rw [a],?_⟩⟩;rw [b,Ä h];exact aZ.eY (V:=T) d (row_one rfl (B.le U))};rw [b,Ã (by rw [h];exact ū)];exact aZ.nil};have D:Û m l≠0:=λh=>f (by rw [cross_dot,h];grind);have E:=O f;obtain ⟨_,_,_,_,_,_,_,_,_,_,_,_,rfl,-⟩:=id E;have a:onP l m=false:=by{unfold onP;rw [È λh=>f h.1]};refine wwQ ⟨rfl,λh=>by simp [f] at h,λ_ eW W=>(pQ (bW.le i au) (E.le W) nz (sl.up (K:=30000) ω) (s1.s ω) (s2.s ω)).s ?_⟩;rintro r X dI gt;have o:RQ X r (pN l m):=gt;rw [C9 nz f] at o;clear gt;obtain ⟨_,_,_,_,_,_,rfl⟩:=o.shape;have st:Sz 70000 (Ø m l):=(kW sl sm).s ω;refine qxQ ⟨rfl,λiI Y=>(dM 1 ω).s ?_⟩;rintro r kK Z g1;obtain ⟨_,_,_,_,_,_,rfl⟩:=g1.shape;have F:=Y.m Z;refine qxQ ⟨rfl,λke G=>(eE ra ra st jV ω).s ?_⟩;rintro r kf H gs;obtain ⟨_,_,_,_,_,_,rfl⟩:=gs.shape;have p:=(y.m au).m (F.m (G.m H));have t:Sz 80000 (Ø m l+((1:Int):Rat)):=(st.add jV).s ω;refine qxQ ⟨rfl,λlu I=>(N8 (bW.le i au) (gs.le I) nz (sl.up (K:=80000) ω) t).s ?_⟩;rintro r mD gj J;obtain ⟨_,_,_,_,_,_,_,_,_,_,_,_,rfl,-⟩:=id J;have XK:=p.m au;refine qxW ⟨rfl,λnf je=>(yO (k:=10000000) (bW.le j au) (J.le je) (sm.up ω) ((nI (sl.up (K:=80000) ω) t).s ω) ((nJ (sl.up (K:=80000) ω) t).s ω)).s ?_⟩;rintro r kg il rfl;have L:=XK.m au;have ev:aG m (cu l (Ø m l+((1:Int):Rat))) (cw l (Ø m l+((1:Int):Rat)))=Û m l:=by{rw [jE];have hi:=Ŭ _ D;unfold Ø;have e1:((1:Int):Rat)=1:=rfl;rw [e1];grind};rw [ev];have x:=F.m (G.m (H.m (I.m au)));have b:ñ l (õ m k)=if ((Û m l).num.sign==k)=true then [⟨Ø m l,0,false,true⟩] else [⟨0,Ø m l,true,false⟩]:=by{unfold ñ;rw [Ã (λh=>f ((side_cross m l k).1 h)),Lv hk,Lz,Vp k D];by_cases g:0<(if k=1 then Û m l else -Û m l);{rw [Ä g,Ä (Ç g)]};rw [Ã g,Ã (by rw [È g];exact ū)]};refine ⟨_,rfl,λh qC nQ C d=>⟨_,_,_,by rw [a],?_⟩,λh qN lZ C d=>⟨_,_,_,by rw [a],?_⟩⟩;{rw [b,Ä h];exact aZ.eY (V:=qC) d (row_one rfl (qxW ⟨rfl,ra,rq0 _⟩))};rw [b,Ã (by rw [h];exact ū)];exact aZ.eY (V:=qN) d (row_one rfl (qxW ⟨rfl,rq0 _,o.le au⟩))
def SE (V:Ó)(v:Value)(p:Rat×Rat):Prop:=RP V v p.1 p.2
theorem SE.le {V V':ut}{p:Rat×Rat}(h:SE V v p)(l:V.Le V'):SE V' v p:=RP.le h l
theorem UK {b:md}{p n c u D E}{d:md}{q m e F M N}:∀v∈([gF b,yD p n c,yD u D E,gF d,yD q m e,yD F M N]:zA un),v.oneCell'=true:=by intro v hm;simp only [í,Ğ,Ì] at hm;rcases hm with rfl|rfl|rfl|rfl|rfl|rfl<;>rfl
theorem HI {l:L3}{s:Sp}(h:RF V v l s)(hz:Nz l){k:Nat}(sl:iL k l)(hs:s.sz k)(hk:20*k+20<2^38:=by omega):À 32 #[v] V λr W=>∃p n c,r=yD p n c/\aZ 6 SE W p n (TF l s):=by have h0:=h;obtain ⟨t,u,a,b⟩:=s;obtain ⟨_,_,_,_,_,_,_,_,_,_,_,_,_,_,_,_,_,_,_,_,_,_,_,_,_,_,rfl,y,_,_,_,_,_,_,_,_,_,_,_,_,_,_,D,E,z⟩:=h;simp only [Value.agg.injEq,Ś,Ň,Value.bool.injEq,Value.slice.injEq,Î,Í] at D;obtain ⟨rfl,⟨rfl,rfl,rfl⟩,⟨rfl,rfl,rfl⟩,rfl,⟨rfl,rfl,rfl⟩,⟨rfl,rfl,rfl⟩⟩:=D;dsimp only at E z;unfold TF;dsimp only;refine FD V _ ⟨λw V1 x=>?_,λw=>⟨λe V7 F=>?_,λe eV N=>?_⟩⟩;{obtain rfl:a=false:=by{simpa using w};refine (N8 (y.le x) (E.le x) hz sl hs.1).s ?_;rintro r V2 G g;have H:=g;obtain ⟨_,_,_,_,_,_,_,_,_,_,_,_,_,_,rfl⟩:=f_ g;refine qxW ⟨rfl,[],λi v A=>by simp at A,rfl,Ú _,λ_=>rfl,φ,φ,rfl,UK,λB c9 I O=>⟨λe V3 C=>?_,λe P Q J d=>?_⟩⟩;{obtain rfl:b=false:=by{simpa using e};refine (N8 (y.le (x.m (G.m C))) (z.le (x.m (G.m C))) hz sl hs.2).s ?_;rintro r V4 S j;have f:=j;obtain ⟨_,_,_,_,_,_,_,_,_,_,_,_,_,_,rfl⟩:=f_ j;refine qxW ⟨rfl,φ,I,?_,rfl,UK,λK T m U W X Y L Hw d=>⟨_,_,_,rfl,?_⟩⟩;{simp only [Ŝ,ï,Ĉ,ĺ];omega};have o:=(row_one (sz:=6) (R:=SE) (V:=Y) (xs:=[_,_,_,_,_,_]) (a:=(cu l t,cw l t)) rfl (SE.le H (C.m (S.m L))));have Z:=o.snoc (xs:=[_,_,_,_,_,_]) (sp:=m) (a:=(cu l u,cw l u)) rfl (SE.le f L) φ;exact aZ.eY d (by simpa using Z)};obtain rfl:b=true:=by{simpa using e};refine ⟨_,_,_,rfl,?_⟩;have o:=(é.nil (R:=SE) (V:=P) (vs:=[]) (sz:=6)).snoc (xs:=[_,_,_,_,_,_]) (sp:=B) (a:=(cu l t,cw l t)) rfl (SE.le H Q) φ;exact aZ.eY d (by simpa using o)};{obtain rfl:a=true:=by{simpa using w};obtain rfl:b=false:=by{simpa using e};refine (N8 (y.le F) (z.le F) hz sl hs.2).s ?_;rintro r V8 l8 j;have f:=j;obtain ⟨_,_,_,_,_,_,_,_,_,_,_,_,_,_,rfl⟩:=f_ j;refine qxW ⟨rfl,[],λi v A=>by simp at A,rfl,Ú _,λ_=>rfl,φ,φ,rfl,UK,λq a0 I O V9 l9 M d=>⟨_,_,_,rfl,?_⟩⟩;have o:=(é.nil (R:=SE) (V:=V9) (vs:=[]) (sz:=6)).snoc (xs:=[_,_,_,_,_,_]) (sp:=q) (a:=(cu l u,cw l u)) rfl (SE.le f l9) φ;exact aZ.eY d (by simpa using o)};obtain rfl:a=true:=by{simpa using w};obtain rfl:b=true:=by{simpa using e};exact ⟨_,_,_,rfl,aZ.nil⟩
theorem PQ {u:Nat}{xs:zA un}{ty:TypeId}{m:Nat×Nat}(D:V.aX u (.cells xs.toArray ty m))(h:oO V (.agg xs.toArray) s):MO V (some ⟨u,0,none⟩) 1 [s]:=
 tC (aZ.eY D (row_one (by obtain ⟨_,_,_,_,_,_,_,_,_,_,_,_,_,_,e,-⟩:=wW h;rw [e];rfl) h))
def m_ (V:Ó)(v:Value)(x:L3×Sp):Prop:=RF V v x.1 x.2
theorem m_.le {V V':ut}{x:L3×Sp}(h:m_ V v x)(l:V.Le V'):m_ V' v x:=RF.le h l
theorem Bf (h:onP l m=true)(k:Int):ñ l (õ m k)=[]:=by have h:=Á h;unfold ñ;rw [Ä ((side_cross m l k).2 h.1),LA,h.2];split<;>rw [Ã χ]
theorem Xs (D:Bd l)(u:Bd m)(k:Int):∀s∈ñ l (õ m k),s.sz 100000:=by have b:Bd (õ m k):=by{unfold õ;split;exact u;exact u.rev};have st:Sz 100000 (Ø (õ m k) l):=(kW D.eO b.eO).s ω;have z:=DF 100000;intro s a;unfold ñ at a;split at a;{split at a;{rw [ú.1 a];exact ⟨z,z⟩};cases a};split at a;{rw [ú.1 a];exact ⟨st,z⟩};rw [ú.1 a];exact ⟨z,st⟩
theorem EN (D:s.can)(l m:L3):(Ü 2 [s] (ñ l m)).length<=1:=by rcases yC l m with h|⟨u,h,hu⟩;{rw [h,comb_nil];exact å _};rw [h,we D hu];split;{exact å _};exact Ú _
theorem TZ (l m:L3):(ñ l m).length<=1:=by rcases yC l m with h|⟨u,h,hu⟩<;>rw [h];{exact å _};exact Ú _
theorem PB {al:zA Sp}(h:aZ 8 oO V p n al){i:Nat}(hi:i<al.length):p.isSome=true/\∃(b:md)(u:OA)(D c1:Nat)(E:OA)(F M:Nat)(d:md)(N:OA)(O Z:Nat)(p4:OA)(n4 c4:Nat)(a:Addr),ae p (i*8)=some a/\V.at (a.add 0) (gF b)/\V.at (a.add 1) (yD u D c1)/\V.at (a.add 2) (yD E F M)/\V.at (a.add 3) (gF d)/\V.at (a.add 4) (yD N O Z)/\V.at (a.add 5) (yD p4 n4 c4)/\V.at (a.add 6) (gF al[i].a)/\V.at (a.add 7) (gF al[i].b)/\oO V (dB #[gF b,yD u D c1,yD E F M,gF d,yD N O Z,yD p4 n4 c4,gF al[i].a,gF al[i].b]) al[i]:=by have ⟨g,e,xs,j,f,c⟩:=h.at_ i hi;obtain ⟨_,_,_,_,_,_,_,_,_,_,_,_,_,_,ex,-,-⟩:=id f;have ex:=Æ Array.toList (Value.agg.inj ex);dsimp only at ex;subst ex;refine ⟨?_,_,_,_,_,_,_,_,_,_,_,_,_,_,_,g,e,c 0 _ rfl,c 1 _ rfl,c 2 _ rfl,c 3 _ rfl,c 4 _ rfl,c 5 _ rfl,c 6 _ rfl,c 7 _ rfl,f⟩;(cases p with|none=>{cases e}|some a=>rfl)
theorem PN {b1:md}{u:OA}{D c1:Nat}{E:md}{F:OA}{M N:Nat}{O:md}{Z:OA}{n3 c3:Nat}{b:md}{q1:OA}{m1 e1:Nat}{q2:OA}{m2 e2:Nat}{d:md}{q3:OA}{m3 e3:Nat}{q4:OA}{m4 e4:Nat}{x y:md}:∀v∈([gF b1,yD u D c1,gF E,yD F M N,gF O,yD Z n3 c3,gF b,yD q1 m1 e1,yD q2 m2 e2,gF d,yD q3 m3 e3,yD q4 m4 e4,gF x,gF y]:zA un),v.oneCell'=true:=by intro v a;simp only [í,Ğ,Ì] at a;rcases a with rfl|rfl|rfl|rfl|rfl|rfl|rfl|rfl|rfl|rfl|rfl|rfl|rfl|rfl<;>rfl
def Ģ (l:L3)(s:Sp)(m:L3):List (L3×Sp):=(Ü 2 [s] (ñ l m)).map λu=>(l,u)
theorem EI {w:un}{l m:L3}{s:Sp}(hf:RF V v l s)(hm:bW V w m)(nz:Nz l)(bl:Bd l)(bm:Bd m)(hs:s.can)(ss:s.sz 1000000):À 198 #[v,w] V λr W=>∃p1 n1 c1 p2 n2 c2,r=ê #[yD p1 n1 c1,yD p2 n2 c2]/\aZ 14 m_ W p1 n1 (Ģ l s m)/\aZ 14 m_ W p2 n2 (Ģ l s (Ö m)):=by have q:=hm;obtain ⟨_,_,_,_,_,_,_,_,_,_,_,_,_,_,_,_,_,_,_,_,_,_,_,_,_,_,rfl,M,hS⟩:=hf;obtain ⟨_,_,_,_,_,_,_,_,_,_,_,_,rfl⟩:=br hm;have s1:õ m 1=m:=rfl;have s2:õ m (-1)=Ö m:=rfl;have c:=Xs bl bm;have f:=λk=>EN hs l (õ m k);have i:=λk=>TZ l (õ m k);refine Ed V _ ⟨λ_=>⟨φ,λV1 N=>(vW (l:=l) (.inl rfl) (RL.le M N) (bW.le q N) nz bl bm).s ?_⟩,λh=>by cases h⟩;rintro r V2 l2 ⟨q1,n1,c1,rfl,hH⟩;refine qyK ⟨rfl,λn V3 l3=>⟨_,_,_,_,_,_,rfl,?_,?_⟩,λn V4 l4 O5 C=>(kn (op:=2) (la':=[s]) (lb':=ñ l (õ m 1)) (PQ C ra) (tC ra) (by have:=i 1;rw [Qc5];omega) (k:=1000000) (λz d=>ú.1 d▸ss) (λz d=>⟨(c 1 z d).1.s ω,(c 1 z d).2.s ω⟩) ω).s ?_⟩;{unfold Ģ;rw [<-s1,Bf n,comb_nil];exact aZ.nil};{unfold Ģ;rw [<-s2,Bf n,comb_nil];exact aZ.nil};rintro r V5 l5 ⟨p4,n4,c4,rfl,D⟩;have D:=D.lst;have la:=f 1;have Xx:=D.len;generalize hA:Ü 2 [s] (ñ l (õ m 1))=A at *;refine ⟨_,_,_,rfl,λ_=>⟨λz V'=>∃j:Nat,z.1=(j:Int)/\j<=A.length/\z.2.2.2.1=0/\z.2.2.2.2.1=0/\z.2.2.2.2.2.2=[]/\GR 14 m_ V' z.2.1 z.2.2.1 z.2.2.2.2.2.1 ((A.take j).map λu=>(l,u)),λz=>A.length-z.1.toNat,⟨(0,0,0,0,0,[],[]),σ,0,rfl,å _,rfl,rfl,rfl,GR.nil⟩,?_⟩⟩;rintro ⟨W,O,X,x3,x4,xs,ys⟩ V6 l6 ⟨j,t,Y,P,Q,S,o⟩;dsimp only at t P Q S o ⊢;subst t P Q S;refine ⟨θ,λb=>?_,λb=>⟨λ_=>⟨φ,λV7 l7=>(vW (l:=l) (.inr rfl) (RL.le M au) (bW.le q au) nz bl bm).s ?_⟩,λh=>by cases h⟩⟩;{have b:=Á b;have p:j<A.length:=ω;have wr:i64.wrap ((j:Int)+1)=((j+1:Nat):Int):=by{rw [aq ω];rfl};rw [wr,ß];refine ldS (R:=oO) rW ra p λ_ _ _ _ _ _ _ _ _ _ _ _ _ _ gs=>?_;have E:=(Ŏ p).symm;have F:=o.len;rw [Č,ì] at F;generalize A[j]=u at *;refine ⟨φ,ω,o.le,o.cap,rfl,PN,λsp G H I=>⟨φ,(((j+1:Nat):Int),O+1,G,0,0,_,[]),ω,σ,j+1,rfl,p,rfl,rfl,rfl,?_⟩⟩;rw [E,œ];exact o.snoc (a:=(l,u)) rfl ⟨_,_,_,_,_,_,_,_,_,_,_,_,_,_,_,_,_,_,_,_,_,_,_,_,_,_,rfl,ra,gs⟩ φ H I};have b:=Â b;obtain rfl:j=A.length:=ω;rw [Ė] at o;rintro r V8 l8 ⟨q2,n2,c2,rfl,Z⟩;refine qyK ⟨rfl,λn V9 l9=>⟨_,_,_,_,_,_,rfl,?_,?_⟩,λn eV a0 WH x=>(kn (op:=2) (la':=[s]) (lb':=ñ l (õ m (-1))) (PQ x ra) (tC ra) (by have:=i (-1);rw [Qc5];omega) (k:=1000000) (λz d=>ú.1 d▸ss) (λz d=>⟨(c (-1) z d).1.s ω,(c (-1) z d).2.s ω⟩) ω).s ?_⟩;{unfold Ģ;rw [<-s1,Bf n,comb_nil];exact aZ.nil};{unfold Ģ;rw [<-s2,Bf n,comb_nil];exact aZ.nil};rintro r eW cU ⟨a1,a2,a3,rfl,J⟩;have J:=J.lst;have lb:=f (-1);have T:=J.len;generalize hB:Ü 2 [s] (ñ l (õ m (-1)))=B at *;refine ⟨_,_,_,rfl,λ_=>⟨λz V'=>∃j:Nat,z.1=(j:Int)/\j<=B.length/\GR 14 m_ V' z.2.1 z.2.2.1 z.2.2.2.2.2.1 (A.map λu=>(l,u))/\GR 14 m_ V' z.2.2.2.1 z.2.2.2.2.1 z.2.2.2.2.2.2 ((B.take j).map λu=>(l,u)),λz=>B.length-z.1.toNat,⟨(0,O,X,0,0,xs,[]),σ,0,rfl,å _,o.up au,GR.nil⟩,?_⟩⟩;rintro ⟨W,y1,y2,y3,y4,us,ws⟩ gC dI ⟨j,t,Y,y,e⟩;dsimp only at t y e ⊢;subst t;refine ⟨θ,λb=>?_,λb=>⟨ű,λ_=>⟨φ,φ,λiI U a4 a5 K L=>?_⟩⟩⟩;{have b:=Á b;have p:j<B.length:=ω;have wr:i64.wrap ((j:Int)+1)=((j+1:Nat):Int):=by{rw [aq ω];rfl};rw [wr,ß];refine ldS (R:=oO) rW ra p λ_ _ _ _ _ _ _ _ _ _ _ _ _ _ gs=>?_;have E:=(Ŏ p).symm;have F:=e.len;rw [Č,ì] at F;generalize B[j]=u at *;refine ⟨φ,ω,e.le,e.cap,rfl,PN,λsp G H I=>⟨φ,(((j+1:Nat):Int),y1,y2,y3+1,G,us,_),ω,σ,j+1,rfl,p,y,?_⟩⟩;rw [E,œ];exact e.snoc (a:=(l,u)) rfl ⟨_,_,_,_,_,_,_,_,_,_,_,_,_,_,_,_,_,_,_,_,_,_,_,_,_,_,rfl,ra,gs⟩ φ H I};have b:=Â b;obtain rfl:j=B.length:=ω;rw [Ė] at e;have e1:=y.len;have e2:=e.len;have g1:Ģ l s m=A.map λu=>(l,u):=by{unfold Ģ;rw [<-hA];rfl};have g2:Ģ l s (Ö m)=B.map λu=>(l,u):=by{unfold Ģ;rw [<-hB];rfl};rw [g1,g2];subst e1 e2;exact qyJ ⟨rfl,aZ.bo K (y.row.le λ_ _ g=>m_.le g U) φ y.le,aZ.bo L (e.row.le λ_ _ g=>m_.le g U) φ e.le⟩
def Ō (l:List Rat):List Rat:=l.foldl (λo x=>cX x o) []
theorem ascL_spec (l:zA Rat):asc (Ō l)/\∀x,x∈Ō l↔x∈l:=by
 have:∀(l o:zA Rat),asc o->asc (l.foldl (λo x=>cX x o) o)/\∀x,x∈l.foldl (λo x=>cX x o) o↔x∈o\/x∈l:=by
  intro l
  induction l<;>grind [Cz,rG]
 have ⟨a,b⟩:=this l [] List.Pairwise.nil;grind [Ō]
theorem Rh:∀u∈ñ l m,u.good:=λu hu=>by
 unfold ñ at hu;split at hu
 ·grind [iE]
 ·split at hu
  ·rw [ú.1 hu];exact ⟨⟨ű,λ_=>rfl⟩,rfl⟩
  ·rw [ú.1 hu];exact ⟨⟨λ_=>rfl,ű⟩,rfl⟩
theorem UL (l m:L3):Ü 2 [æ] (ñ l m)=ñ l m:=by grind [yC,comb_nil,C5,Rh]
theorem spl_side (u:s.good):Ģ l s m=Ď l s m:=by have h:=R7 (l:=l) (m:=m) u;rw [UL] at h;unfold Ģ Ď;rw [h];split<;>rfl
theorem inB_nil (t:Rat):ð [] t=false:=rfl
def cP (l:List L3):List L3:=l.foldl (λo x=>jt x o) []
theorem bZ (l:zA L3):(cP l).Pairwise rK/\∀x,x∈cP l↔x∈l:=by
 have:∀(l o:zA L3),o.Pairwise rK->(l.foldl (λo x=>jt x o) o).Pairwise rK/\∀x,x∈l.foldl (λo x=>jt x o) o↔x∈o\/x∈l:=by
  intro l
  induction l with
  | nil=>intro o h;exact ⟨h,λx=>ψ⟩
  | cons y r u=>
   intro o h;have ⟨a,b⟩:=u (jt y o) (Cx h);refine ⟨a,λx=>?_⟩;rw [ř,b x,wG,í];constructor
   ·rintro ((h|h)|h)<;>simp [h]
   ·rintro (h|h|h)<;>simp [h]
 have ⟨a,b⟩:=this l [] List.Pairwise.nil;exact ⟨a,λx=>by rw [cP,b x];simp⟩
theorem Rq {l m:zA L3}(h:∀x,x∈l↔x∈m):cP l=cP m:=
 Ht (bZ l).1 (bZ m).1 λx=>by rw [(bZ l).2 x,(bZ m).2 x];exact h x
def ay (m:L3)(l:List (L3×Sp)):List Sp:=(l.filter λx=>decide (x.1=m)).map Prod.snd
def â (l:List (L3×Sp)):List (L3×Sp):=(cP (l.map Prod.fst)).flatMap λm=>(Ü 1 (ay m l) []).map λs=>(m,s)
theorem QT {A B:zA Sp}(h:A.Perm B):Ü 1 A []=Ü 1 B []:=by refine reg_eq (á (A++[])++á (B++[])) (comb_reg ..) (comb_reg ..) λt a=>?_;rw [ü,not_or] at a;rw [comb_inB 1 _ _ a.1,comb_inB 1 _ _ a.2];have:ð A t=ð B t:=by{unfold ð;rw [ĵ,Qh7,Qh7];exact ⟨λ⟨x,b,c⟩=>⟨x,h.mem_iff.1 b,c⟩,λ⟨x,b,c⟩=>⟨x,h.mem_iff.2 b,c⟩⟩};rw [this]
theorem NH {l m:zA (L3×Sp)}(h:l.Perm m):â l=â m:=by unfold â;rw [Rq (l:=l.map Prod.fst) (m:=m.map Prod.fst) λx=>(h.map _).mem_iff];refine Æ (λf=>(cP (m.map Prod.fst)).flatMap f) (funext λk=>?_);rw [QT (A:=ay k l) (B:=ay k m) ((h.filter _).map _)]
theorem joinF_snoc {P Q:zA (L3×Sp)}(D:∀x∈P,rK x.1 m)(u:∀x∈Q,x.1=m)(hne:Q≠[]):â (P++Q)=â P++(Ü 1 (Q.map Prod.snd) []).map λs=>(m,s):=by
 have i:cP ((P++Q).map Prod.fst)=cP (P.map Prod.fst)++[m]:=by have ⟨j,k⟩:=bZ ((P++Q).map Prod.fst);have ⟨n,g⟩:=bZ (P.map Prod.fst);refine Ht j (Qg7.2 ⟨n,Qd0 _ _,λx c y d=>?_⟩) λx=>?_;{rw [ú.1 d];obtain ⟨z,b,rfl⟩:=ÿ.1 ((g x).1 c);exact D z b};rw [k x,œ,ü,ü,g x,ú];refine or_congr_right ⟨λh=>?_,λh=>?_⟩;{obtain ⟨z,b,rfl⟩:=ÿ.1 h;exact u z b};have ⟨z,b⟩:=List.exists_mem_of_ne_nil Q hne;exact ÿ.2 ⟨z,b,(u z b).m h.symm⟩
 have c:∀x∈cP (P.map Prod.fst),ay x (P++Q)=ay x P:=λx c=>by obtain ⟨z,b,rfl⟩:=ÿ.1 (((bZ _).2 x).1 c);have f:=D z b;unfold ay;rw [Qp2,(Qp0 (l:=Q)).2 λy d=>?_,ý];intro e;have e:=Á e;rw [<-e,u y d] at f;exact wL f
 have hm:ay m (P++Q)=Q.map Prod.snd:=by unfold ay;rw [Qp2,(Qp0 (l:=P)).2 λy d=>?_,Ŝ,(Qs2 (l:=Q)).2 λy d=>Ç (u y d)];intro e;exact wL ((Á e)▸D y d)
 unfold â;rw [i,Qn5,Qt6,hm];congr 1;generalize cP (P.map Prod.fst)=L at c
 induction L with
 | nil=>rfl
 | cons a r E=>rw [Ę,Ę,c a (ď ..),E λx h=>c x (ā _ h)]
theorem P6 {α:Type}{sz:Nat}{R u:ut->un->α->Prop}{V':ut}{l:zA α}(h:é sz R V vs l)(m:∀v a,a∈l->R V v a->u V' v a):é sz u V' vs l:=
 ⟨λi b=>by have ⟨xs,c,d,e⟩:=h.at_ i b;exact ⟨xs,c,m _ _ (ò b) d,e⟩⟩
theorem Oe {ws:zA un}{m:zA (L3×Sp)}(h:é 17 qB V ws m){i:Nat}(hi:i<m.length):∃(u D:Int)(p:OA)(E F:Int)(q:OA)(M N:Int)(r:OA)(u1 u2:Int)(t:OA)(O Z:Int)(o:OA),((i*17+0)+9<=ws.length/\(ws.drop (i*17+0)).take 9=[Ô .i64 u,Ô .i64 D,Õ p,Ô .i64 E,Ô .i64 F,Õ q,Ô .i64 M,Ô .i64 N,Õ r])/\((i*17+9)+8<=ws.length/\(ws.drop (i*17+9)).take 8=[Ô .i64 u1,Ô .i64 u2,Õ t,Ô .i64 O,Ô .i64 Z,Õ o,gF m[i].2.a,gF m[i].2.b])/\vF V (dB #[Ô .i64 u,Ô .i64 D,Õ p,Ô .i64 E,Ô .i64 F,Õ q,Ô .i64 M,Ô .i64 N,Õ r]) m[i].1/\kJ V (dB #[Ô .i64 u1,Ô .i64 u2,Õ t,Ô .i64 O,Ô .i64 Z,Õ o,gF m[i].2.a,gF m[i].2.b]) m[i].2:=by obtain ⟨xs,-,c,k,f⟩:=h.get (d:=gJ) hi φ;have e:m.getD i gJ=m[i]:=by{rw [ě,ô hi];rfl};rw [e] at c;obtain ⟨_,_,_,_,_,_,_,_,_,_,_,_,_,_,_,ex,g,j⟩:=c;have ex:=Æ Array.toList (Value.agg.inj ex);subst ex;refine wwQ ⟨⟨ω,?_⟩,⟨ω,?_⟩,g,j⟩;{have:=Æ (List.take 9) f;rw [Wq0] at this;exact this};{have:=Æ (List.drop 9) f;rw [List.drop_take,Qh8] at this;exact this}
theorem Yr {V:ut}{xs:zA un}{x:Sp}(h:kJ V (.agg xs.toArray) x):∀v∈xs,v.oneCell'=true:=by obtain ⟨_,_,_,_,_,_,ex,-,-⟩:=h;have ex:=Æ Array.toList (Value.agg.inj ex);subst ex;intro v a;simp only [í,Ğ,Ì] at a;rcases a with rfl|rfl|rfl|rfl|rfl|rfl|rfl|rfl<;>rfl
theorem lt_le {a b c:L3}(h:rK a b)(u:¬iQ c b<0):rK a c:=by by_cases e:b=c;{rw [<-e];exact h};exact Uj h (PD u λk=>e k.symm)
set_option maxHeartbeats 2000000 in
theorem F_ {fs:zA (L3×Sp)}(h:aZ 17 qB V p n fs)(h0:fs=[]->p=none)(kS:fs.length<10000)(each:∀m,(ay m fs).length<70)(hb:∀f∈fs,iL 10000 f.1)(hg:∀f∈fs,f.2.good)(hs:∀f∈fs,f.2.sz 1000000)(so:∀i,qM i):À 97 #[yD p n c] V λr W=>∃q m e,r=yD q m e/\aZ 17 qB W q m (â fs):=by
 refine DP V _ λV1 l1=>(S_ ra ω h0).s ?_;rintro r V2-⟨bm,vs,a1,a2,e,rfl,hle,X,Y,row,lW⟩;refine ⟨bm,vs,a1,λh=>.inl (a2 h),none,fs.length,e,rfl,?_⟩;have F:é 17 qB (V2.shut.bq (vs≠[]) bm) vs fs:=row.le λ_ _ g=>z_.le g λb o h=>h;clear a1 a2 row lW;refine ⟨λws V'=>∃m:zA (L3×Sp),m.Perm fs/\(m.Pairwise λx y=>¬iQ y.1 x.1<0)/\é 17 qB V' ws m,⟨λD=>?_,λD V5 l5 U e1 e2=>?_⟩,?_⟩
 ·have Z:=Qj5 λh=>Y.2 h D;subst Z;obtain rfl:=X.1 D;refine ⟨rfl,λV3 l3=>vQ.s λr V4 l4 rfl=>⟨rfl,vs,σ,[],.refl _,List.Pairwise.nil,é.nil⟩⟩
 ·have a0:e≠0:=λh=>D (X.2 h);have T2:∀b,mA b e=some ⟨b,0,none⟩:=λb=>by{unfold mA;rw [Ã a0]};show À _ _ _ _;rw [T2];refine (Ey (V:=V5.ao [vb vs V5.w.heap.size U]) (lb:=U) (vs:=vs) (l:=fs) (e1 D) ⟨by simp [mY D],e2 D⟩ ⟨P6 F λv a ha g=>⟨z_.le g λb o h=>l5 b o h,hb a ha⟩,rfl,kS⟩).s ?_;rintro r V6 l6 ⟨rfl,ws,m,e3,sr,pm,pw⟩;have NN:=pm.length_eq;have hw:ws≠[]:=λe=>by{have:=sr.row.eX φ;rw [e,NN] at this;exact Y.1 D (Ĥ.1 (by rw [ĺ] at this;omega))};exact ⟨rfl,D,ws,hw,e3,ws,σ,m,pm,pw,P6 sr.row λv a _ g=>z_.le g.1 λb o h=>h⟩
 rintro ws V7 l7 ⟨m,pm,pw,R⟩;rw [NH pm.symm]
 replace hb:∀f∈m,iL 10000 f.1:=λf P=>hb f (pm.mem_iff.1 P)
 replace hg:∀f∈m,f.2.good:=λf P=>hg f (pm.mem_iff.1 P)
 replace hs:∀f∈m,f.2.sz 1000000:=λf P=>hs f (pm.mem_iff.1 P)
 replace each:∀u,(ay u m).length<70:=λu=>by have:=((pm.filter λx=>decide (x.1=u)).map Prod.snd).length_eq;have:=each u;unfold ay at *;omega
 rw [<-pm.length_eq] at kS hle ⊢;clear h0 h pm F X Y;have S:∀i j (A:i<m.length) (I:j<m.length),i<j->¬iQ m[j].1 m[i].1<0:=λi j A I=>Qv6.1 pw i j A I;refine ⟨rfl,λz V'=>∃j:Nat,z.2.2.2=(j:Int)/\j<=m.length/\GR 17 qB V' z.1 z.2.1 z.2.2.1 (â (m.take j))/\(â (m.take j)).length<=300*j/\∀x∈m.take j,∀y∈m.drop j,rK x.1 y.1,λz=>m.length-z.2.2.2.toNat,⟨(0,0,[],0),σ,0,rfl,å _,GR.nil,å _,λx d=>by simp at d⟩,?_⟩;rintro ⟨n1,c1,os,i1⟩ V8 l8 ⟨j,ej,pH,Q,ol,sep⟩;subst ej;refine ⟨rfl,λB=>?_,λB kf e_ U K=>?_⟩;rotate_left
 ·have B:¬(j:Int)<(m.length:Nat):=Â B;obtain rfl:j=m.length:=ω;rw [Ė] at Q;have:=aZ.bo K (Q.row.le λ_ _ g=>z_.le g e_) φ (by rw [<-Q.len];exact Q.le);rw [<-Q.len] at this;exact ⟨_,_,_,rfl,this⟩
 have B:(j:Int)<(m.length:Nat):=Á B;have I:j<m.length:=ω
 refine ⟨λz V'=>∃k:Nat,z.2.2.2=(k:Int)/\j<=k/\k<=m.length/\GR 8 kJ V' z.1 z.2.1 z.2.2.1 (((m.take k).drop j).map Prod.snd)/\∀x∈(m.take k).drop j,x.1=m[j].1,λz=>m.length-z.2.2.2.toNat,⟨(0,0,[],(j:Int)),σ,j,rfl,Ú _,ω,?_,?_⟩,?_⟩
 ·rw [List.drop_eq_nil_of_le (by rw [ì];omega)];exact GR.nil
 ·rw [List.drop_eq_nil_of_le (by rw [ì];omega)];intro x d;cases d
 rintro ⟨n2,c2,us,i2⟩ V9 l9 ⟨k,ek,jk,a3,E,same⟩;dsimp only at ek E;subst ek;have L:=R.le λ_ _ g=>z_.le g (l8.m l9);obtain ⟨b1,b2,b3,b4,b5,b6,b7,b8,b9,-,-,-,-,-,-,jl,-,jr,-⟩:=Oe L I;refine ⟨rfl,λb V'=>V9.Le V'/\b=decide (∃h:k<m.length,m[k].1=m[j].1),⟨λt=>?_,λt=>?_⟩,?_⟩
 ·have t:(k:Int)<(m.length:Nat):=Á t;have t:k<m.length:=ω;dsimp only;rw [ß,ß];obtain ⟨d1,d2,d3,d4,d5,d6,d7,d8,d9,-,-,-,-,-,-,kl,-,kr,-⟩:=Oe L t;refine ⟨Ź,hle,d1,d2,d3,d4,d5,d6,d7,d8,d9,kl,Ź,hle,b1,b2,b3,b4,b5,b6,b7,b8,b9,jl,λeV a4=>(tA ra ra (hb _ (ò t)) (hb _ (ò I))).s λr eW cU rfl=>⟨_,rfl,_,σ,a4.m cU,É.2 ⟨λh=>⟨t,h⟩,λ⟨_,h⟩=>h⟩⟩⟩
 ·have t:¬(k:Int)<(m.length:Nat):=Â t;exact ⟨false,σ,Ó.Le.refl _,(È λ⟨h,_⟩=>ω).symm⟩
 rintro b gC dI ⟨G,rfl⟩;refine ⟨rfl,λt=>?_,λt iI dS U K=>?_⟩
 ·have ⟨t,a5⟩:=Á t;have w:i64.wrap ((k:Int)+1)=((k+1:Nat):Int):=by{rw [aq ω];rfl};dsimp only;rw [ß,w];obtain ⟨-,-,-,-,-,-,-,-,-,d1,d2,d3,d4,d5,d6,-,kl,-,kr⟩:=Oe (L.le λ_ _ g=>z_.le g G) t;have tk:(m.take (k+1)).drop j=(m.take k).drop j++[m[k]]:=by{rw [<-Ŏ t,List.drop_append_of_le_length (by rw [ì];omega)]};have sl:=E.len;rw [Č,į,ì] at sl;refine ⟨Ź,hle,d1,d2,d3,d4,d5,d6,_,_,kl,ω,E.le,E.cap,rfl,Yr (V:=gC) (x:=m[k].2) kr,λsp c' k1 k2=>⟨(n2+1,c',_,((k+1:Nat):Int)),ω,σ,k+1,rfl,ω,t,?_,?_⟩⟩;{rw [tk,œ];exact (E.up G).snoc rfl kr φ k1 k2};rw [tk];intro x d;rcases ü.1 d with d|d;{exact same x d};rw [ú.1 d];exact a5
 have t:=Â t;have a6:=Nat.lt_of_le_of_ne jk λe=>by subst e;exact t ⟨I,rfl⟩
 have sub:∀x∈(m.take k).drop j,x∈m:=λx d=>ţ (Qg5 d);have hA:=aZ.bo K (E.row.le λ_ _ g=>kJ.le g au) φ (by rw [<-E.len];exact E.le);rw [<-E.len] at hA
 have Al:(((m.take k).drop j).map Prod.snd).length<70:=by refine ň ?_ (each m[j].1);unfold ay;rw [<-Qs2.2 λx d=>Ç (same x d)];exact ((((List.drop_sublist _ _).m (List.take_sublist _ _)).filter _).map _).length_le
 have P:=TL (((m.take k).drop j).map Prod.snd);refine (BT hA (λs M=>by obtain ⟨x,d,rfl⟩:=ÿ.1 M;exact hg x (sub x d)) (λs M=>by obtain ⟨x,d,rfl⟩:=ÿ.1 M;exact hs x (sub x d)) ω ω (so _)).s ?_;rintro r kK fH ⟨q,n3,c3,rfl,hC⟩;refine ⟨_,_,_,rfl,λJ=>?_⟩
 have sn:â (m.take k)=â (m.take j)++(Ü 1 (((m.take k).drop j).map Prod.snd) []).map λs=>(m[j].1,s):=by
  have e:m.take k=m.take j++(m.take k).drop j:=by
   conv=>lhs;rw [<-Qv4 j (m.take k),Wq0,Ħ ω]
  conv=>lhs;rw [e]
  refine joinF_snoc (λx d=>sep x d _ (Qb8.2 ⟨0,by rw [į];omega,by rw [Qp9];rfl⟩)) same λh=>?_;have:=Æ List.length h;rw [į,ì] at this;simp at this;omega
 have cl:=Cd 1 (((m.take k).drop j).map Prod.snd) [];have f0:fe []=0:=rfl;generalize Ü 1 (((m.take k).drop j).map Prod.snd) []=C at hC sn cl;obtain rfl:=hC.len;refine ⟨λz V'=>∃i:Nat,z.2.2.2=(i:Int)/\i<=C.length/\GR 17 qB V' z.1 z.2.1 z.2.2.1 (â (m.take j)++(C.take i).map λs=>(m[j].1,s)),λz=>C.length-z.2.2.2.toNat,⟨(n1,c1,os,0),σ,0,rfl,å _,?_⟩,?_⟩
 ·rw [Qd4,Wk6,ý];exact Q.s λ_ _ g=>z_.le g au
 rintro ⟨n4,c4,ts,i4⟩ ke fB ⟨i,ei,NF,N⟩;dsimp only at ei N;subst ei;refine ⟨rfl,λA=>?_,λA=>?_⟩
 ·have A:(i:Int)<(C.length:Nat):=Á A;have A:i<C.length:=ω;have w:i64.wrap ((i:Int)+1)=((i+1:Nat):Int):=by{rw [aq ω];rfl};dsimp only;rw [ß,ß,w];obtain ⟨ad,h0,xs,-,y2,H⟩:=(hC.le fB).at_ i A;obtain ⟨_,_,_,_,_,_,ex,g1,g2⟩:=y2;have ex:=Æ Array.toList (Value.agg.inj ex);dsimp only at ex;subst ex;have he:z_ ke (dB #[Ô .i64 b1,Ô .i64 b2,Õ b3,Ô .i64 b4,Ô .i64 b5,Õ b6,Ô .i64 b7,Ô .i64 b8,Õ b9,Ô .i64 _,Ô .i64 _,Õ _,Ô .i64 _,Ô .i64 _,Õ _,gF C[i].a,gF C[i].b]) m[j].1 C[i]:=wwQ ⟨rfl,ra,_,_,_,_,_,_,rfl,g1,g2⟩;have tl:=N.len;rw [ï,Č,ì] at tl;refine ⟨aW h0,Ź,_,_,_,_,_,_,_,_,ad,h0,H 0 _ rfl,H 1 _ rfl,H 2 _ rfl,H 3 _ rfl,H 4 _ rfl,H 5 _ rfl,H 6 _ rfl,H 7 _ rfl,Ź,hle,b1,b2,b3,b4,b5,b6,b7,b8,b9,jl,ω,N.le,N.cap,rfl,Lr (V:=ke) (x:=(_,_)) he,λsp c' k1 k2=>⟨(n4+1,c',_,((i+1:Nat):Int)),ω,σ,i+1,rfl,A,?_⟩⟩;rw [<-Ŏ A,œ,<-Ě];exact N.snoc (a:=(m[j].1,C[i])) rfl he φ k1 k2
 ·have A:¬(i:Int)<(C.length:Nat):=Â A;obtain rfl:i=C.length:=ω
  rw [Ė] at N;refine ⟨(n4,c4,ts,(k:Int)),ω,σ,k,rfl,a3,by rw [sn];exact N,by rw [sn,ï,Č];omega,λx d y hy=>?_⟩;obtain ⟨W,a7,rfl⟩:=Qb8.1 hy;rw [į] at a7;rw [Qp9];have O:k<m.length:=ω
  have T:=PD (S j k I O a6) λe=>t ⟨O,e⟩
  have a8:rK m[j].1 m[k+W].1:=by by_cases e:W=0;{subst e;exact T};exact lt_le T (S k (k+W) O ω ω)
  have e:m.take k=m.take j++(m.take k).drop j:=by
   conv=>lhs;rw [<-Qv4 j (m.take k),Wq0,Ħ ω]
  rw [e] at d;rcases ü.1 d with d|d
  ·exact sep x d _ (Qb8.2 ⟨k+W-j,by rw [į];omega,by rw [Qp9];congr 1;omega⟩)
  grind
theorem Yp {fs:zA (L3×Sp)}(h:aZ 17 qB V p n fs):SD V p n fs:=⟨h.len,λi a=>by
 obtain ⟨b,c,xs,-,d,e⟩:=h.at_ i a;exact ⟨b,c,xs,d,e⟩⟩
theorem SM (l:zA Rat):(Ō l).length<=l.length:=by
 have:∀(l o:zA Rat),(l.foldl (λo x=>cX x o) o).length<=o.length+l.length:=by
  intro l
  induction l with
  | nil=>exact λo=>Ú _
  | cons y r u=>intro o;have a:=u (cX y o);have b:=@lY y o;rw [ř,Ĉ];omega
 have:=this l [];simpa [Ō] using this
theorem qh {root:Int}{l:zA Nd}(M:∀x∈l,Bd x.ln)(h:AT V v root l)(N:uD V 0 y)(O:uD V 1 z):À 34 #[v] V λr W=>(GU l root=none->r=ê #[Õ none,y])/\∀t,GU l root=some t->t.depth<=1024->∃q,r=ê #[Õ q,.nilIface]/\RT W q t:=by
 obtain ⟨q,n,c,rfl,-⟩:=id h;refine yT V _ λo p=>(QF M ra).s ?_;rintro r V2 s ⟨a,rfl,i⟩;refine ⟨_,_,rfl,λg=>⟨y,⟨_,rfl,N.le au⟩,λu w=>?_⟩,λg A j=>?_⟩
 ·have g:GU l root=none:=by cases e:GU l root with
   | none=>rfl
   | some t=>rw [e] at g;cases g
  exact ⟨λ_=>rfl,λt b=>by rw [g] at b;cases b⟩
 ·(cases e:GU l root with|none=>{rw [e] at g;cases g}|some t=>{have B:=UE e;refine (qS t ((i t e).le j) ω).s ?_;rintro r C D rfl;refine ⟨_,rfl,λd=>⟨z,⟨_,rfl,O.le au⟩,λE F=>⟨ű,λm b f=>?_⟩⟩,λd G H=>⟨ű,λm b f=>?_⟩⟩;{cases b;have d:=Á d;omega};cases b;exact ⟨_,rfl,(i t e).le au⟩})
theorem crp_of {S:zA L3}{t:Tr}(u:Bd L)(D:t.dU λl=>Bd l/\l∈S)(F:S.length<=30)(E:∀l∈S,Bd l):OY L (Ō (S.map λm=>Ø m L)) t:=by have ⟨b,a⟩:=ascL_spec (S.map λm=>Ø m L);refine ⟨(Nl (D.imp λ_ h=>h.2)).imp λm h c=>(a _).2 (h c),b,?_,λx d=>?_⟩;{have:=SM (S.map λm=>Ø m L);rw [Č] at this;omega};obtain ⟨m,hm,rfl⟩:=ÿ.1 ((a x).1 d);exact (kW u.eO (E m hm).eO).s ω
theorem lA {t:Tr}{P:zA Rat}(u:OY L P t):uu (qE L t)/\(∀s∈qE L t,s.sz 1000000)/\(qE L t).length<=61:=by have r:uu (qE L t):=comb_reg _ _ _;refine ⟨r,Cg u.sz λs a=>⟨r.1 s a,on_end u.crs s a⟩,?_⟩;have:=Cd 3 (oz L true t) (oz L false t);obtain ⟨-,-,f1,-⟩:=wI u true;obtain ⟨-,-,f2,-⟩:=wI u false;show (Ü 3 (oz L true t) (oz L false t)).length<=61;omega
def jM (t:Tr)(L:L3):List (L3×Sp):=(qE L t).map λs=>(L,s)
def iT (t:Tr)(D:List L3):List (L3×Sp):=D.flatMap λl=>jM t l++jM t (Ö l)
theorem Gn:Ü 1 [bV] []=[bV]:=by refine reg_eq (á ([bV]++[])) (comb_reg ..) ⟨λs h=>by rw [ú.1 h];exact lQ,Qd0 _ _⟩ λt a=>?_;rw [comb_inB 1 _ _ a];simp [ĥ,ð]
def BA (fs F:List (L3×Sp)):Prop:=∀{V:Ó} {p:OA} {n c:Nat},aZ 17 qB V p n fs->(fs=[]->p=none)->À 97 #[.slice p n c] V λr W=>∃q m e,r=.slice q m e/\aZ 17 qB W q m F
def Wu (V:Ó)(n c:Nat)(vs:List Value)(l:List (L3×Sp)):Prop:=GR 17 qB V n c vs l/\(l=[]->c=0)
theorem Wu.le {V V':ut}{l:zA (L3×Sp)}(h:Wu V n c vs l)(g:V.Le V'):Wu V' n c vs l:=⟨h.1.s λ_ _ k=>z_.le k g,h.2⟩
set_option maxHeartbeats 4000000 in
theorem qR {q:OA}{t:Tr}(h:RT V q t)(ha:t.dU Bd)(hs:t.size<4000)(hD:(aK t.cJ).length<=50)(hc:∀l∈aK t.cJ,∃P P',OY l P t/\OY (Ö l) P' t)(so:∀i,i<=60->qM i)(sl:Hl t.cJ.length)(cl:JA t.cJ.length){F:zA (L3×Sp)}(hJ:BA (iT t (aK t.cJ)) F):À 36 #[Õ q] V λr W=>∃p n c,r=yD p n c/\aZ 17 qB W p n F:=by
 refine xA V _ λV1 l1=>(JS (h.le l1) ha hs sl cl).s ?_;rintro r V2 l2 ⟨p,n,c,m,rfl,gD,sD⟩;rw [Uf sD] at gD;have b6:=hD;generalize aK t.cJ=D at *;obtain rfl:=gD.len
 have kS:∀l∈D,(jM t l).length<=61/\(jM t (Ö l)).length<=61:=λl O=>by have ⟨P,P',c1,c2⟩:=hc l O;unfold jM;rw [Č,Č];exact ⟨(lA c1).2.2,(lA c2).2.2⟩
 have TM:∀j,(iT t (D.take j)).length<=122*50:=λj=>by
  have:∀E:zA L3,(∀l∈E,l∈D)->(iT t E).length<=122*E.length:=λE hE=>by
   induction E with
   | nil=>exact Ú _
   | cons l E ih=>
    have h1:=ih λx hx=>hE x (ā _ hx);have ⟨f1,f2⟩:=kS l (hE l (ď ..));unfold iT at *;rw [Ę,ï,ï,Ĉ];omega
  have h1:=this (D.take j) λl O=>Qr9 _ _ O;rw [ì] at h1;omega
 refine ⟨p,_,c,rfl,pE (λj z V'=>Wu V' z.1 z.2.1 z.2.2.1 (iT t (D.take j))) (0,0,[],0) σ rfl ⟨GR.nil,λ_=>rfl⟩ ?_⟩;rintro j ⟨z1,z2,vs,z4⟩ V3 l3 J pH K;dsimp only at J K;subst J;dsimp only;rw [ß];refine ⟨λM=>?_,λM eV b1 bk hb=>?_⟩;rotate_left
 ·subst M;rw [Ė] at K;obtain ⟨K,h0⟩:=K;obtain rfl:=K.len;refine (hJ (aZ.bo hb (K.row.le λ_ _ g=>z_.le g b1) φ K.le) λe=>by rw [h0 e];rfl).s ?_;rintro r eW cU ⟨q',m',e',rfl,g⟩;exact ⟨q',m',e',rfl,λ_ gC dI=>⟨q',m',e',rfl,g.le dI λ_ _ g=>z_.le g dI⟩⟩
 have hi:=M;have w:i64.wrap ((j:Int)+1)=((j+1:Nat):Int):=by rw [aq ω];rfl
 rw [w];obtain ⟨ps,Q,R,S,T,U,W,u,v,X,a,b2,a0,a1,a2,a3,a4,a5,a6,a7,a8,Y⟩:=XT (gD.le l3) hi;have O:=ò hi
 have et:iT t (D.take (j+1))=iT t (D.take j)++(jM t D[j]++jM t (Ö D[j])):=by unfold iT;rw [ĳ,ô hi];show List.flatMap _ (_++[D[j]])=_;rw [Qn5,Ę,Ww3,ý]
 have ⟨P,P',c1,c2⟩:=hc _ O;have ⟨f1,f2⟩:=kS _ O;have fj:=TM j;have b3:=TM (j+1);rw [et] at b3;generalize D[j]=L at *;obtain ⟨Y,bl⟩:=Y;have Y:vF V3 _ L:=Y;refine ⟨ps,Ź,Q,R,S,T,U,W,u,v,X,a,b2,a0,a1,a2,a3,a4,a5,a6,a7,a8,λV4 l4=>(lk (Y.le l4) bl.eO).s ?_⟩;rintro r V5 l5 gr;have Jt:vF V5 r (Ö L):=gr;obtain ⟨s1,s2,s3,s4,s5,s6,s7,s8,s9,rfl,-,-,-⟩:=gr;refine ⟨s1,s2,s3,s4,s5,s6,s7,s8,s9,rfl,pE (λi z V'=>z.2.2.2.2=[Ô .i64 Q,Ô .i64 R,Õ S,Ô .i64 T,Ô .i64 U,Õ W,Ô .i64 u,Ô .i64 v,Õ X,Ô .i64 s1,Ô .i64 s2,Õ s3,Ô .i64 s4,Ô .i64 s5,Õ s6,Ô .i64 s7,Ô .i64 s8,Õ s9]/\V5.Le V'/\Wu V' z.1 z.2.1 z.2.2.1 (iT t (D.take j)++([L,Ö L].take i).flatMap (jM t))) (z1,z2,vs,0,_) σ rfl ⟨rfl,Ó.Le.refl _,by show Wu V5 z1 z2 vs (_++[]);rw [ý];exact K.le au⟩ ?_⟩;rintro i ⟨u1,u2,us,u4,lits⟩ V6 l6 J NF ⟨Z,Sv,Xv⟩;dsimp only at J Z Xv;subst J Z;dsimp only;rw [ß];refine ⟨λo=>?_,λo=>?_⟩;rotate_left
 ·subst o;have e:([L,Ö L].take 2).flatMap (jM t)=jM t L++jM t (Ö L):=by{show jM t L++(jM t (Ö L)++[])=_;rw [ý]};rw [e,<-et] at Xv;exact ⟨(u1,u2,us,((j+1:Nat):Int)),ω,σ,j+1,rfl,hi,Xv⟩
 have o:(i:Int)<_:=Int.ofNat_lt.2 o;have wi:i64.wrap ((i:Int)+1)=((i+1:Nat):Int):=by rw [aq ω];rfl
 have b4:∃(y Wr:Int)(A:OA)(B C:Int)(G:OA)(VV VW:Int)(H:OA)(d:L3),((0+i*9)+9<=([Ô .i64 Q,Ô .i64 R,Õ S,Ô .i64 T,Ô .i64 U,Õ W,Ô .i64 u,Ô .i64 v,Õ X,Ô .i64 s1,Ô .i64 s2,Õ s3,Ô .i64 s4,Ô .i64 s5,Õ s6,Ô .i64 s7,Ô .i64 s8,Õ s9]:zA un).length/\(([Ô .i64 Q,Ô .i64 R,Õ S,Ô .i64 T,Ô .i64 U,Õ W,Ô .i64 u,Ô .i64 v,Õ X,Ô .i64 s1,Ô .i64 s2,Õ s3,Ô .i64 s4,Ô .i64 s5,Õ s6,Ô .i64 s7,Ô .i64 s8,Õ s9]:zA un).drop (0+i*9)).take 9=[Ô .i64 y,Ô .i64 Wr,Õ A,Ô .i64 B,Ô .i64 C,Õ G,Ô .i64 VV,Ô .i64 VW,Õ H]) /\
   vF V6 (dB #[Ô .i64 y,Ô .i64 Wr,Õ A,Ô .i64 B,Ô .i64 C,Õ G,Ô .i64 VV,Ô .i64 VW,Õ H]) d/\Bd d/\(∃P,OY d P t)/\([L,Ö L].take (i+1)).flatMap (jM t)=([L,Ö L].take i).flatMap (jM t)++jM t d/\(([L,Ö L].take i).flatMap (jM t)).length<=61:=by
  rcases (show i=0\/i=1 by omega) with rfl|rfl
  ·exact ⟨Q,R,S,T,U,W,u,v,X,L,⟨by show 0+0*9+9<=18;omega,rfl⟩,Y.le au,bl,⟨P,c1⟩,by show jM t L++[]=[]++jM t L;rw [ý];rfl,å _⟩
  ·exact ⟨s1,s2,s3,s4,s5,s6,s7,s8,s9,Ö L,⟨by show 0+1*9+9<=18;omega,rfl⟩,Jt.le Sv,bl.rev,⟨P',c2⟩,by show jM t L++(jM t (Ö L)++[])=(jM t L++[])++jM t (Ö L);rw [ý,ý],by show (jM t L++[]).length<=61;rw [ý];exact f1⟩
 obtain ⟨y,Wr,A,B,C,G,VV,VW,H,d,a9,gL,bL,⟨PL,cL⟩,eT,fT⟩:=b4;refine ⟨Ź,y,Wr,A,B,C,G,VV,VW,H,a9,λV7 l7=>(Tj (h.le au) ha (gL.le l7) bL cL so).s ?_⟩;rintro r V8 l8 ⟨p8,n8,c8,rfl,g8⟩;obtain rfl:=g8.len;have b7:=(lA cL).2.2;refine ⟨p8,_,c8,rfl,pE (λk z V'=>z.2.2.2.2=[Ô .i64 Q,Ô .i64 R,Õ S,Ô .i64 T,Ô .i64 U,Õ W,Ô .i64 u,Ô .i64 v,Õ X,Ô .i64 s1,Ô .i64 s2,Õ s3,Ô .i64 s4,Ô .i64 s5,Õ s6,Ô .i64 s7,Ô .i64 s8,Õ s9]/\V8.Le V'/\Wu V' z.1 z.2.1 z.2.2.1 ((iT t (D.take j)++([L,Ö L].take i).flatMap (jM t))++((qE d t).take k).map λs=>(d,s))) (u1,u2,us,0,_) σ rfl ⟨rfl,Ó.Le.refl _,by show Wu V8 u1 u2 us (_++[]);rw [ý];exact Xv.le au⟩ ?_⟩;rintro k ⟨w1,w2,ws,w4,lits⟩ V9 l9 J b8 ⟨Z,b0,N⟩;dsimp only at J Z N;subst J Z;dsimp only;rw [ß];refine ⟨λI=>?_,λI=>?_⟩;rotate_left
 ·subst I;rw [Ė] at N;refine ⟨(w1,w2,ws,((i+1:Nat):Int),_),ω,by and_intros<;>first|rfl|exact wi,i+1,rfl,ω,rfl,Sv.m au,?_⟩;show Wu V9 w1 w2 ws _;rw [eT,<-Ě];exact N
 have hk:=I;have wk:i64.wrap ((k:Int)+1)=((k+1:Nat):Int):=by rw [aq ω];rfl
 obtain ⟨ad,hd,xs,-,hq,f⟩:=(g8.le b0).at_ k hk;have b5:=hq;obtain ⟨v1,v2,v3,v4,v5,v6,ex,-,-⟩:=hq;have ex:=Æ Array.toList (Value.agg.inj ex);dsimp only at ex;subst ex;have zl:=N.1.len;rw [ï,ï,Č,ì] at zl
 have ek:(((qE d t).take (k+1)).map λs=>(d,s))=(((qE d t).take k).map λs=>(d,s))++[(d,(qE d t)[k])]:=by rw [ĳ,ô hk,œ];rfl
 have rf:qB V9 (dB #[Ô .i64 y,Ô .i64 Wr,Õ A,Ô .i64 B,Ô .i64 C,Õ G,Ô .i64 VV,Ô .i64 VW,Õ H,Ô .i64 v1,Ô .i64 v2,Õ v3,Ô .i64 v4,Ô .i64 v5,Õ v6,gF (qE d t)[k].a,gF (qE d t)[k].b]) (d,(qE d t)[k]):=wwQ ⟨rfl,gL.le au,b5⟩;refine ⟨aW hd,Ź,v1,v2,v3,v4,v5,v6,_,_,ad,hd,f 0 _ rfl,f 1 _ rfl,f 2 _ rfl,f 3 _ rfl,f 4 _ rfl,f 5 _ rfl,f 6 _ rfl,f 7 _ rfl,ω,N.1.le,N.1.cap,rfl,one17,λsp c' h1 h2=>⟨(w1+1,c',_,((k+1:Nat):Int),_),ω,by and_intros<;>first|rfl|exact wk,k+1,rfl,hk,rfl,b0,?_,λe=>?_⟩⟩
 ·show GR 17 qB V9 _ _ _ _;rw [ek,<-Ě];exact N.1.snoc rfl rf φ h1 h2
 ·rw [ek,<-Ě] at e;simp at e
theorem qQ {root:Int}{l:zA Nd}(M:∀x∈l,Bd x.ln)(h:AT V v root l){t:Tr}(N:GU l root=some t)(O:t.depth<=1024)(Z:t.dU Bd)(hs:t.size<4000)(hD:(aK t.cJ).length<=50)(hc:∀l∈aK t.cJ,∃P P',OY l P t/\OY (Ö l) P' t)(so:∀i,i<=60->qM i)(sl:Hl t.cJ.length)(cl:JA t.cJ.length){F:zA (L3×Sp)}(hJ:BA (iT t (aK t.cJ)) F)(kS:F.length<=10000)(sz:∀f∈F,iL 1000000 f.1/\f.2.sz 1000000)(hy:uD V 0 y)(hz:uD V 1 z):À 57 #[v] V λr W=>∃p n c,r=ê #[yD p n c,.nilIface]/\SC W p n F:=by have k:=h;obtain ⟨q,n,c,rfl,-⟩:=h;refine qG V _ λC a=>(qh M (k.le a) (hy.le a) (hz.le a)).s ?_;rintro r V2 D ⟨-,g⟩;obtain ⟨p,rfl,gt⟩:=g t N O;refine ⟨p,.nilIface,rfl,.inl rfl,π,λ_ E m=>(qR (gt.le m) Z hs hD hc so sl cl hJ).s ?_⟩;rintro r G H ⟨o,s,u,rfl,w⟩;refine ⟨o,s,u,rfl,λI b=>(MZ (Yp (w.le b λ_ _ g=>z_.le g b)) kS sz).s ?_⟩;rintro r J K ⟨d,e,j,rfl,A⟩;exact ⟨d,e,j,rfl,λL B=>⟨d,e,j,rfl,A.le B⟩⟩
def Hf:Tr:=.node LL (.leaf true) (.leaf false)
theorem IY:Hf.dU kh:=⟨⟨LL_ok,SB⟩,trivial,trivial⟩
theorem YY:qE LL Hf=[bV]/\qE (Ö LL) Hf=[]:=by have b:=reg_eq (á ([]++[])) (comb_reg ..) ⟨λs h=>(by cases h),List.Pairwise.nil⟩ λt a=>by{rw [comb_inB 1 _ _ a];simp [ĥ,ð]};have c:bh LL true Hf bV=[bV]:=by{unfold Hf;rw [bh,Ä (.inl ⟨rfl,rfl⟩)];rfl};have d:bh LL false Hf bV=[]:=by{unfold Hf;rw [bh,Ã φ,Ä (.inl rfl)];rfl};have e:bh (Ö LL) true Hf bV=[]:=by{unfold Hf;rw [bh,Ã φ,Ä (.inr φ)];rfl};have f:bh (Ö LL) false Hf bV=[bV]:=by{unfold Hf;rw [bh,Ä (.inr ⟨φ,rfl⟩)];rfl};unfold qE;rw [c,d,e,f,b,Gn];refine ⟨?_,?_⟩;{refine reg_eq (á ([bV]++[])) (comb_reg ..) ⟨λs h=>by rw [ú.1 h];exact lQ,Qd0 _ _⟩ λt a=>?_;rw [comb_inB 3 _ _ a];simp [ĥ,ð]};refine reg_eq (á ([]++[bV])) (comb_reg ..) ⟨λs h=>(by cases h),List.Pairwise.nil⟩ λt a=>?_;rw [comb_inB 3 _ _ a];simp [ĥ,ð]
theorem Tu (h:Û LL L=0):OY L [] Hf:=⟨⟨λg=>Å h g,trivial,trivial⟩,List.Pairwise.nil,ψ,λx h=>by cases h⟩
theorem fr_HP:iT Hf (aK Hf.cJ)=[(LL,bV)]:=by have e:aK Hf.cJ=[LL]:=κ;rw [e];unfold iT jM;rw [Ę,YY.1,YY.2];rfl
set_option maxHeartbeats 1000000 in
theorem QI (hj:BA [(LL,bV)] [(LL,bV)])(cl:JA 1)(hy:uD V 0 y)(hz:uD V 1 z):À 14 #[] V λr W=>r=gF true:=by refine DZ V _ λV1 K=>(dN 0 0 ω ω ω).s λr V2 l2 D=>RP.ex D λ_ _ D _ _=>λV3 l3=>(dN 1 0 ω ω ω).s λr V4 l4 E=>RP.ex E λ_ _ E _ _=>λV5 l5=>(HL ra ra).s ?_;rintro r L l6 ⟨l,rfl,m⟩;obtain ⟨b1,u1,v1,w1,b2,u2,v2,w2,b3,u3,v3,w3,rfl⟩:=JE m;refine ⟨_,_,_,_,_,_,_,_,_,_,_,_,_,rfl,λV7 M=>(cT true).s ?_⟩;rintro r N O ⟨pa,rfl,Q⟩;refine ⟨_,rfl,λV9 F=>(cT false).s ?_⟩;rintro r R u ⟨pb,rfl,S⟩;have g:=M.m (O.m (F.m u));refine ⟨_,rfl,λs v T U e2=>(uM (V:=s.ao [T]) (ln:=LL) (x:=.leaf true) (y:=.leaf false) U (RL.le (V:=L) (V':=s.ao _) m λb o h=>(g.m v) b o h) (RW.le (V:=N) (V':=s.ao _) (λb o h=>(F.m au) b o h) Q) (RW.le (V:=R) (V':=s.ao _) (λb o h=>v b o h) S) IY φ).s ?_⟩;rintro r W X ⟨Y,a⟩;have j:=a;clear a;obtain ⟨q,n,c,rfl,-⟩:=id j;have k:s.Le W:=λb o h=>X b o h;refine qyK ⟨rfl,_,_,_,_,_,_,_,_,_,_,_,_,_,_,_,_,Y,λiI w=>?_⟩;have t:=((K.m au).m au).m w;have Z:BA (iT Hf (aK Hf.cJ)) [(LL,bV)]:=by{rw [fr_HP];exact hj};have A:∀l∈aK Hf.cJ,∃P P',OY l P Hf/\OY (Ö l) P' Hf:=λl m=>by{rw [ú.1 m];exact ⟨[],[],Tu κ,Tu κ⟩};refine (qQ (wJ (Ij IY)) (j.le w) (UF (IY.imp λ_ h=>h.1) φ) φ (IY.imp λ_ h=>h.2) φ φ A (λi hi=>IL i) (Vs _) cl Z φ (λf hf=>by rw [ú.1 hf];exact ⟨SB.eO.up ω,DF _,DF _⟩) (hy.le t) (hz.le t)).s ?_;rintro r kK fH ⟨p,n,c,rfl,G⟩;obtain rfl:=G.len;obtain ⟨d,e,xs,⟨c1,c2,c3,c4,c5,c6,c7,c8,c9,d1,d2,d3,d4,d5,d6,d7,d8,d9,d10,d11,d12,d13,d14,d15,d16,d17,ex,gl,-⟩,a⟩:=G.at_ 0 φ;have ex:=Æ Array.toList (Value.agg.inj ex);subst ex;have B:=aW e;have az:d.add 0=d:=by{simp [Addr.add]};have H:ae (some d) 6=some (d.add 6):=rfl;refine ⟨p,1,c,.nilIface,rfl,.inl rfl,λ_=>⟨λ_=>⟨B,⟨φ,φ⟩,by rw [e];rfl,_,_,_,_,_,_,_,_,_,_,_,_,d,by rw [e];show some (d.add 0)=_;rw [az],a 0 _ rfl,a 1 _ rfl,a 2 _ rfl,a 3 _ rfl,a 4 _ rfl,a 5 _ rfl,λke I=>(zz (m.le ((g.m (v.m (k.m (w.m fH)))).m I)) φ φ φ).s ?_⟩,π⟩,π⟩;rintro r kf e_ C;obtain ⟨_,_,_,_,_,_,_,_,_,_,_,_,rfl⟩:=JE C;refine qxJ ⟨rfl,λlu gX=>(EG ra ra φ φ φ).s ?_⟩;rintro r mD gj rfl;have J:=I.m (e_.m (gX.m gj));refine ⟨_,rfl,λ_=>⟨B,⟨φ,φ⟩,by rw [e];rfl,by rw [e];rfl,true,⟨d.add 12,by rw [e,H];show some ((d.add 6).add 6)=_;rw [kH],J.at (a 12 _ rfl)⟩,λ_=>⟨B,⟨φ,φ⟩,by rw [e];rfl,by rw [e];rfl,true,⟨d.add 13,by rw [e,H];show some ((d.add 6).add 7)=_;rw [kH],J.at (a 13 _ rfl)⟩,λnf je=>rfl⟩,π⟩,λh=>by simp at h⟩
theorem CD {fs:zA (L3×Sp)}(D:∀f∈fs,Bd f.1/\f.2.sz 1000000):∀f∈â fs,iL 1000000 f.1/\f.2.sz 1000000:=λf a=>by
 have ⟨m,hm,a⟩:=ė.1 a;obtain ⟨s,b,rfl⟩:=ÿ.1 a;obtain ⟨g,c,rfl⟩:=ÿ.1 (((bZ _).2 _).1 hm);refine ⟨(D g c).1.eO.up ω,W4 φ (λu hu=>?_) (λu hu=>by cases hu) s b⟩;obtain ⟨x,d,rfl⟩:=ÿ.1 hu;exact (D x (ļ.1 d).1).2
theorem PA (h:s.a=false):s.Jw.length=1:=by unfold Sp.Jw;rw [h];rfl
theorem Pp (h:s.b=false):s.H2.length=1:=by unfold Sp.H2;rw [h];rfl
theorem PZ:∀{l:zA Sp},uu l->(∀s∈l,s.a=false)->2*l.length<=fe l+1
 | [],_,_=>å _
 | [s],_,h=>by
  have:=PA (h s (ď ..));rw [tu,ï,Qc5];omega
 | s::z::r,h,u=>by
  have c:=PZ h.tail λx b=>u x (ā _ b);have d:=PA (u s (ď ..));have e:=Pp (h.MG (ď ..)).1;rw [tu,ï,Ĉ];omega
theorem reg_fe:∀{l:zA Sp},uu l->2*l.length<=fe l+2
 | [],_=>å _
 | [s],_=>by rw [Qc5];omega
 | s::z::r,h=>by
  have u:=PZ h.tail λx a=>(h.MG a).2.1;have b:=Pp (h.MG (ď ..)).1;rw [tu,ï,Ĉ];omega
theorem Gm (A:zA Sp):(Ü 1 A []).length<=A.length+1:=by have a:=reg_fe (comb_reg 1 A []);have b:=W3 1 A [];have c:=TL A;have d:fe []=0:=rfl;omega
theorem Cp {α:Type}(p:α->md):∀l:zA α,(l.filter p).length+(l.filter λx=>!p x).length=l.length
 | []=>rfl
 | x::r=>by
  have u:=Cp p r;rw [Ww4,Ww4];cases p x<;>simp<;>omega
theorem K6:∀(L:zA L3)(l:zA (L3×Sp)),L.Pairwise rK->(L.map λm=>(ay m l).length).sum<=l.length
 | [],_,_=>å _
 | m::L,l,h=>by
  have ⟨u,D⟩:=ģ.1 h
  have e:(L.map λa=>(ay a l).length)=L.map λa=>(ay a (l.filter λx=>!decide (x.1=m))).length:=by
   refine š λa hm=>?_;unfold ay;rw [List.filter_filter];congr 2;refine List.filter_congr λx _=>?_;by_cases c:x.1=a
   ·have:¬x.1=m:=λe=>wL (show rK m m from by have:=u a hm;rw [<-c,e] at this;exact this);simp [c,this];rw [c] at this;simpa using this
   ·simp [c]
  have b:=K6 L (l.filter λx=>!decide (x.1=m)) D;have f:=Cp (λx:L3×Sp=>decide (x.1=m)) l;rw [Ł,Wk2,e];have g:(ay m l).length=(l.filter λx=>decide (x.1=m)).length:=by unfold ay;rw [Č]
  omega
theorem CL (l:zA L3):(cP l).length<=l.length:=by
 have:∀(l o:zA L3),(l.foldl (λo x=>jt x o) o).length<=o.length+l.length:=by
  intro l
  induction l with
  | nil=>exact λo=>Ú _
  | cons y r u=>intro o;have a:=u (jt y o);have b:=Cy y o;rw [ř,Ĉ];omega
 have:=this l [];simpa [cP] using this
theorem GM (l:zA (L3×Sp)):(â l).length<=2*l.length:=by
 have b:=K6 (cP (l.map Prod.fst)) l (bZ _).1;have a:=CL (l.map Prod.fst);rw [Č] at a;unfold â;generalize cP (l.map Prod.fst)=L at *
 have c:(L.flatMap λm=>(Ü 1 (ay m l) []).map λs=>(m,s)).length<=(L.map λm=>(ay m l).length).sum+L.length:=by
  clear b a
  induction L with
  | nil=>exact Ú _
  | cons m r u=>
   have:=Gm (ay m l);rw [Ę,ï,Č,Ł,Wk2,Ĉ];omega
 omega
theorem Kc {A:zA Sp}(h:uu A):Ü 1 A []=A:=by refine reg_eq (á (A++[])) (comb_reg ..) h λt a=>?_;rw [comb_inB 1 _ _ a,inB_nil];unfold ĥ;simp
theorem Dv (C:L3->zA Sp)(m:L3):∀L:zA L3,L.Pairwise rK->ay m (L.flatMap λu=>(C u).map λs=>(u,s))=if m∈L then C m else []
 | [],_=>rfl
 | k::L,h=>by
  have ⟨D,E⟩:=ģ.1 h
  have b:ay m ((k::L).flatMap λu=>(C u).map λs=>(u,s))=ay m ((C k).map λs=>(k,s))++ay m (L.flatMap λu=>(C u).map λs=>(u,s)):=by
   unfold ay;rw [Ę,Qp2,œ]
  rw [b,(Dv C m L E)];by_cases c:m=k
  ·subst c;rw [Ã λhm=>wL (D m hm),Ä (ď ..),ý];unfold ay;rw [Qs2.2 λx a=>by obtain ⟨s,-,rfl⟩:=ÿ.1 a;exact Ç rfl,Wq2];exact List.map_id _
  ·have e:ay m ((C k).map λs=>(k,s))=[]:=by{unfold ay;rw [Qp0.2 λx a=>by obtain ⟨s,-,rfl⟩:=ÿ.1 a;simp;exact λh=>c h.symm];rfl};rw [e,Ŝ];by_cases d:m∈L;{rw [Ä d,Ä (ā _ d)]};rw [Ã d,Ã λh=>by rcases í.1 h with h|h;exact c h;exact d h]
theorem Bp (h:cq l=true):cq (Ö l)=true:=by unfold cq Ö cj at *;simp only [Ů] at *;simpa using h
end Go.Proofs.Tryz
