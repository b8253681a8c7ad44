import Derived.Test.YtckenacdnbolaaaGreatDoorR17
import Derived.Test.YtckenacdnbolaaaGreatDoorR16
import Derived.Test.YtckenacdnbolaaaGreatDoorR15
import Derived.Test.YtckenacdnbolaaaGreatDoorR8
import Derived.Test.YtckenacdnbolaaaGreatDoorR5
import Derived.Test.YtckenacdnbolaaaGreatDoorR11
set_option linter.all false
open Go.IntKind (i64 u64 u32)
namespace Go.Proofs.Tryz
open Go.Eng Go.Big
open Go.Value renaming slice→hF,bool→qvQ,pointer→qvW,tuple→qvZ,int→qvK
variable{l:L3}{p:OA}
def cQ (l:L3):L3:=if l.1<0\/l.1=0/\l.2.1<0 then revL l else l
def Tr.n_:Tr->List L3
 | .leaf _=>[]
 | .node l a b=>l::(a.n_++b.n_)
theorem qM:∀t:Tr,t.n_.length=t.size
 | .leaf _=>rfl
 | .node _ a b=>by simp only [Tr.n_,Qw9,Qq3,qM a,qM b,Tr.size]
theorem Bd.rev (h:Bd l):Bd (revL l):=by
 obtain ⟨a,b,c⟩:=h;unfold Bd revL;simp only [Qd5];exact ⟨a,b,c⟩
theorem Bd.can (h:Bd l):Bd (cQ l):=by
 unfold cQ;split
 ·exact h.rev
 ·exact h
theorem Bd.jf (h:Bd l):lA 1000 l:=⟨h.sz.1,h.sz.2.1,h.sz.2.2⟩
theorem LY:(Oi [((l.1:Rat)).num.sign,((l.2.1:Rat)).num.sign]<0)↔(l.1<0\/l.1=0/\l.2.1<0):=by
 rw [Qd9,Qd9];simp only [Oi]
 rcases Qg5 l.1 0 with h|h|h<;>rcases Qg5 l.2.1 0 with h'|h'|h' <;>
  simp [Qm7,Qf0,h,h']<;>omega
theorem Hj {V:ut}{v:un}{l:L3}(h:nF V v l):aa prog 172 #[v] V λr V'=>∃w b,r=qvZ #[w,qvQ b]/\nF V' w (cQ l):=by
 have e:=h;obtain ⟨⟨B,C,p,D,E,q,F,G,r,rfl,n,o,H⟩,hb⟩:=h;obtain ⟨s1,s2,s3⟩:=hb.sz;refine xZ V _ λI a=>(pC (n.le a) s1).s ?_;rintro r V2 f rfl;refine ⟨_,rfl,λK j=>(pC (o.le (a.m (f.m j))) s2).s ?_⟩;rintro r M s rfl;refine ⟨_,rfl,λN t O c=>(Hi (l:=[((l.1:Rat)).num.sign,((l.2.1:Rat)).num.sign]) rfl (λi v u=>⟨_,rfl,by rw [add_zero'];exact dF (xs:=Uh [((l.1:Rat)).num.sign,((l.2.1:Rat)).num.sign]) c u⟩) (by simp)).s ?_⟩;rintro r P x rfl;have k:=a.m (f.m (j.m (s.m (t.m x))));refine ⟨_,rfl,λJ=>⟨λhc Q y=>(kq (L:=l) ((e.le (k.m y)).1) hb.jf (by decide)).s ?_,λhc R d=>?_⟩⟩
 ·have hc:=LY.1 (of_decide_eq_true hc);rintro r z S g;have m:nF z r (revL l):=⟨g,hb.rev⟩;obtain ⟨_,_,_,_,_,_,_,_,_,rfl⟩:=m.shape;refine qyJ ⟨rfl,λT A=>⟨_,_,rfl,?_⟩⟩;unfold cQ;rw [if_pos hc];exact m.le A
 ·have hc:=of_decide_eq_false hc;refine ⟨_,_,rfl,?_⟩;unfold cQ;rw [if_neg λh=>hc (LY.2 h)];exact e.le (k.m d)
theorem one9 {a b:Int}{c d:Int}{q:OA}{e f:Int}{r:OA}:∀v∈([qvK .i64 a,qvK .i64 b,qvW p,qvK .i64 c,qvK .i64 d,qvW q,qvK .i64 e,qvK .i64 f,qvW r]:pz un),v.oneCell'=true:=by
 intro v hm;simp only [Qq6,Qy0,or_false] at hm;rcases hm with rfl|rfl|rfl|rfl|rfl|rfl|rfl|rfl|rfl<;>rfl
def SI:Tr->List L3
 | .leaf _=>[]
 | .node l _ _=>[cQ l]
theorem Fa {V:ut}{t:Tr}{ob lb n c:Nat}{vs:pz un}{l:pz L3}(h:RT V p t)(ha:t.eU Bd)(hw:V.w.heap[ob]?=some (.cells #[hF (mA lb c) n c] 218 (0,0)))(hx:V.X ob)
  (hv:vs≠[]->V.w.heap[lb]?=some (.cells vs.toArray 92 (0,0)))(hxv:vs≠[]->V.X lb)(hne:vs≠[]->ob≠lb)(hg:GR 9 nF V n c vs l)(hp:vs≠[]->0<n)(hn:n<=1000000:=by omega) :
  aa prog 171 #[qvW p,qvW (some ⟨ob,0,none⟩)] V λr V'=>∃(bm:Nat)(vm:pz un)(n' c':Nat),(vm≠[]->V'.w.heap[bm]?=some (.cells vm.toArray 92 (0,0)))/\(vm≠[]->V.w.heap.size<=bm\/(vs≠[]/\bm=lb))/\r=qvZ #[] /\
   V'.w.heap[ob]?=some (.cells #[hF (mA bm c') n' c'] 218 (0,0))/\GR 9 nF (V'.bg (vm≠[]) bm) n' c' vm (l++SI t)/\(vm≠[]->0<n'):=by
 refine wm p ob lb n c vs V _ hw hx hv hxv hne λT e=>(dR (h.le e)).s ?_;rintro r V2 f rfl;have y:∀{A B:Prop},A\/B\/False->A\/B:=λh=>h.imp id λh=>h.elim id False.elim;refine ⟨_,rfl,λk=>?_,λk U m hle o q s=>⟨m,vs,n,c,q,λh=>y (s h),rfl,o,?_,hp⟩⟩
 ·cases t with
  | leaf i=>cases k
  | node ln a b=>
   obtain ⟨z,E,F,G,H,I,J,K,L,M,pl,N,i,rfl,hb,u,-,-⟩:=h.le (e.m f)
   have d:∀j v,([qvK .i64 E,qvK .i64 F,qvW G,qvK .i64 H,qvK .i64 I,qvW J,qvK .i64 K,qvK .i64 L,qvW M,qvW pl,qvW N,qvQ i]:pz un)[j]?=some v->V2.at ((⟨z,0,none⟩:Addr).add j) v:=by
    intro j v hv;rw [add_zero'];exact dF (xs:=[_,_,_,_,_,_,_,_,_,_,_,_]) hb hv
   refine ⟨rfl,rfl,_,_,_,_,_,_,_,_,_,⟨z,0,none⟩,rfl,d 0 _ rfl,d 1 _ rfl,d 2 _ rfl,d 3 _ rfl,d 4 _ rfl,d 5 _ rfl,d 6 _ rfl,d 7 _ rfl,d 8 _ rfl,λW C=>(Hj (l:=ln) ⟨u.le C,ha.1⟩).s ?_⟩;rintro r O P ⟨w,b,rfl,D⟩;have x:=D;obtain ⟨_,_,_,_,_,_,_,_,_,rfl⟩:=D.shape;refine ⟨_,_,_,_,_,_,_,_,_,_,rfl,by omega,hg.le,hg.cap,rfl,one9,λsp c' Q R Y m hle o q s=>⟨m,_,n+1,c',q,λh=>y (s h),rfl,o,?_,λ_=>Nat.succ_pos n⟩⟩;have S:=e.m (f.m (C.m P));exact ((hg.s (V':=O) λ_ _ g=>nF.le g S).snoc rfl x (by decide) Q R).s λ_ _ g=>nF.le g hle
 ·cases t with
  | node ln a b=>cases k
  | leaf i=>
   show GR 9 nF _ n c vs (l++[]);rw [Qx3];exact hg.s λ_ _ g=>nF.le g ((e.m f).m hle)
def Ut:List Tr->List L3
 | []=>[]
 | t::r=>t.n_.map cQ++Ut r
theorem QT (ts:pz Tr)(x:Tr):Ut (ts++[x]).reverse=x.n_.map cQ++Ut ts.reverse:=by
 rw [List.reverse_append];rfl
theorem vC {V:ut}{t:Tr}{ob lb:Nat}(h:RT V p t)(ha:t.eU Bd)(hs:t.size<=400000)(hw:V.w.heap[ob]?=some (.cells #[hF (mA lb 0) 0 0] 218 (0,0)))(hx:V.X ob) :
  aa prog 170 #[qvW p,.func (.func 171) #[] #[qvW (some ⟨ob,0,none⟩)]] V λr V'=>∃(bm:Nat)(vm:pz un)(n' c':Nat),(vm≠[]->V'.w.heap[bm]?=some (.cells vm.toArray 92 (0,0)))/\(vm≠[]->V.w.heap.size<=bm)/\r=qvZ #[] /\
   V'.w.heap[ob]?=some (.cells #[hF (mA bm c') n' c'] 218 (0,0))/\GR 9 nF (V'.bg (vm≠[]) bm) n' c' vm (t.n_.map cQ)/\(vm≠[]->0<n'):=by
 refine q_ p ob lb 0 0 [] V _ hw hx (λh=>absurd rfl h) (λh=>absurd rfl h) (λh=>absurd rfl h) ⟨λz k V'=>∃(d:pz Tr)(o:pz L3),z.1=d.length/\z.1<=z.2.1/\z.2.1<=z.2.2.1.length/\W4 V' z.2.2.1 d/\(∀x∈d,x.eU Bd)/\GR 9 nF V' z.2.2.2.1 z.2.2.2.2.1 z.2.2.2.2.2 o/\(z.2.2.2.2.2≠[]->0<z.2.2.2.1)/\o++Ut d.reverse=t.n_.map cQ/\k=JN d/\k<=2*t.size+1,
  ⟨(1,1,[qvW p],0,0,[]),2*t.size+1,⟨by (try dsimp only);and_intros<;>first|rfl|trivial|omega,[t],[],rfl,Qq2 _,Qq2 _,?_,λx hx=>by rw [Qq5.1 hx];exact ha,GR.nil,(λh=>absurd rfl h),by simp [Ut],by simp [JN],Qq2 _⟩⟩,?_⟩
 ·intro i x hx
  match i,hx with
  | 0,hx=>cases hx;exact ⟨p,rfl,h⟩
  | n+1,hx=>cases hx
 ·rintro ⟨n,c,vs,n',c',us⟩ m W l1 ⟨d,o,h1,Y,Z,f,F,J,e,K,h6,h7⟩;dsimp only at h1 Y Z f J e ⊢;have a6:=Uy d
  have a7:o.length<=1000000:=by
   have:=congrArg List.length K;rw [Qq3,Qk3,qM] at this;omega
  have gl:=J.len;refine ⟨by trivial,λG=>?_,λG V6 bk hle L M e3=>?_⟩
  ·have G:0<n:=by simpa using G
   have w1:i64.wrap ((n:Int)-1)=((n-1:Nat):Int):=by rw [au (by omega)];omega
   rw [w1];simp only [Qq0,Qk6];have A:n-1<d.length:=by omega
   obtain ⟨q,Q,j⟩:=f (n-1) d[n-1] (Qq1 A)
   have B:d=d.take (n-1)++[d[n-1]]:=by
    rw [Qg8 A,Qb7 (by omega)]
   have s:=F _ (Qq9 A);generalize d[n-1]=x at j B s
   have L:o++(x.n_.map cQ++Ut (d.take (n-1)).reverse)=t.n_.map cQ:=by
    rw [←QT,←B];exact K
   have M:JN d=JN (d.take (n-1))+(2*x.size+1):=by
    conv=>lhs;rw [B]
    rw [AL];simp [JN]
   have H:∀y∈d.take (n-1),y.eU Bd:=λy u=>F y (Qb6 u);refine ⟨⟨by omega,by omega⟩,Y,q,Q,⟨by omega,by omega⟩,λV2 R VN Y6 f1 f2 f3 f4 f5=>(Fa (V:=V2.ar [VN,vb us V2.w.heap.size Y6]) (lb:=Y6) (l:=o) (RT.le (V:=W) (V':=V2.ar _) (λb o h=>R b o h) j) s f1 ⟨by simp,f2⟩ f3 (λh=>⟨by simp [rM h],f4 h⟩) f5 (J.s (V':=V2.ar _) λ_ _ g=>nF.le g λb o h=>R b o h) e).s ?_⟩;rintro r V3 l3 ⟨bm,vm,N,O,a1,a2,rfl,a3,a4,a5⟩;refine ⟨bm,vm,a1,a2,rfl,N,O,a3,λV4 l4=>?_⟩;have ij:V2.Le V3:=λb o h=>l3 b o h;have S:V2.Le (V3.shut.bg (vm≠[]) bm):=Av (V':=V2) ij (View.Le.refl V2) λh=>(a2 h).imp id λh'=>by rw [h'.2];exact f4 h'.1
   have D:W.Le V4:=R.m (S.m l4);refine (dR (j.le D)).s ?_;rintro r V5 E rfl;have g5:GR 9 nF V5 N O vm (o++SI x):=a4.s λ_ _ g=>nF.le g λb o h=>E b o (l4 b o h);refine ⟨_,rfl,λC=>?_,λC=>?_⟩
   ·have C:x.pR=false:=by simpa using C
    cases x with
    | leaf i=>cases C
    | node ln a b=>
     obtain ⟨bb,x1,x2,x3,y1,y2,y3,z1,z2,z3,pl,pr,i,rfl,hb,hl,T,U⟩:=j;have I:=(D.m E) _ _ hb;simp only [Tr.size] at M;refine ⟨rfl,rfl,pr,F9 I 10 rfl,rfl,rfl,pl,F9 I 9 rfl,by omega,by omega,by omega,rfl,by intro v hv;simp at hv;rcases hv with rfl|rfl<;>rfl,λsp c' k1 k2=>?_⟩;refine ⟨(n-1+2,c',_,N,O,vm),JN (d.take (n-1))+(2*a.size+1)+(2*b.size+1),by omega,⟨by (try dsimp only);and_intros<;>first|rfl|trivial,d.take (n-1)++[b,a],o++SI (.node ln a b),?_,k1,?_,(f.le (D.m E)).UQ (by omega) (by omega) (U.le (D.m E)) (T.le (D.m E)),λy u=>?_,g5,a5,?_,?_,by omega⟩⟩
     ·simp;omega
     ·dsimp only;simp only [Qq3,Qq7,Qw9,Qj6];omega
     ·rcases Qw3.1 u with u|u
      ·exact H y u
      ·simp only [Qq6,Qy0,or_false] at u;rcases u with rfl|rfl
       ·exact s.2.2
       ·exact s.2.1
     ·rw [←L]
      have:Ut (d.take (n-1)++[b,a]).reverse=a.n_.map cQ++(b.n_.map cQ++Ut (d.take (n-1)).reverse):=by
       rw [List.reverse_append];rfl
      rw [this];simp only [Tr.n_,SI,Qn3,Qh8,Qy6,Qc8,Qn0]
     ·rw [AL];simp [JN];omega
   ·have C:x.pR=true:=by simpa using C
    cases x with
    | node ln a b=>cases C
    | leaf i=>
     simp only [Tr.size] at M;refine ⟨(n-1,c,vs,N,O,vm),JN (d.take (n-1)),by omega,⟨by (try dsimp only);and_intros<;>first|rfl|trivial,d.take (n-1),o,?_,by dsimp only;omega,Z,λi t P=>?_,H,by simpa [SI] using g5,a5,by simpa [Tr.n_] using L,rfl,by omega⟩⟩
     ·simp;omega
     ·rw [Qy3] at P;split at P
      ·exact (f.le (D.m E)) i t P
      ·cases P
  ·have G:n=0:=by simpa using G
   have:d=[]:=Qw5.1 (by omega);subst this;simp only [List.reverse_nil,Ut,Qx3] at K;rw [←K];refine ⟨bk,us,n',c',M,λh=>?_,rfl,L,J.s λ_ _ g=>nF.le g hle,e⟩;rcases e3 h with h|h|h
   ·exact h
   ·exact absurd rfl h.1
   ·exact h.elim
def WI (l m:List L3):Prop:=m.Perm l/\m.Pairwise λx y=>¬S3 y x<0
theorem Hg {V:ut}{t:Tr}(h:RT V p t)(ha:t.eU Bd)(hs:t.size<50)(sl:EU t.n_.length)(cl:LN t.n_.length) :
  aa prog 124 #[qvW p] V λr V'=>∃q n c m,r=hF q n c/\bI 9 nF V' q n (CL eL m)/\WI (t.n_.map cQ) m:=by
 refine BA V _ ⟨λz _=>z=(0,0,[]),⟨(0,0,[]),by and_intros<;>rfl,rfl⟩,?_⟩;rintro z V1 L rfl;dsimp only;refine ⟨rfl,λV2 M N D O P g3 g4 g5=>(vC (V:=V2.ar [N,vb [] V2.w.heap.size D]) (lb:=D) (RT.le (V:=V) (V':=V2.ar _) (λb o h=>M b o (L b o h)) h) ha (by omega) O ⟨by simp,P⟩).s ?_⟩;rintro r V3 l3 ⟨Q,v,n,c,R,S,rfl,T,x,U⟩;refine ⟨Q,v,R,λh=>.inl (S h),rfl,n,c,T,λk=>?_,λk y W E F G=>?_⟩
 ·subst k;have hc:=x.cap;have hle:=x.le;have hlen:=x.len;have X:c=0:=by simp at hc;omega
  subst X;have Y:n=0:=by omega
  subst Y;have i:t.n_.map cQ=[]:=Qw5.1 hlen.symm;refine ⟨rfl,λV4 l4=>xD.s ?_⟩;rintro r V5 l5 rfl;refine ⟨rfl,λV6 l6 Y6 F G=>(cl.1 (by rw [←Qk3 (f:=cQ),i];rfl)).s ?_⟩;rintro r V7 l7 rfl;refine ⟨0,[],λh=>absurd rfl h,λh=>absurd rfl h,none,0,0,rfl,λV8 l8 ZI H=>⟨_,_,_,[],rfl,bI.nil,?_⟩⟩;rw [i];exact ⟨.refl _,List.Pairwise.nil⟩
 ·have a:GR 9 nF y n c v (t.n_.map cQ):=x.s λ_ _ g=>nF.le g λb o h=>W b o h;have hlen:=a.len;have A:(t.n_.map cQ).length<50:=by rw [Qk3,qM];exact hs
  have I:=a.cap;have hle:=a.le;have Z:=U k;have B:c≠0:=by omega
  have C:∀b,mA b c=some ⟨b,0,none⟩:=λb=>by unfold mA;rw [if_neg B]
  rw [C];refine (sl (V:=y.ar [vb v y.w.heap.size E]) (lb:=E) (vs:=v) (l:=t.n_.map cQ) (Qk3 ..) (F k) ⟨by simp [rM k],G k⟩ ⟨a.row.le λ_ _ g=>nF.le g λb o h=>h,hlen,A⟩).s ?_;rintro r fQ a6 ⟨rfl,d,m,H,J,pm,pw⟩;have j:=pm.length_eq
  have s:d≠[]:=λe=>by
   have:=J.row.jR (by decide);rw [e,j,←hlen] at this;simp at this;omega
  refine ⟨rfl,k,d,s,H,λK bq u f1 f2=>?_⟩;rw [C];refine aa.monoB (cl.2 (V:=K.ar [vb d K.w.heap.size u]) (lb:=u) (vs:=d) (l:=m) (j.m (Qk3 ..)) (f1 s) ⟨by simp [rM s],f2 s⟩ (J.le λb o h=>bq b o h) hle) ?_;rintro r gS bS hH ⟨ws,rfl,e4,row,wl⟩;have hk:=PN (e:=eL) (l:=m);refine ⟨u,ws,λ_=>e4,λ_=>.inr ⟨s,rfl⟩,some ⟨u,0,none⟩,(CL eL m).length,c,by rw [C],λj7 bU Ng f3=>⟨_,_,_,m,rfl,?_,pm,pw⟩⟩;exact bI.bJ f3 (row.le λ_ _ g=>nF.le g ((QM λ_=>hH u (f2 s)).m bU)) (by decide)
end Go.Proofs.Tryz
namespace Go.Proofs.Tryz.aw
open Go.Eng Go.Big
variable{q:Rat}
def nv (l:L3)(v:V2):Rat:=(l.1:Rat)*v.1+(l.2.1:Rat)*v.2
def aN (l:L3):V2:=((l.2.1:Rat),-(l.1:Rat))
theorem Rl (l:L3)(v:V2):nv l v=cr (aN l) v:=by unfold nv cr aN;grind
theorem So:q.num.sign=-1↔q<0:=by
 rw [Ww3,←Int.not_le,←Rat.not_le,Wx5]
theorem YO:q.num.sign=1↔q>0:=by
 have h:=@So (-q);grind [Rat.neg_num]
theorem ki:q.num.sign=0↔q=0:=by rw [Qm1,Qv1]
theorem jy (l:L3)(p v:V2)(s:Rat):aq l (p.1+s*v.1) (p.2+s*v.2)=aq l p.1 p.2+s*nv l v:=by unfold aq nv;grind
def FP (p v:V2)(s:Rat)(l:L3):Rat:=
 if nv l v=0\/aq l p.1 p.2=0 then s
 else if -(aq l p.1 p.2*(nv l v)⁻¹)>0/\-(aq l p.1 p.2*(nv l v)⁻¹)*(1 / 2)<s then -(aq l p.1 p.2*(nv l v)⁻¹)*(1 / 2) else s
theorem inv_mul {c:Rat}(h:c≠0)(a:Rat):a*c⁻¹*c=a:=by rw [Rat.mul_assoc,Rat.inv_mul_cancel _ h,Rat.mul_one]
def half (u:V2):Int:=if u.2.num.sign>0\/u.2.num.sign=0/\u.1.num.sign>0 then 1 else if u.2.num.sign<0\/u.1.num.sign<0 then 2 else 0
def kn (u v:V2):Int:=if half u<half v then -1 else if half u>half v then 1 else -(cr u v).num.sign
theorem rK:q.num.sign>0↔q>0:=by
 have:=Wx5 (q:=-q);rw [Qs8] at this;rw [gt_iff_lt,Int.sign_pos_iff];have a:(0<=-q)↔¬q>0:=by constructor<;>intro h<;>grind
 rw [a] at this;by_cases h:q>0
 ·exact ⟨λ_=>h,λ_=>by
   have:¬0<=-q.num:=λg=>this.1 g h;omega⟩
 grind
theorem MM:q.num.sign<0↔q<0:=by
 have:=@rK (-q);grind [Rat.neg_num]
theorem eV (u:V2):half u=1/\up u\/half u=2/\dn u\/half u=0/\u.1=0/\u.2=0:=by
 unfold half up dn;split
 ·rename_i h;rw [rK,rK,ki] at h;exact .inl ⟨rfl,h⟩
 ·rename_i h;rw [rK,rK,ki] at h;split
  ·rename_i a;rw [MM,MM] at a;exact .inr (.inl ⟨rfl,by grind⟩)
  ·rename_i a;rw [MM,MM] at a;exact .inr (.inr ⟨rfl,by grind,by grind⟩)
theorem EY {u v:V2}:kn u v<0↔half u<half v\/half u=half v/\cr u v>0:=by
 have:=@rK (cr u v);unfold kn;grind
theorem G3 {u v:V2}:kn u v=0↔half u=half v/\cr u v=0:=by
 have:=@ki (cr u v);grind [kn]
theorem Pf (u v:V2):kn u v<0\/kn u v=0\/kn v u<0:=by
 rw [EY,G3,EY];grind [Mb]
theorem EX (u v:V2)(h:kn u v<0):¬kn v u<0:=by grind [EY,Mb]
theorem TO {a b d:V2}(hab:half a=half b)(hbd:half b=half d)(h1:cr a b<=0)(h2:cr b d<=0):cr a d<=0:=by
 by_cases h:cr a d<=0
 ·exact h
 exfalso;have c:cr a d>0:=by grind
 have p:=jac2 a d b;rcases eV b with ⟨e,hb⟩|⟨e,hb⟩|⟨e,hb⟩
 ·have g:up a:=by rcases eV a with ⟨f,h⟩|⟨f,h⟩|⟨f,h⟩<;>first|exact h|omega
  have i:up d:=by rcases eV d with ⟨f,h⟩|⟨f,h⟩|⟨f,h⟩<;>first|exact h|omega
  unfold up at g hb i;have m:=mn (show -(cr a b)≥0 by grind) (show d.2≥0 by grind);have n:=mn (show -(cr b d)≥0 by grind) (show a.2≥0 by grind);have o:=mn (show cr a d≥0 by grind) (show b.2≥0 by grind);have j:cr a d*b.2=0:=by grind
  have k:b.2=0:=by rcases Qg7.1 j with h|h<;>grind
  have l:b.1>0:=by grind
  have d2:d.2=0:=by
   by_cases q:d.2>0
   ·have:=mp l q;unfold cr at h2;rw [k] at h2;grind
   ·grind
  have:=mn (show a.2≥0 by grind) (show d.1≥0 by grind);unfold cr at c;rw [d2] at c;grind
 ·have g:dn a:=by rcases eV a with ⟨f,h⟩|⟨f,h⟩|⟨f,h⟩<;>first|exact h|omega
  have i:dn d:=by rcases eV d with ⟨f,h⟩|⟨f,h⟩|⟨f,h⟩<;>first|exact h|omega
  unfold dn at g hb i;have m:=mn (show -(cr a b)≥0 by grind) (show -d.2≥0 by grind);have n:=mn (show -(cr b d)≥0 by grind) (show -a.2≥0 by grind);have o:=mn (show cr a d≥0 by grind) (show -b.2≥0 by grind);have j:cr a d*b.2=0:=by grind
  have k:b.2=0:=by rcases Qg7.1 j with h|h<;>grind
  have l:-b.1>0:=by grind
  have d2:d.2=0:=by
   by_cases q:-d.2>0
   ·have:=mp l q;unfold cr at h2;rw [k] at h2;grind
   ·grind
  have:=mn (show -a.2≥0 by grind) (show -d.1≥0 by grind);unfold cr at c;rw [d2] at c;grind
 grind [eV]
theorem W9 {u v:V2}:¬kn u v<0↔half v<half u\/half u=half v/\cr u v<=0:=by
 rw [EY];grind
theorem W_ (a b d:V2)(h:¬kn a b<0)(h':¬kn b d<0):¬kn a d<0:=by
 rw [W9] at *;grind [TO]
theorem Ph {u v:V2}(hu:nz u)(h:kn u v=0):∃c:Rat,c>0/\u=(c*v.1,c*v.2):=by
 rw [G3] at h;obtain ⟨e,c⟩:=h;have fin:∀k:Rat,k>0->u.1=k*v.1->u.2=k*v.2->∃c:Rat,c>0/\u=(c*v.1,c*v.2):=λk a b g=>⟨k,a,Prod.ext b g⟩
 have pos:∀x y:Rat,y≠0->x*y>0->x*y⁻¹>0:=λx y j h=>by
  have e:=inv_mul j x;generalize x*y⁻¹=t at *;have o:t*(y*y)=x*y:=by grind
  have:=sq_pos (u:=(y,0)) (.inl j);unfold dt at this;by_cases q:t>0
  ·exact q
  ·have:=mn (show -t≥0 by grind) (show y*y≥0 by grind);grind
 unfold cr at c
 have two:v.2≠0->u.2*v.2>0->∃c:Rat,c>0/\u=(c*v.1,c*v.2):=λa b=>by
  refine fin (u.2*v.2⁻¹) (pos _ _ a b) ?_ (inv_mul a _).symm;grind
 have one:v.1≠0->u.1*v.1>0->v.2=0->u.2=0->∃c:Rat,c>0/\u=(c*v.1,c*v.2):=λa b g m=>
  fin (u.1*v.1⁻¹) (pos _ _ a b) (inv_mul a _).symm (by rw [g,m];grind)
 rcases eV u with ⟨l,h⟩|⟨l,h⟩|⟨l,h⟩
 ·have i:up v:=by rcases eV v with ⟨d,h⟩|⟨d,h⟩|⟨d,h⟩<;>first|exact h|omega
  unfold up at h i;by_cases q:v.2>0
  ·refine two (by grind) ?_;by_cases f:u.2>0
   ·exact mp f q
   grind
  ·have v2:v.2=0:=by grind
   have v1:v.1>0:=by grind
   by_cases f:u.2>0
   ·have:=mp f v1;rw [v2] at c;grind
   ·exact one (by grind) (mp (by grind) v1) v2 (by grind)
 ·have i:dn v:=by rcases eV v with ⟨d,h⟩|⟨d,h⟩|⟨d,h⟩<;>first|exact h|omega
  unfold dn at h i;by_cases q:v.2<0
  ·refine two (by grind) ?_;by_cases f:u.2<0
   ·have:=mp (show -u.2>0 by grind) (show -v.2>0 by grind);grind
   ·have n:u.2=0:=by grind
    rw [n] at c;grind
  ·have v2:v.2=0:=by grind
   have v1:-v.1>0:=by grind
   by_cases f:u.2<0
   ·have:=mp (show -u.2>0 by grind) v1;rw [v2] at c;grind
   ·refine one (by grind) ?_ v2 (by grind);have:=mp (show -u.1>0 by grind) v1;grind
 ·unfold nz at hu;grind
theorem yE {a b c x y z:Int}(h1:a*y=b*x)(h2:a*z=c*x)(g:Nat.gcd (Nat.gcd x.natAbs y.natAbs) z.natAbs=1):x.natAbs∣a.natAbs:=by
 have d:a.natAbs*y.natAbs=b.natAbs*x.natAbs:=by rw [←Qv3,←Qv3,h1]
 have e:a.natAbs*z.natAbs=c.natAbs*x.natAbs:=by rw [←Qv3,←Qv3,h2]
 have d1:x.natAbs∣a.natAbs*Nat.gcd (Nat.gcd x.natAbs y.natAbs) z.natAbs:=by
  rw [←Nat.gcd_mul_left,←Nat.gcd_mul_left];exact Nat.dvd_gcd (Nat.dvd_gcd ⟨a.natAbs,by rw [Qv4]⟩ ⟨b.natAbs,by rw [d,Qv4]⟩) ⟨c.natAbs,by rw [e,Qv4]⟩
 rwa [g,Qk6] at d1
theorem OB {l m:L3}(ol:cX l=true)(om:cX m=true)(cl:cQ l=l)(cm:cQ m=m){x y:Rat}(hl:aq l x y=0)(hm:aq m x y=0)
  (hc:cr (aN l) (aN m)=0):l=m:=by
 unfold cX at ol om;rw [Qw7,decide_eq_true_iff,decide_eq_true_iff] at ol om
 have d:l.1*m.2.1=l.2.1*m.1:=by
  unfold cr aN at hc;have:(l.1:Rat)*(m.2.1:Rat)=(l.2.1:Rat)*(m.1:Rat):=by grind
  exact_mod_cast this
 unfold aq at hl hm;have o:(l.1:Rat)*(m.2.1:Rat)=(l.2.1:Rat)*(m.1:Rat):=by exact_mod_cast d
 have e:l.1*m.2.2=l.2.2*m.1:=by
  have:(l.1:Rat)*(m.2.2:Rat)=(l.2.2:Rat)*(m.1:Rat):=by grind
  exact_mod_cast this
 have f:l.2.1*m.2.2=l.2.2*m.2.1:=by
  have:(l.2.1:Rat)*(m.2.2:Rat)=(l.2.2:Rat)*(m.2.1:Rat):=by grind
  exact_mod_cast this
 obtain ⟨p,g⟩:=ol;obtain ⟨q,i⟩:=om;have j:Nat.gcd (Nat.gcd l.2.1.natAbs l.1.natAbs) l.2.2.natAbs=1:=by rw [Qd4 l.2.1.natAbs];exact g
 have k:Nat.gcd (Nat.gcd m.2.1.natAbs m.1.natAbs) m.2.2.natAbs=1:=by rw [Qd4 m.2.1.natAbs];exact i
 have s:l.1.natAbs=m.1.natAbs:=Nat.dvd_antisymm (yE (a:=m.1) (b:=m.2.1) (c:=m.2.2) (by rw [Qh0,←d,Qh0]) (by rw [Qh0,←e,Qh0]) g) (yE d e i);have t:l.2.1.natAbs=m.2.1.natAbs:=Nat.dvd_antisymm (yE (a:=m.2.1) (b:=m.1) (c:=m.2.2) (by rw [Qh0,d,Qh0]) (by rw [Qh0,←f,Qh0]) j) (yE (b:=l.1) (c:=l.2.2) d.symm f k)
 have sl:¬(l.1<0\/l.1=0/\l.2.1<0):=λh=>by
  unfold cQ at cl;rw [if_pos h] at cl;have n:-l.1=l.1:=congrArg (λx:L3=>x.1) cl;have r:-l.2.1=l.2.1:=congrArg (λx:L3=>x.2.1) cl;omega
 have sm:¬(m.1<0\/m.1=0/\m.2.1<0):=λh=>by
  unfold cQ at cm;rw [if_pos h] at cm;have n:-m.1=m.1:=congrArg (λx:L3=>x.1) cm;have r:-m.2.1=m.2.1:=congrArg (λx:L3=>x.2.1) cm;omega
 have n:l.1=m.1:=by omega
 by_cases z:l.1=0
 ·grind [Int.eq_of_mul_eq_mul_left]
 ·grind [Int.eq_of_mul_eq_mul_left,Int.mul_comm]
end Go.Proofs.Tryz.aw
namespace Go.Proofs.Tryz.aw
variable{l:L3}{M:List L3}
def mx (x:Rat×Rat)(t:Rat):Rat:=x.1+t*(x.2-x.1)
theorem KJ {x:Rat×Rat}{t:Rat}(h1:x.1>0)(h2:x.2>0)(t0:t>0)(t1:t<=1):mx x t>0:=by
 have a:=mn (show 1-t≥0 by grind) (show x.1≥0 by grind);have b:=mp t0 h2;unfold mx;grind
theorem Yv {x:Rat×Rat}{t s:Rat}(h1:x.1>0)(hs:mx x s≥0)(s0:s>0)(t0:t>0)(ts:t<=s):mx x t≥0:=by
 unfold mx at *;have a:=mn (show s-t≥0 by grind) (show x.1≥0 by grind);have b:=mn (show t≥0 by grind) hs;by_cases h:x.1+t*(x.2-x.1)≥0
 ·exact h
 ·have:=mp s0 (show -(x.1+t*(x.2-x.1))>0 by grind);grind
theorem y_ {y:Rat×Rat}(h1:y.1>0){s:Rat}(s0:s>0)(hs:mx y s<=0):∃t,t>0/\t<=s/\mx y t=0:=by
 have a:y.1-y.2>0:=by
  by_cases c:y.1-y.2>0
  ·exact c
  ·have:=mn (show s≥0 by grind) (show y.2-y.1≥0 by grind);unfold mx at hs;grind
 have e:=inv_mul (show y.1-y.2≠0 by grind) y.1;have p:=mp h1 (Wy9.2 a);refine ⟨y.1*(y.1-y.2)⁻¹,p,?_,?_⟩
 ·generalize y.1*(y.1-y.2)⁻¹=t at *;by_cases c:t<=s
  ·exact c
  ·have:=mp (show t-s>0 by grind) a;unfold mx at hs;grind
 grind [mx]
theorem Kq:∀(L:pz (Rat×Rat)),(∀x∈L,x.1>0)->(∃x∈L,x.2<=0)->∃t,t>0/\t<=1/\(∀x∈L,mx x t≥0)/\∃x∈L,mx x t=0
 | [],_,h=>by obtain ⟨x,hx,_⟩:=h;cases hx
 | y::L,h0,h=>by
  have j:=h0 y (Qw6 ..);have f:=λx hx=>h0 x (Qq8 y hx);by_cases c:∃x∈L,x.2<=0
  ·have ⟨t,t0,t1,a,x,hx,e⟩:=Kq L f c;by_cases g:mx y t≥0
   ·exact ⟨t,t0,t1,λz b=>by rcases Qq6.1 b with rfl|b;exact g;exact a z b,x,Qq8 _ hx,e⟩
   ·have ⟨s,d,st,es⟩:=y_ j t0 (by grind);exact ⟨s,d,by grind,λz b=>by rcases Qq6.1 b with rfl|b;grind;exact Yv (f z b) (a z b) t0 d st,y,Qw6 ..,es⟩
  ·obtain ⟨x,hx,i⟩:=h
   have:x=y:=by
    rcases Qq6.1 hx with rfl|hx
    ·rfl
    ·exact absurd ⟨x,hx,i⟩ c
   subst this;have ⟨s,d,st,es⟩:=y_ j (s:=1) (by decide) (by unfold mx;grind);refine ⟨s,d,st,λz b=>?_,x,Qw6 ..,es⟩;rcases Qq6.1 b with rfl|b
   ·grind
   ·have:z.2>0:=by
     by_cases q:z.2>0
     ·exact q
     ·exact absurd ⟨z,b,by grind⟩ c
    have:=KJ (f z b) this d st;grind
theorem Gi:∀(L:pz (Rat×Rat)),(∀x∈L,x.1>0)->∃s,s>0/\∀x∈L,x.1+s*x.2>0
 | [],_=>⟨1,by decide,λx h=>by cases h⟩
 | y::L,h0=>by
  have hy:=h0 y (Qw6 ..);have ⟨s,d,h⟩:=Gi L λx f=>h0 x (Qq8 y f);by_cases c:y.1+s*y.2>0
  ·exact ⟨s,d,λz a=>by rcases Qq6.1 a with rfl|a;exact c;exact h z a⟩
  ·have b:-y.2>0:=by
    by_cases q:y.2<0
    ·grind
    ·have:=mn (show s≥0 by grind) (show y.2≥0 by grind);grind
   have e:=inv_mul (show -y.2≠0 by grind) y.1;have p:=mp hy (Wy9.2 b);generalize y.1*(-y.2)⁻¹=r at *
   have i:r<=s:=by
    by_cases q:r<=s
    ·exact q
    ·have:=mp (show r-s>0 by grind) b;grind
   refine ⟨r*(1 / 2),by grind,λz a=>?_⟩;rcases Qq6.1 a with rfl|a
   ·grind
   ·have g:=h0 z (Qq8 _ a);by_cases q:z.2≥0
    ·have:=mn (show r*(1 / 2)≥0 by grind) q;grind
    ·have:=mn (show s-r*(1 / 2)≥0 by grind) (show -z.2≥0 by grind);grind
def pos (M:List L3)(p:V2):Prop:=∀m∈M,aq m p.1 p.2>0
def Es (M:List L3)(l:L3):Prop:=∃p:V2,aq l p.1 p.2=0/\∀m∈M,m≠l->aq m p.1 p.2>0
def Dif (M:List L3):Prop:=∀l∈M,∀m∈M,l≠m->∀p:V2,aq l p.1 p.2=0->aq m p.1 p.2=0->cr (aN l) (aN m)≠0
theorem UO {m:L3}{w:V2}(hw:w.1≠0\/w.2≠0)(h1:nv l w=0)(h2:nv m w=0):cr (aN l) (aN m)=0:=by
 have a:cr (aN l) (aN m)*w.1=0:=by unfold nv at *;unfold cr aN;grind
 have b:cr (aN l) (aN m)*w.2=0:=by unfold nv at *;unfold cr aN;grind
 grind
theorem Ma (u:V2):cr u u=0:=by unfold cr;grind
theorem uQ (m:L3)(q p:V2)(t:Rat):aq m (q.1+t*(p.1-q.1)) (q.2+t*(p.2-q.2))=aq m q.1 q.2+t*(aq m p.1 p.2-aq m q.1 q.2):=by unfold aq;grind
theorem Yx (m:L3)(q p:V2)(t:Rat):nv m (q.1+t*(p.1-q.1),q.2+t*(p.2-q.2))=nv m q+t*(nv m p-nv m q):=by unfold nv;grind
theorem Yy (m:L3)(q x:V2):nv m (q.1-x.1,q.2-x.2)=aq m q.1 q.2-aq m x.1 x.2:=by unfold nv aq;grind
theorem ess (hd:Dif M)(hn:∀m∈M,(aN m).1≠0\/(aN m).2≠0){q p:V2}(hq:pos M q)(hp:∀m∈M,Es M m->aq m p.1 p.2>0):pos M p:=by
 intro D E;by_cases c:aq D p.1 p.2>0
 ·exact c
 exfalso;let f:L3->Rat×Rat:=λm=>(aq m q.1 q.2,aq m p.1 p.2);have ⟨t,t0,t1,ge,x,j,ex⟩:=Kq (M.map f) (λx j=>by obtain ⟨m,hm,rfl⟩:=Qz0.1 j;exact hq m hm) ⟨f D,Qr1 E,by show aq D p.1 p.2<=0;grind⟩;obtain ⟨i,l,rfl⟩:=Qz0.1 j;let X:V2:=(q.1+t*(p.1-q.1),q.2+t*(p.2-q.2));have O:∀m,aq m X.1 X.2=mx (f m) t:=λm=>uQ m q p t;have F:∀m∈M,aq m X.1 X.2≥0:=λm hm=>by rw [O];exact ge _ (Qr1 hm)
 have P:aq i X.1 X.2=0:=by rw [O];exact ex
 let u:V2:=(q.1-X.1,q.2-X.2);have Q:∀m,nv m u=aq m q.1 q.2-aq m X.1 X.2:=λm=>Yy m q X;let Z:=M.filter λm=>decide (aq m X.1 X.2=0);have A:∀m,m∈Z↔m∈M/\aq m X.1 X.2=0:=λm=>by simp [Z,Qb4]
 have G:i∈Z:=(A i).2 ⟨l,P⟩;let d:=aN i;have d0:nv i d=0:=by rw [Rl];exact Ma _
 let g:L3->Rat×Rat:=λm=>(nv m u,nv m d)
 have ⟨k,k0,k1,H,y,S,T⟩:=Kq (Z.map g) (λx j=>by
  obtain ⟨m,hm,rfl⟩:=Qz0.1 j;obtain ⟨I,U⟩:=(A m).1 hm;show nv m u>0;rw [Q,U];have:=hq m I;grind) ⟨g i,Qr1 G,by show nv i d<=0;rw [d0];grind⟩
 obtain ⟨o,J,rfl⟩:=Qz0.1 S;obtain ⟨n,r⟩:=(A o).1 J;let w:V2:=(u.1+k*(d.1-u.1),u.2+k*(d.2-u.2));have K:∀m,nv m w=mx (g m) k:=λm=>Yx m u d k;have R:nv o w=0:=by rw [K];exact T
 have V:w.1≠0\/w.2≠0:=by
  by_cases e:k=1
  ·have:=hn i l;have B:w.1=d.1:=by dsimp only [w];rw [e];grind
   have C:w.2=d.2:=by dsimp only [w];rw [e];grind
   rw [B,C];exact this
  ·have a:nv i w>0:=by
    rw [K];show nv i u+k*(nv i d-nv i u)>0;rw [d0];have:nv i u>0:=by rw [Q,P];have:=hq i l;grind
    have:=mp (show 1-k>0 by grind) this;grind
   by_cases B:w.1=0
   ·by_cases C:w.2=0
    ·unfold nv at a;rw [B,C] at a;grind
    ·exact .inr C
   ·exact .inl B
 have ⟨s,W,Y⟩:=Gi ((M.filter λm=>decide (aq m X.1 X.2>0)).map λm=>(aq m X.1 X.2,nv m w)) (λx j=>by
  obtain ⟨m,hm,rfl⟩:=Qz0.1 j;simpa using (Qb4.1 hm).2)
 have es:Es M o:=by
  refine ⟨(X.1+s*w.1,X.2+s*w.2),?_,λm hm L=>?_⟩
  ·rw [jy,r,R];grind
  ·rw [jy];by_cases z:aq m X.1 X.2=0
   ·have N:=(A m).2 ⟨hm,z⟩;have g0:nv m w≥0:=by rw [K];exact H _ (Qr1 N)
    have ne:nv m w≠0:=λe=>hd o n m hm (λh=>L h.symm) X r z (UO V R e);have:=mp W (show nv m w>0 by grind);rw [z];grind
   ·have gz:=F m hm;have v:(aq m X.1 X.2,nv m w)∈((M.filter λm=>decide (aq m X.1 X.2>0)).map λm=>(aq m X.1 X.2,nv m w)):=Qz0.2 ⟨m,Qb4.2 ⟨hm,by simp;grind⟩,rfl⟩;exact Y _ v
 have a:=hp o n es;have b:=hq o n;grind [KJ]
def Mu (l:L3):V2:=((l.1:Rat),(l.2.1:Rat))
theorem sq_p {x y:Rat}(h:x≠0\/y≠0):x*x+y*y>0:=by
 have p:∀z:Rat,z≠0->z*z>0:=λz a=>by
  by_cases c:z>0
  ·exact mp c c
  ·have:=mp (show -z>0 by grind) (show -z>0 by grind);grind
 have q:∀z:Rat,z*z≥0:=λz=>by
  by_cases c:z≥0
  ·exact mn c c
  ·have:=mn (show -z≥0 by grind) (show -z≥0 by grind);grind
 rcases h with h|h
 ·have:=p x h;have:=q y;grind
 ·have:=p y h;have:=q x;grind
theorem Rm (h:(aN l).1≠0\/(aN l).2≠0):nv l (Mu l)>0:=by
 have:nv l (Mu l)=(l.1:Rat)*(l.1:Rat)+(l.2.1:Rat)*(l.2.1:Rat):=rfl;refine sq_p ?_;rcases h with h|h
 ·exact .inr h
 ·left;intro e;apply h;show -(l.1:Rat)=0;rw [e];grind
theorem Me (hd:Dif M)(hn:∀m∈M,(aN m).1≠0\/(aN m).2≠0){q:V2}(hq:pos M q)(h0:M≠[]):∃l∈M,Es M l:=by
 have ⟨l,a⟩:=List.exists_mem_of_ne_nil M h0;by_cases c:∃l∈M,Es M l
 ·exact c
 exfalso;have d:=Rm (hn l a);have e:=inv_mul (show nv l (Mu l)≠0 by grind) (aq l q.1 q.2);have b:=ess hd hn hq (p:=(q.1+-(aq l q.1 q.2*(nv l (Mu l))⁻¹)*(Mu l).1,q.2+-(aq l q.1 q.2*(nv l (Mu l))⁻¹)*(Mu l).2)) (λm hm he=>absurd ⟨m,hm,he⟩ c) l a;rw [jy] at b;grind
theorem Fv {M:pz L3}(hn:(aN l).1≠0\/(aN l).2≠0){x:V2}(hx:aq l x.1 x.2=0)(h:∀m∈M,m≠l->aq m x.1 x.2>0)(L:pz L3)(hL:∀m∈L,aq m x.1 x.2>0):∃q:V2,pos M q/\aq l q.1 q.2>0/\pos L q:=by
 have c:=Rm hn
 have ⟨s,d,a⟩:=Gi (((M.filter λm=>decide (m≠l))++L).map λm=>(aq m x.1 x.2,nv m (Mu l))) (λy f=>by
  obtain ⟨m,hm,rfl⟩:=Qz0.1 f;rcases Qw3.1 hm with hm|hm
  ·have:=Qb4.1 hm;exact h m this.1 (by simpa using this.2)
  ·exact hL m hm)
 have b:aq l (x.1+s*(Mu l).1) (x.2+s*(Mu l).2)>0:=by rw [jy,hx];have:=mp d c;grind
 refine ⟨(x.1+s*(Mu l).1,x.2+s*(Mu l).2),λm hm=>?_,b,λm hm=>?_⟩
 ·by_cases e:m=l
  ·rw [e];exact b
  ·rw [jy];exact a (aq m x.1 x.2,nv m (Mu l)) (Qz0.2 ⟨m,Qz4 _ (Qb4.2 ⟨hm,by simpa using e⟩),rfl⟩)
 ·rw [jy];exact a (aq m x.1 x.2,nv m (Mu l)) (Qz0.2 ⟨m,Qk7 _ hm,rfl⟩)
theorem Iq (hno:∀x:V2,aq l x.1 x.2=0->¬pos M x){q p:V2}(hq:pos M q)(hp:pos M p):aq l q.1 q.2>0->aq l p.1 p.2>0:=by
 intro h;by_cases c:aq l p.1 p.2>0
 ·exact c
 exfalso;have ⟨t,t0,t1,e⟩:=y_ (y:=(aq l q.1 q.2,aq l p.1 p.2)) h (s:=1) (by decide) (by unfold mx;grind);refine hno (q.1+t*(p.1-q.1),q.2+t*(p.2-q.2)) ?_ λm hm=>?_
 ·rw [uQ];exact e
 ·rw [uQ];exact KJ (x:=(aq m q.1 q.2,aq m p.1 p.2)) (hq m hm) (hp m hm) t0 t1
end Go.Proofs.Tryz.aw
namespace Go.Proofs.Tryz
open Go.Eng Go.Big
variable{l:L3}
theorem um {s u:Sp}{t:Rat}:(s.meet u).inn t↔s.inn t/\u.inn t:=by
 have c:sH s.lo u.lo<t↔s.lo<t/\u.lo<t:=by
  unfold sH;rcases cR u.lo s.lo with ⟨h,e⟩|⟨h,e⟩|⟨h,e⟩<;>rw [e]<;>simp<;>grind
 have d:t<sI s.hi u.hi↔t<s.hi/\t<u.hi:=by
  unfold sI;rcases cR u.hi s.hi with ⟨h,e⟩|⟨h,e⟩|⟨h,e⟩<;>rw [e]<;>simp<;>grind
 unfold Sp.inn Sp.meet;cases s.a<;>cases s.b<;>cases u.a<;>cases u.b<;>simp<;>grind
theorem reg_one {s:Sp}(h:s.good):wb [s]:=⟨λx a=>(show x=s by simpa using a)▸h,by simp⟩
theorem tQ {s u:Sp}(hs:s.can)(hu:u.can):combL 2 [s] [u]=if (s.meet u).emp=true then [] else [s.meet u]:=by
 have key:∀t,inB (combL 2 [s] [u]) t=true->t∉endsL ([s]++[u])->(s.meet u).inn t:=λt h a=>by
  rw [comb_inB _ _ _ a] at h;have h:(inB [s] t&&inB [u] t)=true:=h;rw [Qw7] at h;have e:∀x:Sp,inB [x] t=x.innB t:=λx=>by unfold inB;simp
  grind [innB_iff,um.2]
 refine reg_eq (endsL ([s]++[u])) (comb_reg _ _ _) ?_ λt a=>?_
 ·split
  ·exact ⟨(λ_ h=>by cases h),List.Pairwise.nil⟩
  ·rename_i h;exact reg_one ⟨Sp.AD hs hu,by simpa using h⟩
 ·refine E5 ⟨λh=>?_,λh=>?_⟩
  ·have hk:=key t h a;split
   ·rename_i he;obtain ⟨b,c⟩:=hk;generalize s.meet u=m at he b c;unfold Sp.emp at he;rw [Qw7,Qw7,Qx9,Qx9,decide_eq_true_eq] at he;obtain ⟨⟨d,hb⟩,hc⟩:=he;rw [d] at b;rw [hb] at c;rcases cR m.lo m.hi with ⟨h,e⟩|⟨h,e⟩|⟨h,e⟩<;>grind
   ·exact lT.2 ⟨_,by simp,hk⟩
  ·rw [comb_inB _ _ _ a];show (inB [s] t&&inB [u] t)=true;split at h
   ·cases h
   ·have ⟨x,f,hi⟩:=lT.1 h;obtain rfl:x=s.meet u:=by simpa using f
    have ⟨b,c⟩:=um.1 hi;rw [Qw7];exact ⟨lT.2 ⟨s,by simp,b⟩,lT.2 ⟨u,by simp,c⟩⟩
theorem nG (h:Nz l)(t:Rat):aq l (eK l t) (eN l t)=0/\kX l (eK l t) (eN l t)=t:=by
 have a:=h.norm;unfold aq kX eK eN;unfold gK at *;constructor<;>grind
theorem YT {m:L3}(h:crossL l m≠0):aq l (Zg l m) (Zh l m)=0/\aq m (Zg l m) (Zh l m)=0:=by
 have a:=Qb9 _ h;unfold aq Zg Zh;constructor
 ·have e:(l.1:Rat)*(((l.2.1:Rat)*(m.2.2:Rat)-(l.2.2:Rat)*(m.2.1:Rat))*(crossL l m)⁻¹)+(l.2.1:Rat)*(((l.2.2:Rat)*(m.1:Rat)-(l.1:Rat)*(m.2.2:Rat))*(crossL l m)⁻¹)+(l.2.2:Rat)=(l.2.2:Rat)*(1-crossL l m*(crossL l m)⁻¹):=by
   unfold crossL;grind
  rw [e,a];grind
 ·have e:(m.1:Rat)*(((l.2.1:Rat)*(m.2.2:Rat)-(l.2.2:Rat)*(m.2.1:Rat))*(crossL l m)⁻¹)+(m.2.1:Rat)*(((l.2.2:Rat)*(m.1:Rat)-(l.1:Rat)*(m.2.2:Rat))*(crossL l m)⁻¹)+(m.2.2:Rat)=(m.2.2:Rat)*(1-crossL l m*(crossL l m)⁻¹):=by
   unfold crossL;grind
  rw [e,a];grind
theorem TF (l:L3):cQ (cQ l)=cQ l:=by
 unfold cQ;by_cases h:l.1<0\/l.1=0/\l.2.1<0
 ·rw [if_pos h,if_neg];unfold revL;dsimp only;omega
 ·rw [if_neg h,if_neg h]
theorem Yz (h:cX l=true):cX (cQ l)=true:=by
 unfold cQ;split
 ·unfold cX revL bY at *;grind
 ·exact h
theorem rH (h:cX l=true):¬(l.1=0/\l.2.1=0):=by
 unfold cX at h;rw [Qw7,decide_eq_true_iff] at h;exact h.1
theorem qG {s:Sp}:s.emp=false↔∃t,s.inn t:=by
 constructor
 ·intro h;have ⟨c,d⟩:=Sp.ML h;refine ⟨s.gE,?_,?_⟩
  ·cases ha:s.a
   ·exact .inr (c ha)
   ·exact .inl rfl
  ·cases hb:s.b
   ·exact .inr (d hb)
   ·exact .inl rfl
 ·rintro ⟨t,c,d⟩;grind [Sp.iE]
theorem js {l:L3}{s:Sp}{m:L3} :
  (cH l s m=true->∀t,(bu l s m).inn t↔s.inn t/\0<aq m (eK l t) (eN l t))/\(s.emp=false->cH l s m=false->∀t,s.inn t->¬0<aq m (eK l t) (eN l t)):=by
 have key:dotL m l≠0->∀t,(bu l s m).inn t↔s.inn t/\0<jJ m l+dotL m l*t:=λa t=>by
  unfold bu;rcases dV (dotL m l) with ⟨h,e⟩|⟨h,e⟩|⟨h,e⟩
  ·exact absurd h a
  ·rw [e];show (s.meet ⟨cutP m l,0,false,true⟩).inn t↔_;rw [um];have b:dotL m l*(t-cutP m l)=jJ m l+dotL m l*t:=by unfold cutP;grind
   have:(⟨cutP m l,0,false,true⟩:Sp).inn t↔cutP m l<t:=by unfold Sp.inn;simp
   rw [this,←b];refine and_congr_right λ_=>⟨λd=>Qf9 h (by grind),λd=>?_⟩;by_cases c:cutP m l<t
   ·exact c
   ·have:=Wk9 (show 0<=dotL m l by grind) (show 0<=cutP m l-t by grind);grind
  ·rw [e];show (s.meet ⟨0,cutP m l,true,false⟩).inn t↔_;rw [um];have b:-dotL m l*(cutP m l-t)=jJ m l+dotL m l*t:=by unfold cutP;grind
   have:(⟨0,cutP m l,true,false⟩:Sp).inn t↔t<cutP m l:=by unfold Sp.inn;simp
   rw [this,←b];refine and_congr_right λ_=>⟨λd=>Qf9 (by grind) (by grind),λd=>?_⟩;by_cases c:t<cutP m l
   ·exact c
   ·have:=Wk9 (show 0<=-dotL m l by grind) (show 0<=t-cutP m l by grind);grind
 by_cases a:dotL m l=0
 ·have g:bu l s m=s:=by unfold bu;rw [a];rfl
  have f:cH l s m=decide ((jJ m l).num.sign>0):=by unfold cH;rw [a];rfl
  grind [tj,dV]
 ·have f:cH l s m=!(bu l s m).emp:=by
   unfold cH;grind [dV]
  grind [tj,qG.2]
theorem iD {s:Sp}{m:L3}(hs:s.good)(hb:cH l s m=true):(bu l s m).good:=⟨PW hs.1,PU hs.2 hb⟩
abbrev Sd:=L3×Sp
def xg:List Sd->L3->Sp->Option Sp
 | [],_,v=>some v
 | s::c,l,v=>if cH l v s.1 then xg c l (bu l v s.1) else none
theorem Ez:∀{c:pz Sd} {l:L3} {v w:Sp},v.good->xg c l v=some w->w.good/\∀t,w.inn t↔v.inn t/\∀s∈c,0<aq s.1 (eK l t) (eN l t)
 | [],_,v,w,h,e=>by cases e;exact ⟨h,λt=>⟨λg=>⟨g,λs hs=>by cases hs⟩,λg=>g.1⟩⟩
 | s::c,l,v,w,h,e=>by
  unfold xg at e;split at e
  ·rename_i hb;have ⟨g1,g2⟩:=Ez (iD h hb) e;grind [js.1]
  ·cases e
theorem Ey:∀{c:pz Sd} {l:L3} {v:Sp},v.good->xg c l v=none->∀t,v.inn t->¬∀s∈c,0<aq s.1 (eK l t) (eN l t)
 | [],_,v,h,e=>by cases e
 | s::c,l,v,h,e=>by
  intro t ht hall;unfold xg at e;split at e
  ·rename_i hb;exact Ey (iD h hb) e t ((js.1 hb t).2 ⟨ht,hall s (Qw6 ..)⟩) λu hu=>hall u (Qq8 _ hu)
  ·rename_i hb;exact js.2 h.2 (by simpa using hb) t ht (hall s (Qw6 ..))
theorem Fk (l:L3):cQ l=l\/cQ l=revL l:=by unfold cQ;split;exact .inr rfl;exact .inl rfl
theorem rev_rev (l:L3):revL (revL l)=l:=by unfold revL;simp
theorem Mc (l:L3):aw.aN (revL l)=(-(aw.aN l).1,-(aw.aN l).2):=by unfold aw.aN revL;simp only [Qs2]
theorem FR (h:cX l=true):(aw.aN l).1≠0\/(aw.aN l).2≠0:=by
 unfold aw.aN;by_cases e:l.2.1=0
 ·right;intro a;have:(l.1:Rat)=0:=by grind
  exact rH h ⟨by exact_mod_cast this,e⟩
 ·left;show (l.2.1:Rat)≠0;exact_mod_cast e
theorem WC {m:L3}(ol:cX l=true)(om:cX m=true){p:aw.V2}(h1:aq l p.1 p.2=0)(h2:aq m p.1 p.2=0)(hc:aw.cr (aw.aN l) (aw.aN m)=0):l=m\/l=revL m:=by
 have a:∀{x:L3},aq x p.1 p.2=0->aq (cQ x) p.1 p.2=0:=λ{x} h=>by grind [Fk,val_rev]
 have b:aw.cr (aw.aN (cQ l)) (aw.aN (cQ m))=0:=by
  unfold aw.cr at *;rcases Fk l with e|e<;>rcases Fk m with e'|e'<;>rw [e,e']<;>(try rw [Mc l])<;>(try rw [Mc m])<;>(try dsimp only)<;>grind
 grind [aw.OB,Yz,TF,Fk,rev_rev]
theorem Kl {M:pz L3}(hk:∀m∈M,cX m=true){q:aw.V2}(hq:aw.pos M q):aw.Dif M:=by
 intro l d m hm c p f g hc;rcases WC (hk l d) (hk m hm) f g hc with e|e
 ·exact c e
 ·have a:=hq l d;have b:=hq m hm;grind [val_rev]
theorem yR (h:Nz l){x y:Rat}(hp:aq l x y=0):∃t,x=eK l t/\y=eN l t:=by
 have a:=Qb9 _ h.norm;unfold aq at hp;refine ⟨kX l x y,?_,?_⟩
 ·unfold eK kX gK at *;grind
 ·unfold eN kX gK at *;grind
def fullSp:Sp:=⟨0,0,true,true⟩
theorem fh:fullSp.good:=⟨⟨λ_=>rfl,λ_=>rfl⟩,rfl⟩
theorem full_inn (t:Rat):fullSp.inn t:=⟨.inl rfl,.inl rfl⟩
structure oR (M:List L3) (c:List Sd):Prop where
 pos:∃q,aw.pos M q
 mem:∀s∈c,s.1∈M/\s.2.good/\∀t,s.2.inn t↔∀m∈M,m≠s.1->0<aq m (eK s.1 t) (eN s.1 t)
 all:∀l∈M,aw.Es M l->∃v,(l,v)∈c
 asc:c.Pairwise λs u=>aw.kn (aw.aN s.1) (aw.aN u.1)<0
def HV (x:Sd):List Sd->List Sd
 | []=>[x]
 | s::r=>if aw.kn (aw.aN s.1) (aw.aN x.1)<0 then s::HV x r else x::s::r
def NF (c:List Sd)(l:L3):List Sd:=c.filterMap λs=>if cH s.1 s.2 l then some (s.1,bu s.1 s.2 l) else none
def sN:List Sd->L3->Int
 | [],_=>-1
 | s::c,l=>if (aq l (eK s.1 s.2.gE) (eN s.1 s.2.gE)).num.sign≠0 then (aq l (eK s.1 s.2.gE) (eN s.1 s.2.gE)).num.sign else if s.1=l then 1 else sN c l
def Hv (c:List Sd)(l:L3):Option (List Sd):=
 match xg c l fullSp with
 | some v=>some (HV (l,v) (NF c l))
 | none=>if 0<sN c l then some c else none
theorem pO {x y:Sd}:∀{r:pz Sd},y∈HV x r↔y=x\/y∈r
 | []=>by simp [HV]
 | s::r=>by
  unfold HV;split
  ·rw [Qq6,pO,Qq6];exact or_left_comm
  ·rw [Qq6]
theorem LR {a b d:aw.V2}(h:aw.kn a b<0)(h':aw.kn b d<0):aw.kn a d<0:=by
 by_cases q:aw.kn a d<0
 ·exact q
 ·exact absurd h (aw.W_ _ _ _ q (aw.EX _ _ h'))
theorem HW {x:Sd}:∀{r:pz Sd},(r.Pairwise λs u=>aw.kn (aw.aN s.1) (aw.aN u.1)<0)->(∀s∈r,aw.kn (aw.aN s.1) (aw.aN x.1)≠0)->(HV x r).Pairwise λs u=>aw.kn (aw.aN s.1) (aw.aN u.1)<0
 | [],_,_=>Qd2 ..
 | s::r,h,hn=>by
  have ⟨h1,h2⟩:=Qx4.1 h;unfold HV;split
  ·rename_i a;refine Qx4.2 ⟨λy b=>?_,HW h2 λu hu=>hn u (Qq8 _ hu)⟩<;>grind [pO.1]
  grind [aw.Pf,List.pairwise_cons.2,LR]
theorem HB {c:pz Sd}{y:Sd}:y∈NF c l↔∃s∈c,cH s.1 s.2 l=true/\y=(s.1,bu s.1 s.2 l):=by grind [NF]
theorem PV {c:pz Sd}(h:c.Pairwise λs u=>aw.kn (aw.aN s.1) (aw.aN u.1)<0):(NF c l).Pairwise λs u=>aw.kn (aw.aN s.1) (aw.aN u.1)<0:=by refine List.Pairwise.filterMap _ ?_ h<;>grind
theorem Iu {s:L3}(hl:aw.nz (aw.aN s))(h:aw.kn (aw.aN s) (aw.aN l)=0){p r:aw.V2}(p0:aq l p.1 p.2=0)(p1:0<aq s p.1 p.2)(r0:aq s r.1 r.2=0)(r1:0<aq l r.1 r.2):False:=by
 have ⟨c,b,e⟩:=aw.Ph hl h;have d:(s.2.1:Rat)=c*(l.2.1:Rat):=congrArg Prod.fst e;have a:-(s.1:Rat)=c*-(l.1:Rat):=congrArg Prod.snd e;have a:(s.1:Rat)=c*(l.1:Rat):=by grind
 have key:∀x:aw.V2,aq s x.1 x.2=c*(aq l x.1 x.2-(l.2.2:Rat))+(s.2.2:Rat):=λx=>by unfold aq;rw [d,a];grind
 have k:=aw.mp b r1;rw [key] at p1 r0;rw [p0] at p1;grind
section
variable {M:List L3} {c:List Sd} (h:oR M c) (hk:∀m ∈ M,cX m=true)
include h hk
theorem oR.int {p:aw.V2}(hp:∀s∈c,0<aq s.1 p.1 p.2):aw.pos M p:=by grind [h.pos,aw.ess,Kl,FR,h.all]
theorem NC {l:L3}(hl:cX l=true){v:Sp}(e:xg c l fullSp=some v):oR (l::M) (HV (l,v) (NF c l)):=by
 have I:Nz l:=rH hl;have ⟨A,B⟩:=Ez fh e;have C:∀t,v.inn t↔aw.pos M (eK l t,eN l t):=λt=>⟨λg=>h.int hk ((B t).1 g).2,λg=>(B t).2 ⟨full_inn t,λs b=>g s.1 (h.mem s b).1⟩⟩;have ⟨t0,k⟩:=qG.1 A.2;have n:=(C t0).1 k;have D:=(nG I t0).1;have E:l∉M:=λhm=>by have:=n l hm;dsimp only at this;grind
 have ne:∀m∈M,m≠l:=λm hm e=>E (e▸hm);obtain ⟨q,J,o,-⟩:=aw.Fv (M:=M) (x:=(eK l t0,eN l t0)) (FR hl) D (λm hm _=>n m hm) [] (λm hm=>by cases hm)
 have f:∀s∈NF c l,s.1∈M/\s.2.good/\∀t,s.2.inn t↔∀m∈l::M,m≠s.1->0<aq m (eK s.1 t) (eN s.1 t):=λs b=>by
  obtain ⟨O,P,hb,rfl⟩:=HB.1 b;grind [h.mem,iD,js.1]
 refine ⟨⟨q,Qn6.2 ⟨o,J⟩⟩,λs b=>?_,λj a he=>?_,HW (PV h.asc) λs b K=>?_⟩
 ·rcases pO.1 b with rfl|b
  ·refine ⟨Qw6 ..,A,λt=>?_⟩;rw [C t,Qn6];exact ⟨λg=>⟨λh=>absurd rfl h,λm hm _=>g m hm⟩,λg m hm=>g.2 m hm (ne m hm)⟩
  grind
 ·rcases Qq6.1 a with rfl|a
  ·exact ⟨v,pO.2 (.inl rfl)⟩
  ·obtain ⟨p,F,u⟩:=he;have ⟨w,hw⟩:=h.all j a ⟨p,F,λm hm d=>u m (Qq8 _ hm) d⟩;have ⟨i,y,z⟩:=h.mem _ hw;have ⟨t,G,H⟩:=yR (rH (hk j a)) F
   have hb:cH j w l=true:=by
    cases hb:cH j w l
    ·exfalso;refine js.2 y.2 hb t ((z t).2 λm hm d=>?_) ?_
     ·dsimp only;rw [←G,←H];exact u m (Qq8 _ hm) d
     ·rw [←G,←H];exact u l (Qw6 ..) (λe=>E (e▸a))
    ·rfl
   grind [pO.2,HB.2]
 ·have ⟨i,y,z⟩:=f s b;have ⟨t,L⟩:=qG.1 y.2;have N:=(z t).1 L l (Qw6 ..) (λe=>ne _ i e.symm);exact Iu (FR (hk _ i)) K (p:=(eK l t0,eN l t0)) (r:=(eK s.1 t,eN s.1 t)) D (n _ i) (nG (rH (hk _ i)) t).1 N
omit h in
theorem vL {l:L3}(hl:cX l=true)(hno:∀x:aw.V2,aq l x.1 x.2=0->¬aw.pos M x){q:aw.V2}(hq:aw.pos M q){s:L3}(hs:s∈M){x:aw.V2}(xz:aq s x.1 x.2=0)(hx:∀m∈M,m≠s->0<aq m x.1 x.2) :
  (0<aq l q.1 q.2->0<aq l x.1 x.2\/s=l)/\(aq l q.1 q.2<0->aq l x.1 x.2<0\/aq l x.1 x.2=0/\s≠l):=by
 have side:∀g:L3,(∀x:aw.V2,aq g x.1 x.2=0->¬aw.pos M x)->0<aq g q.1 q.2->∀y:aw.V2,aq s y.1 y.2=0->(∀m∈M,m≠s->0<aq m y.1 y.2)->¬aq g y.1 y.2<0:=λg hno n y o b j=>by
  obtain ⟨C,p,-,c⟩:=aw.Fv (FR (hk s hs)) o b [revL g] (λm hm=>by rcases Qq5.1 hm with rfl;rw [val_rev];grind);have c:=c _ (Qq5.2 rfl);rw [val_rev] at c;have:=aw.Iq hno hq p n;grind
 constructor
 ·intro a;by_cases f:0<aq l x.1 x.2
  ·exact .inl f
  right;have z:aq l x.1 x.2=0:=by have:=side l hno a x xz hx;grind
  by_cases e:s=l
  ·exact e
  exfalso
  have h:aw.cr (aw.aN l) (aw.aN s)≠0:=λt=>by
   rcases WC hl (hk s hs) z xz t with g|g
   ·exact e g.symm
   ·rw [g,val_rev] at a;have:=hq s hs;grind
  have step:∀d:aw.V2,aw.nv s d=0->aw.nv l d<0->False:=λd d0 d1=>by
   have ⟨r,u,v⟩:=aw.Gi ((M.filter λm=>decide (m≠s)).map λm=>(aq m x.1 x.2,aw.nv m d)) (λy b=>by
    obtain ⟨m,hm,rfl⟩:=Qz0.1 b;have:=Qb4.1 hm;exact hx m this.1 (by simpa using this.2))
   refine side l hno a (x.1+r*d.1,x.2+r*d.2) ?_ (λm hm i=>?_) ?_
   ·rw [aw.jy,xz,d0];grind
   ·rw [aw.jy];exact v (aq m x.1 x.2,aw.nv m d) (Qz0.2 ⟨m,Qb4.2 ⟨hm,by simpa using i⟩,rfl⟩)
   ·rw [aw.jy,z];have:=aw.mp u (show -aw.nv l d>0 by grind);grind
  have k:aw.nv s (aw.aN s)=0:=by rw [aw.Rl];exact aw.Ma _
  have ls:aw.nv l (aw.aN s)≠0:=by rw [aw.Rl];exact h
  by_cases w:aw.nv l (aw.aN s)<0
  ·exact step _ k w
  ·have A:aw.nv s (-(aw.aN s).1,-(aw.aN s).2)=-aw.nv s (aw.aN s):=by unfold aw.nv;dsimp only;grind
   have B:aw.nv l (-(aw.aN s).1,-(aw.aN s).2)=-aw.nv l (aw.aN s):=by unfold aw.nv;dsimp only;grind
   exact step (-(aw.aN s).1,-(aw.aN s).2) (by rw [A,k];grind) (by rw [B];grind)
 ·intro a;have:=side (revL l) (λx hx=>hno x (by rw [val_rev] at hx;grind)) (by rw [val_rev];grind) x xz hx;rw [val_rev] at this;by_cases f:aq l x.1 x.2<0
  ·exact .inl f
  ·refine .inr ⟨by grind,λe=>?_⟩;have:=hq s hs;grind
theorem xl {s:Sd}(hs:s∈c):aq s.1 (eK s.1 s.2.gE) (eN s.1 s.2.gE)=0/\∀m∈M,m≠s.1->0<aq m (eK s.1 s.2.gE) (eN s.1 s.2.gE):=by
 have ⟨d,e,f⟩:=h.mem s hs;refine ⟨(nG (rH (hk _ d)) _).1,(f _).1 ?_⟩;have ⟨g,i⟩:=Sp.ML e.2;constructor
 ·cases ha:s.2.a
  ·exact .inr (g ha)
  ·exact .inl rfl
 ·cases hb:s.2.b
  ·exact .inr (i hb)
  ·exact .inl rfl
theorem Om {l:L3}(hl:cX l=true)(hno:∀x:aw.V2,aq l x.1 x.2=0->¬aw.pos M x){q:aw.V2}(hq:aw.pos M q)(hp:0<aq l q.1 q.2)(h0:c≠[]):sN c l=1:=by
 cases hc:c with
 | nil=>exact absurd hc h0
 | cons s r=>
  have b:s∈c:=by rw [hc];exact Qw6 ..
  have ⟨d,f⟩:=xl h hk b;have:=(vL hk hl hno hq (h.mem s b).1 (x:=(eK s.1 s.2.gE,eN s.1 s.2.gE)) d f).1 hp;unfold sN;dsimp only at this;by_cases e:0<aq l (eK s.1 s.2.gE) (eN s.1 s.2.gE)
  ·rw [aw.YO.2 e];rfl
  ·have a:s.1=l:=this.resolve_left e
   have z:aq l (eK s.1 s.2.gE) (eN s.1 s.2.gE)=0:=by
    have h:=d;rw [a] at h ⊢;exact h
   rw [aw.ki.2 z,if_neg (by simp),if_pos a]
theorem Ol {l:L3}(hl:cX l=true)(hno:∀x:aw.V2,aq l x.1 x.2=0->¬aw.pos M x){q:aw.V2}(hq:aw.pos M q)(hp:aq l q.1 q.2<0):sN c l=-1:=by
 have:∀r:pz Sd,(∀s∈r,s∈c)->sN r l=-1:=by
  intro r
  induction r with
  | nil=>intro _;rfl
  | cons s r ih=>
   intro a;have b:=a s (Qw6 ..);have ⟨d,e⟩:=xl h hk b;have:=(vL hk hl hno hq (h.mem s b).1 (x:=(eK s.1 s.2.gE,eN s.1 s.2.gE)) d e).2 hp;dsimp only at this;unfold sN;rcases this with g|⟨g,f⟩
   ·rw [aw.So.2 g];rfl
   ·rw [aw.ki.2 g,if_neg (by simp),if_neg f];exact ih λu hu=>a u (Qq8 _ hu)
 exact this c λ_ h=>h
theorem TJ {l:L3}(hl:cX l=true):(∀c',Hv c l=some c'->oR (l::M) c')/\(Hv c l=none->¬∃q,aw.pos (l::M) q):=by
 unfold Hv
 cases e:xg c l fullSp with
 | some v=>exact ⟨λc' f=>by cases f;exact NC h hk hl e,λf=>by cases f⟩
 | none=>
  dsimp only
  have d:∀x:aw.V2,aq l x.1 x.2=0->¬aw.pos M x:=λx E n=>by
   have ⟨t,o,r⟩:=yR (rH hl) E;refine Ey fh e t (full_inn t) λs u=>?_;rw [←o,←r];exact n s.1 (h.mem s u).1
  have F:c≠[]:=λG=>by rw [G] at e;cases e
  obtain ⟨q,j⟩:=h.pos;by_cases w:0<aq l q.1 q.2
  ·rw [Om h hk hl d j w F];refine ⟨λc' f=>?_,λf=>by cases f⟩;cases f;refine ⟨⟨q,Qn6.2 ⟨w,j⟩⟩,λs u=>?_,λy A he=>?_,h.asc⟩
   ·have ⟨B,H,I⟩:=h.mem s u;refine ⟨Qq8 _ B,H,λt=>?_⟩;rw [I t,Qn6];refine ⟨λg=>⟨λi=>?_,g⟩,λg=>g.2⟩;exact ((vL hk hl d j B (x:=(eK s.1 t,eN s.1 t)) (nG (rH (hk _ B)) t).1 g).1 w).resolve_right λe=>i e.symm
   ·obtain ⟨p,D,n⟩:=he;by_cases hm:y∈M
    ·exact h.all y hm ⟨p,D,λm hm i=>n m (Qq8 _ hm) i⟩
    ·exfalso;have o:y=l:=(Qq6.1 A).resolve_right hm;refine d p (o▸D) λm k=>n m (Qq8 _ k) λr=>hm (r▸k)
  ·have J:aq l q.1 q.2<0:=by
    by_cases z:aq l q.1 q.2=0
    ·exact absurd j (d q z)
    ·grind
   rw [Ol h hk hl d j J];refine ⟨λc' f=>(by cases f),λ_=>?_⟩;rintro ⟨K,C⟩;have ⟨a,b⟩:=Qn6.1 C;have:=aw.Iq d (λm hm=>b m hm) j a;grind
end
theorem oR.nil:oR [] []:=⟨⟨(0,0),λm hm=>by cases hm⟩,(λs a=>by cases a),(λl b=>by cases b),List.Pairwise.nil⟩
def rZ:List L3->List L3->List Sd->Option (List Sd)
 | [],_,c=>some c
 | l::r,M,c=>match Hv c l with
  | some c'=>rZ r (l::M) c'
  | none=>none
theorem Ht:∀{ls M:pz L3} {c:pz Sd},oR M c->(∀m∈M,cX m=true)->(∀m∈ls,cX m=true)->(∀c',rZ ls M c=some c'->oR (ls.reverse++M) c')/\(rZ ls M c=none->¬∃q,aw.pos (ls.reverse++M) q)
 | [],M,c,h,hk,hl=>⟨λc' e=>by cases e;exact h,λe=>by cases e⟩
 | l::r,M,c,h,hk,hl=>by
  have ⟨h1,h2⟩:=TJ h hk (hl l (Qw6 ..));rw [List.reverse_cons,Qy6];unfold rZ
  cases e:Hv c l with
  | some c'=>exact Ht (h1 c' e) (Qn6.2 ⟨hl l (Qw6 ..),hk⟩) λm hm=>hl m (Qq8 _ hm)
  | none=>
   refine ⟨λc' a=>(by cases a),λ_=>?_⟩;rintro ⟨q,b⟩;exact h2 e ⟨q,λm hm=>b m (Qk7 _ hm)⟩
theorem G7:∀{a b:pz L3},(a.Pairwise λl m=>aw.kn (aw.aN l) (aw.aN m)<0)->(b.Pairwise λl m=>aw.kn (aw.aN l) (aw.aN m)<0)->(∀x,x∈a↔x∈b)->a=b
 | [],b,_,_,h=>by cases b<;>grind [List.mem_cons_self]
 | x::a,[],_,_,h=>by have:=(h x).1 (Qw6 ..);cases this
 | x::a,y::b,ha,hb,h=>by
  have ⟨d,f⟩:=Qx4.1 ha;have ⟨g,i⟩:=Qx4.1 hb
  have e:x=y:=by
   rcases Qq6.1 ((h x).1 (Qw6 ..)) with e|j
   ·exact e
   ·rcases Qq6.1 ((h y).2 (Qw6 ..)) with e|k
    ·exact e.symm
    ·exact absurd (d y k) (aw.EX _ _ (g x j))
  subst e;have n:∀z:L3,¬aw.kn (aw.aN z) (aw.aN z)<0:=λz c=>aw.EX _ _ c c;congr 1;refine G7 f i λz=>⟨λc=>?_,λc=>?_⟩<;>grind
end Go.Proofs.Tryz
namespace Go.Proofs.Tryz
open Go.Eng Go.Big
variable{l:L3}{c:List L3}
theorem cross_dot (l m:L3):crossL l m=-dotL m l:=by unfold crossL dotL;grind
theorem Xj (m l:L3):aw.cr (aw.aN m) (aw.aN l)=dotL m l:=by unfold aw.cr aw.aN dotL;grind
def ni (l m:L3):Rat:=kX l (Zg l m) (Zh l m)
theorem AW {m:L3}(hl:Nz l)(h:crossL l m≠0):ni l m=cutP m l:=by
 have ⟨v1,v2⟩:=YT h;have ⟨t,a,b⟩:=yR hl v1;have c:ni l m=t:=by unfold ni;rw [a,b];exact (nG hl t).2
 rw [a,b,tj] at v2;have d:dotL m l≠0:=λe=>h (by rw [cross_dot,e];grind);unfold cutP;grind
def tV (l m:L3)(s:Sp):Option Sp:=
 if crossL l m=0 then (if (aq m (eK l 0) (eN l 0)).num.sign<=0 then none else some s)
 else
  let s':Sp:=if 0<(dotL m l).num.sign then (if s.a=true\/s.lo<ni l m then ⟨ni l m,s.hi,false,s.b⟩ else s) else (if s.b=true\/ni l m<s.hi then ⟨s.lo,ni l m,s.a,false⟩ else s)
  if s'.a=false/\s'.b=false/\s'.hi<=s'.lo then none else some s'
theorem P5 {s:Sp}:s.emp=true↔s.a=false/\s.b=false/\s.hi<=s.lo:=by
 cases h:s.emp
 ·grind [Sp.iE.1]
 ·refine ⟨λ_=>?_,λ_=>rfl⟩;have d:¬(s.a=true\/s.b=true\/s.lo<s.hi):=λg=>by rw [←Sp.iE] at g;rw [h] at g;cases g
  refine ⟨?_,?_,?_⟩
  ·cases e:s.a
   ·rfl
   grind
  ·cases e:s.b
   ·rfl
   grind
  ·by_cases c:s.lo<s.hi<;>grind
theorem zZ {m:L3}{s:Sp}(hl:Nz l)(hs:s.good):tV l m s=if cH l s m=true then some (bu l s m) else none:=by
 unfold tV;by_cases hc:crossL l m=0
 ·have c:dotL m l=0:=by rw [cross_dot] at hc;grind
  have f:bu l s m=s:=by unfold bu;rw [c];rfl
  have d:cH l s m=decide ((jJ m l).num.sign>0):=by unfold cH;rw [c];rfl
  rw [if_pos hc,f,d];show (if (jJ m l).num.sign<=0 then none else some s)=_;grind
 ·have c:dotL m l≠0:=λe=>hc (by rw [cross_dot,e];grind);rw [if_neg hc,AW hl hc]
  have es:(if 0<(dotL m l).num.sign then (if s.a=true\/s.lo<cutP m l then (⟨cutP m l,s.hi,false,s.b⟩:Sp) else s) else (if s.b=true\/cutP m l<s.hi then ⟨s.lo,cutP m l,s.a,false⟩ else s))=bu l s m:=by
   obtain ⟨g,i⟩:=hs.1;obtain ⟨lo,hi,a,b⟩:=s;unfold bu;rcases dV (dotL m l) with ⟨h,e⟩|⟨h,e⟩|⟨h,e⟩
   ·exact absurd h c
   ·rw [e,if_pos (by decide)];unfold Sp.meet sH;grind [cR]
   ·rw [e,if_neg (by decide)];unfold Sp.meet sI;grind [cR]
  have d:cH l s m=!(bu l s m).emp:=by
   unfold cH;grind [dV]
  grind [P5.2,P5.1]
def eX (l:L3):List L3->Sp->Option Sp
 | [],s=>some s
 | m::r,s=>if m=l then eX l r s else match tV l m s with
  | some s'=>eX l r s'
  | none=>none
theorem vM (hl:Nz l):∀{c:pz L3} {s w:Sp},s.good->eX l c s=some w->w.good/\∀t,w.inn t↔s.inn t/\∀m∈c,m≠l->0<aq m (eK l t) (eN l t)
 | [],s,w,h,e=>by cases e;exact ⟨h,λt=>⟨λg=>⟨g,λm hm=>by cases hm⟩,λg=>g.1⟩⟩
 | m::c,s,w,h,e=>by
  unfold eX at e;by_cases hm:m=l
  ·rw [if_pos hm] at e;have ⟨g1,g2⟩:=vM hl h e;grind
  ·rw [if_neg hm,zZ hl h] at e;by_cases hb:cH l s m=true
   ·rw [if_pos hb] at e;have ⟨g1,g2⟩:=vM hl (iD h hb) e;grind [js.1]
   grind
theorem vK (hl:Nz l):∀{c:pz L3} {s:Sp},s.good->eX l c s=none->∀t,s.inn t->¬∀m∈c,m≠l->0<aq m (eK l t) (eN l t)
 | [],s,h,e=>by cases e
 | m::c,s,h,e=>by
  intro t ht hall;have ⟨ha,hr⟩:=Qn6.1 hall;unfold eX at e;by_cases hm:m=l
  ·rw [if_pos hm] at e;exact vK hl h e t ht hr
  ·rw [if_neg hm,zZ hl h] at e;by_cases hb:cH l s m=true
   ·rw [if_pos hb] at e;exact vK hl (iD h hb) e t ((js.1 hb t).2 ⟨ht,ha hm⟩) hr
   ·exact js.2 h.2 (by simpa using hb) t ht (ha hm)
theorem yF (hl:Nz l):(eX l c fullSp).isSome=true↔aw.Es c l:=by
 constructor
 ·intro h;have ⟨w,hw⟩:=Qc4.1 h;have ⟨b,d⟩:=vM hl fh hw;have ⟨t,e⟩:=qG.1 b.2;exact ⟨(eK l t,eN l t),(nG hl t).1,((d t).1 e).2⟩
 ·rintro ⟨p,f,a⟩;have ⟨t,g,i⟩:=yR hl f
  cases h:eX l c fullSp with
  | some w=>rfl
  | none=>
   rw [g,i] at a;exact absurd a (vK hl fh h t (full_inn t))
def mS (l:L3):List L3->List L3
 | []=>[l]
 | u::r=>if aw.kn (aw.aN u) (aw.aN l)<0 then u::mS l r else if u=l then u::r else l::u::r
def lE (c:List L3):List L3->List L3->List L3
 | [],out=>out
 | l::r,out=>lE c r (if (eX l c fullSp).isSome=true then mS l out else out)
theorem mT {x:L3}:∀{r:pz L3},x∈mS l r↔x=l\/x∈r
 | []=>by simp [mS]
 | u::r=>by
  unfold mS;split
  ·rw [Qq6,mT,Qq6];exact or_left_comm
  split
  ·rename_i e;subst e;rw [Qq6];exact ⟨.inr,λh=>h.elim .inl id⟩
  ·rw [Qq6]
theorem HX:∀{r:pz L3},(r.Pairwise λs u=>aw.kn (aw.aN s) (aw.aN u)<0)->(∀s∈r,aw.kn (aw.aN s) (aw.aN l)=0->s=l)->(mS l r).Pairwise λs u=>aw.kn (aw.aN s) (aw.aN u)<0
 | [],_,_=>Qd2 _ _
 | u::r,h,hz=>by
  have ⟨h1,h2⟩:=Qx4.1 h;unfold mS;split
  ·rename_i a;refine Qx4.2 ⟨λy c=>?_,HX h2 (λs b=>hz s (Qq8 _ b))⟩<;>grind [mT.1]
  grind [aw.Pf,List.pairwise_cons.2,LR]
theorem Xn (hk:∀m∈c,cX m=true){m:L3}(hl:l∈c)(hm:m∈c)(el:aw.Es c l)(em:aw.Es c m)(h:aw.kn (aw.aN l) (aw.aN m)=0):l=m:=by
 by_cases e:l=m
 ·exact e
 exfalso;obtain ⟨p,a,b⟩:=em;obtain ⟨r,d,f⟩:=el;exact Iu (FR (hk l hl)) h a (b l hl e) d (f m hm λg=>e g.symm)
theorem F_ (hk:∀m∈c,cX m=true):∀{r out:pz L3},(∀m∈r,m∈c)->(∀m∈out,m∈c/\aw.Es c m)->(out.Pairwise λs u=>aw.kn (aw.aN s) (aw.aN u)<0) ->
  ((lE c r out).Pairwise λs u=>aw.kn (aw.aN s) (aw.aN u)<0)/\∀x,x∈lE c r out↔x∈out\/x∈r/\aw.Es c x
 | [],out,_,_,h=>⟨h,λx=>by simp [lE]⟩
 | l::r,out,hr,ho,h=>by
  have ⟨hl,hr⟩:=Qn6.1 hr;unfold lE;by_cases he:aw.Es c l
  ·rw [if_pos ((yF (rH (hk l hl))).2 he)]
   have ⟨a,b⟩:=F_ hk (r:=r) (out:=mS l out) hr (λm hm=>by
    rcases mT.1 hm with rfl|hm
    ·exact ⟨hl,he⟩
    ·exact ho m hm) (HX h λs d e=>Xn hk (ho s d).1 hl (ho s d).2 he e)
   refine ⟨a,λx=>?_⟩;rw [b,mT,Qq6];grind
  ·rw [if_neg λg=>he ((yF (rH (hk l hl))).1 g)];have ⟨a,b⟩:=F_ hk (r:=r) (out:=out) hr ho h;grind
theorem Es.of {M N:pz L3}(h:∀x,x∈M->x∈N)(e:aw.Es N l):aw.Es M l:=by
 obtain ⟨p,a,b⟩:=e;exact ⟨p,a,λm hm=>b m (h m hm)⟩
theorem PJ {ls:pz L3}(hk:∀m∈ls,cX m=true):(∀c,rZ ls [] []=some c->lE ls ls []=c.map Prod.fst/\oR ls.reverse c/\(ls=[]\/lE ls ls []≠[]))/\(rZ ls [] []=none->lE ls ls []=[]/\ls≠[]/\¬∃q,aw.pos ls q):=by
 have ⟨n,o⟩:=Ht (ls:=ls) oR.nil (λm hm=>by cases hm) hk;rw [Qx3] at n o;have ⟨u,g⟩:=F_ hk (r:=ls) (out:=[]) (λm hm=>hm) (λm hm=>by cases hm) List.Pairwise.nil;have g:∀x,x∈lE ls ls []↔x∈ls/\aw.Es ls x:=λx=>(g x).m ⟨λh=>h.elim (λh=>by cases h) id,.inr⟩;have b:∀q,aw.pos ls q↔aw.pos ls.reverse q:=λq=>⟨λh m hm=>h m (Qd0.1 hm),λh m hm=>h m (Qd0.2 hm)⟩;constructor
 ·intro c e;have hc:=n c e;obtain ⟨q,d⟩:=hc.pos;have d:=(b q).2 d;refine ⟨?_,hc,?_⟩
  ·refine G7 u (List.pairwise_map.2 hc.asc) λx=>?_;rw [g,Qz0];constructor
   ·grind [hc.all,Es.of,List.mem_reverse.1]
   ·rintro ⟨s,v,rfl⟩;have ⟨i,w,y⟩:=hc.mem s v;have ⟨t,z⟩:=qG.1 w.2;have i:=Qd0.1 i;exact ⟨i,⟨(eK s.1 t,eN s.1 t),(nG (rH (hk _ i)) t).1,λm hm k=>(y t).1 z m (Qd0.2 hm) k⟩⟩
  ·by_cases j:ls=[]
   ·exact .inl j
   right;have ⟨l,D,he⟩:=aw.Me (Kl hk d) (λm hm=>FR (hk m hm)) d j;grind
 ·intro e;have f:¬∃q,aw.pos ls q:=λ⟨q,d⟩=>o e ⟨q,(b q).1 d⟩;refine ⟨?_,λj=>f ⟨(0,0),λm hm=>by rw [j] at hm;cases hm⟩,f⟩;refine List.eq_nil_iff_forall_not_mem.2 λx A=>?_;obtain ⟨a,p,B,C⟩:=(g x).1 A;obtain ⟨q,d,-⟩:=aw.Fv (FR (hk x a)) B C [] (λm hm=>by cases hm);exact f ⟨q,d⟩
theorem vY (h:cX l=true):cX (revL l)=true:=by
 unfold cX revL bY at *;grind
theorem N5 (hk:∀m∈c,cX m=true):(c=[]\/∃l∈c,aw.Es c l)↔∃q,aw.pos c q:=by
 constructor
 ·rintro (rfl|⟨l,d,p,e,f⟩)
  ·exact ⟨(0,0),λm hm=>by cases hm⟩
  ·obtain ⟨q,a,-⟩:=aw.Fv (FR (hk l d)) e f [] (λm hm=>by cases hm);exact ⟨q,a⟩
 ·rintro ⟨q,a⟩;by_cases b:c=[]
  ·exact .inl b
  ·exact .inr (aw.Me (Kl hk a) (λm hm=>FR (hk m hm)) a b)
section
variable {M:List L3} {c:List Sd} (h:oR M c) (hk:∀m ∈ M,cX m=true)
include h hk
theorem TL {p:aw.V2}(hp:∀s∈c,0<=aq s.1 p.1 p.2):∀m∈M,0<=aq m p.1 p.2:=by
 intro m hm;obtain ⟨q,d⟩:=h.pos
 have key:∀t:Rat,0<=t->t<1->aw.pos M (q.1+t*(p.1-q.1),q.2+t*(p.2-q.2)):=λt t0 t1=>h.int hk λs f=>by
  rw [aw.uQ];have a:=d s.1 (h.mem s f).1;have j:=aw.mn t0 (hp s f);have k:=aw.mp (show 1-t>0 by grind) a;grind
 by_cases g:0<=aq m p.1 p.2
 ·exact g
 exfalso;have a:=d m hm;have ⟨t,t0,t1,e⟩:=aw.y_ (y:=(aq m q.1 q.2,aq m p.1 p.2)) a (s:=1) (by decide) (by unfold aw.mx;grind)
 have b:t<1:=by
  by_cases i:t=1
  ·subst i;unfold aw.mx at e;dsimp only at e;grind
  ·grind
 have:=key t (by grind) b m hm;rw [aw.uQ] at this;unfold aw.mx at e;grind
theorem Hu (p:aw.V2):((∀s∈c,0<=aq s.1 p.1 p.2)↔∀m∈M,0<=aq m p.1 p.2)/\((∀s∈c,0<aq s.1 p.1 p.2)↔∀m∈M,0<aq m p.1 p.2):=
 ⟨⟨λg=>TL h hk g,λg s a=>g _ (h.mem s a).1⟩,λg=>h.int hk g,λg s a=>g _ (h.mem s a).1⟩
end
end Go.Proofs.Tryz
namespace Go.Proofs.Tryz
open Go.Eng Go.Big
theorem dot_rev (l m:L3):dotL (revL l) m=-dotL l m:=by unfold dotL revL;simp only [Qs2];grind
theorem LU (l m:L3):jJ (revL l) m=-jJ l m:=by unfold jJ;exact val_rev ..
theorem cutP_rev {l m:L3}(h:dotL l m≠0):cutP (revL l) m=cutP l m:=by
 unfold cutP;rw [dot_rev,LU];grind
end Go.Proofs.Tryz
namespace Go.Proofs.Tryz
open Go.Eng Go.Big
variable{x y:Rat}{l:L3}
theorem Po:∀(L:pz Rat) {lo hi:Rat},lo<hi->∃t,lo<t/\t<hi/\∀r∈L,t≠r
 | [],lo,hi,h=>⟨(lo+hi) / 2,by grind,by grind,(λr hr=>by cases hr)⟩
 | r::L,lo,hi,h=>by
  by_cases c:lo<r/\r<hi
  ·have ⟨t,h1,h2,h3⟩:=Po L c.1;grind
  ·have ⟨t,h1,h2,h3⟩:=Po L h;grind
theorem Qm {s:Sp}(h:s.good):∃lo hi,lo<hi/\∀t,lo<t->t<hi->s.inn t:=by
 have ⟨t,e⟩:=qG.1 h.2;obtain ⟨lo,hi,a,b⟩:=s;unfold Sp.inn at *;cases a<;>cases b<;>simp at e ⊢
 ·exact ⟨lo,hi,by grind,λt c d=>⟨c,d⟩⟩
 ·exact ⟨lo,lo+1,by grind,λt c d=>c⟩
 ·exact ⟨hi-1,hi,by grind,λt c d=>d⟩
 ·exact ⟨0,1,by decide⟩
theorem Fx {a b:md}:fe [⟨x,y,a,b⟩]=(if a then 0 else 1)+(if b then 0 else 1):=by unfold fe z_ Sp.Mq Sp.Kw;cases a<;>cases b<;>rfl
theorem QW (h:y<=x):sH x y=x:=by
 unfold sH;rcases cR y x with ⟨g,e⟩|⟨g,e⟩|⟨g,e⟩<;>rw [e]<;>simp<;>grind
theorem Ys (h:x<=y):sH x y=y:=by
 unfold sH;rcases cR y x with ⟨g,e⟩|⟨g,e⟩|⟨g,e⟩<;>rw [e]<;>simp<;>grind
theorem QY (h:x<=y):sI x y=x:=by
 unfold sI;rcases cR y x with ⟨g,e⟩|⟨g,e⟩|⟨g,e⟩<;>rw [e]<;>simp<;>grind
theorem Yu (h:y<=x):sI x y=y:=by
 unfold sI;rcases cR y x with ⟨g,e⟩|⟨g,e⟩|⟨g,e⟩<;>rw [e]<;>simp<;>grind
theorem P0:(⟨x,y,false,false⟩:Sp).emp=decide (y<=x):=by
 unfold Sp.emp;rcases cR x y with ⟨g,e⟩|⟨g,e⟩|⟨g,e⟩<;>simp only<;>simp<;>grind
theorem VX {b:md}:(⟨x,y,true,b⟩:Sp).emp=false:=rfl
theorem VY {a:md}:(⟨x,y,a,true⟩:Sp).emp=false:=by cases a<;>rfl
theorem XR {v:Sp}(h:v.good)(p:Rat) :
  (v.innB p=true/\(v.meet ⟨p,0,false,true⟩).emp=false/\(v.meet ⟨0,p,true,false⟩).emp=false/\fe [v.meet ⟨p,0,false,true⟩]+fe [v.meet ⟨0,p,true,false⟩]<=fe [v]+2) \/
  (v.meet ⟨p,0,false,true⟩=v/\(v.meet ⟨0,p,true,false⟩).emp=true)\/(v.meet ⟨0,p,true,false⟩=v/\(v.meet ⟨p,0,false,true⟩).emp=true):=by
 obtain ⟨⟨c,d⟩,he⟩:=h;obtain ⟨e,f,a,b⟩:=v;unfold Sp.meet Sp.innB;cases a<;>cases b
 ·grind [P0,QW,Yu,QY,Ys,Fx]
 ·grind [P0,QW,Fx,VY]
 ·grind [P0,QY,Fx,VX]
 ·left;simp [Fx,VX,VY]
def bh (l:L3)(e:Bool):Tr->Sp->List Sp
 | .leaf i,v=>if i=true then [v] else []
 | .node m x y,v=>
  if m=l/\e=true\/m=revL l/\e=false then bh l e x v
  else if m=l\/m=revL l then bh l e y v
  else (if cH l v m=true then bh l e x (bu l v m) else [])++(if cH l v (revL m)=true then bh l e y (bu l v (revL m)) else [])
def Zp (l:L3)(P:List Rat)(t:Tr):Prop:=t.eU λm=>dotL m l≠0->cutP m l∈P
theorem Ii {s w:Sp}{q:Rat}(h:(s.meet w).cN q):s.cN q\/w.cN q:=by
 unfold Sp.cN Sp.meet at *;have mx:∀x y,sH x y=x\/sH x y=y:=λx y=>by unfold sH;split<;>simp
 have mn:∀x y,sI x y=x\/sI x y=y:=λx y=>by unfold sI;split<;>simp
 have a:=mx s.lo w.lo;have b:=mn s.hi w.hi;obtain ⟨s1,s2,s3,s4⟩:=s;obtain ⟨e,f,c,d⟩:=w;cases s3<;>cases c<;>cases s4<;>cases d<;>simp at h a b⊢<;> grind
theorem TQ {m:L3}{s:Sp}{q:Rat}(h:(bu l s m).cN q):s.cN q\/dotL m l≠0/\q=cutP m l:=by
 unfold bu at h;rcases dV (dotL m l) with ⟨g,e⟩|⟨g,e⟩|⟨g,e⟩<;>rw [e] at h
 ·exact .inl h
 ·rcases Ii h with h|⟨_,h⟩|⟨h,_⟩
  ·exact .inl h
  ·exact .inr ⟨by grind,h⟩
  ·cases h
 ·rcases Ii h with h|⟨h,_⟩|⟨_,h⟩
  ·exact .inl h
  ·cases h
  ·exact .inr ⟨by grind,h⟩
theorem Xg {f g h k:Rat->md}(H:∀c,(f c).toNat+(g c).toNat+(h c).toNat<=(k c).toNat):∀l:pz Rat,l.countP f+l.countP g+l.countP h<=l.countP k
 | []=>by simp
 | c::l=>by
  have h1:=Xg H l;have a:=H c;have e:∀b:md,(if b=true then 1 else 0)=b.toNat:=λb=>by cases b<;>rfl
  grind
theorem TP {m:L3}{s:Sp}(h:dotL m l=0):bu l s m=s:=by unfold bu;rw [h];rfl
theorem PT {m:L3}{s:Sp}(h:dotL m l=0):cH l s m=decide ((jJ m l).num.sign>0):=by unfold cH;rw [h];rfl
theorem SJ {l m:L3}{v:Sp}(hv:v.good) :
  (cH l v m=true/\cH l v (revL m)=true/\dotL m l≠0/\v.innB (cutP m l)=true/\fe [bu l v m]+fe [bu l v (revL m)]<=fe [v]+2)\/(bu l v m=v/\cH l v (revL m)=false)\/(bu l v (revL m)=v/\cH l v m=false):=by
 have key:dotL m l≠0->∀s,cH l s m=!(bu l s m).emp:=λf s=>by
  unfold cH;grind [dV]
 have g:dotL (revL m) l≠0->∀s,cH l s (revL m)=!(bu l s (revL m)).emp:=λf s=>by
  unfold cH;grind [dV]
 by_cases f:dotL m l=0
 ·grind [dot_rev,dV,TP,PT,LU]
 ·have k:dotL (revL m) l≠0:=by rw [dot_rev];grind
  rw [key f,g k];have H:=XR hv (cutP m l);have j:cutP (revL m) l=cutP m l:=cutP_rev f
  have mk:∀{x y:Sp},bu l v m=x->bu l v (revL m)=y->(v.innB (cutP m l)=true/\x.emp=false/\y.emp=false/\fe [x]+fe [y]<=fe [v]+2)\/(x=v/\y.emp=true)\/(y=v/\x.emp=true) ->
    ((!(bu l v m).emp)=true/\(!(bu l v (revL m)).emp)=true/\dotL m l≠0/\v.innB (cutP m l)=true/\fe [bu l v m]+fe [bu l v (revL m)]<=fe [v]+2)\/(bu l v m=v/\(!(bu l v (revL m)).emp)=false)\/(bu l v (revL m)=v/\(!(bu l v m).emp)=false):=by
   rintro x y rfl rfl (⟨a,b,c,d⟩|⟨a,b⟩|⟨a,b⟩)
   ·exact .inl ⟨by rw [b];rfl,by rw [c];rfl,f,a,d⟩
   ·exact .inr (.inl ⟨a,by rw [b];rfl⟩)
   ·exact .inr (.inr ⟨a,by rw [b];rfl⟩)
  rcases dV (dotL m l) with ⟨h,e⟩|⟨h,e⟩|⟨h,e⟩
  ·exact absurd h f
  ·have i:(dotL (revL m) l).num.sign=-1:=by grind [dV,dot_rev]
   exact mk (by unfold bu;rw [e];rfl) (by unfold bu;rw [j,i];rfl) H
  ·have i:(dotL (revL m) l).num.sign=1:=by grind [dV,dot_rev]
   refine mk (x:=v.meet ⟨0,cutP m l,true,false⟩) (y:=v.meet ⟨cutP m l,0,false,true⟩) (by unfold bu;rw [e];rfl) (by unfold bu;rw [j,i];rfl) ?_<;>grind
theorem ur {P:pz Rat}{e:md}:∀{t:Tr} {v:Sp},v.good->Zp l P t->(∀q,v.cN q->q∈P) ->
  (∀s∈bh l e t v,s.good/\∀q,s.cN q->q∈P)/\fe (bh l e t v)<=fe [v]+2*P.countP v.innB/\(bh l e t v).length<=1+P.countP v.innB
 | .leaf i,v,hv,_,hP=>by
  cases i
  ·exact ⟨λs h=>(nomatch h),Qq4 _,Qq4 _⟩
  ·exact ⟨λs h=>by rw [Qq5.1 h];exact ⟨hv,hP⟩,Qp7 ..,Qp7 ..⟩
 | .node m x y,v,hv,hc,hP=>by
  obtain ⟨cm,cx,cy⟩:=hc;unfold bh;split
  ·exact ur hv cx hP
  ·split
   ·exact ur hv cy hP
   ·have ends:∀{k:L3},(k=m\/k=revL m)->∀q,(bu l v k).cN q->q∈P:=λ{k} hk q h=>by rcases TQ h with g|⟨g,eq⟩<;>grind [dot_rev,cutP_rev]
    have A:(cH l v m=true->(∀s∈bh l e x (bu l v m),s.good/\∀q,s.cN q->q∈P)/\fe (bh l e x (bu l v m))<=fe [bu l v m]+2*P.countP (bu l v m).innB/\(bh l e x (bu l v m)).length<=1+P.countP (bu l v m).innB):=λh=>ur (iD hv h) cx (ends (.inl rfl));have B:(cH l v (revL m)=true->(∀s∈bh l e y (bu l v (revL m)),s.good/\∀q,s.cN q->q∈P)/\fe (bh l e y (bu l v (revL m)))<=fe [bu l v (revL m)]+2*P.countP (bu l v (revL m)).innB/\(bh l e y (bu l v (revL m))).length<=1+P.countP (bu l v (revL m)).innB):=λh=>ur (iD hv h) cy (ends (.inr rfl));refine ⟨λs h=>?_,?_⟩
    ·rcases Qw3.1 h with h|h<;>grind
    ·rw [P_,Qq3];rcases SJ (l:=l) (m:=m) hv with ⟨a,b,j,n,r⟩|⟨d,b⟩|⟨d,a⟩
     ·rw [if_pos a,if_pos b];have o:=(A a).2;have p:=(B b).2;have u:0<P.countP λc=>decide (c=cutP m l):=Qr0.2 ⟨_,cm j,by simp⟩
      have H:=Xg (f:=(bu l v m).innB) (g:=(bu l v (revL m)).innB) (h:=λc=>decide (c=cutP m l)) (k:=v.innB) (λc=>by
       have i1:=(js (l:=l) (s:=v) (m:=m)).1 a c;have i2:=(js (l:=l) (s:=v) (m:=revL m)).1 b c;rw [val_rev] at i2;rw [←innB_iff,←innB_iff] at i1 i2
       have i3:c=cutP m l->v.innB c=true/\aq m (eK l c) (eN l c)=0:=by
        rintro rfl;refine ⟨n,?_⟩;rw [tj];unfold cutP;grind
       cases o:(bu l v m).innB c<;>cases p:(bu l v (revL m)).innB c<;>cases h3:v.innB c<;>by_cases w:c=cutP m l<;>simp at i1 i2 i3⊢<;> grind) P
      omega
     ·rw [if_neg (c:=cH l v (revL m)=true) (by rw [b];simp)];split
      ·rename_i g;have:=(A g).2;rw [d] at this ⊢;exact this
      ·exact ⟨Qq4 _,Qq4 _⟩
     ·rw [if_neg (c:=cH l v m=true) (by rw [a];simp)];split
      ·rename_i g;have:=(B g).2;rw [d] at this ⊢;exact ⟨by show 0+_<=_;omega,by show 0+_<=_;omega⟩
      ·exact ⟨Qq4 _,Qq4 _⟩
def xC (l:L3)(t:Tr):List Sp:=combL 3 (combL 1 (bh l true t bH) []) (combL 1 (bh l false t bH) [])
theorem nZ:bH.good:=⟨⟨λ_=>rfl,λ_=>rfl⟩,rfl⟩
theorem Qg (q:Rat):¬bH.cN q:=by rintro (⟨h,_⟩|⟨h,_⟩)<;>cases h
section
variable {l:L3} {P:List Rat} {e:Bool} {t:Tr} (hc:Zp l P t)
include hc
theorem RX:(∀s∈bh l e t bH,s.good/\∀q,s.cN q->q∈P)/\fe (bh l e t bH)<=2*P.length/\(bh l e t bH).length<=1+P.length:=by
 have ⟨a,b,c⟩:=ur (e:=e) nZ hc λq h=>absurd h (Qg q);have:P.countP bH.innB<=P.length:=List.countP_le_length ..
 have:fe [bH]=0:=rfl;grind
theorem v_:∀q∈endsL (combL 1 (bh l e t bH) []),q∈P:=λq b=>by
 have ⟨s,c,h⟩:=jC.1 b;have ⟨d,f⟩:=D5 s c;have:q∈endsL (bh l e t bH++[]):=by rcases h with ⟨a,rfl⟩|⟨a,rfl⟩;exact d a;exact f a
 have ⟨u,hu,h⟩:=jC.1 this;rw [Qx3] at hu;exact ((RX hc).1 u hu).2 q h
theorem RY (hP:asc P):fe (combL 1 (bh l e t bH) [])<=P.length:=by
 refine E1 (MF (comb_reg 1 _ _)) hP λx a=>v_ hc (e:=e) x (jC.2 ?_);have ⟨s,b,a⟩:=Qy4.1 a;rcases Qw3.1 a with a|a
 ·exact ⟨s,b,.inl (oa a)⟩
 ·exact ⟨s,b,.inr (qJ a)⟩
theorem YA:∀s∈xC l t,∀q,s.cN q->q∈P:=λs b q h=>by
 have ⟨c,d⟩:=D5 s b;have:q∈endsL (combL 1 (bh l true t bH) []++combL 1 (bh l false t bH) []):=by rcases h with ⟨a,rfl⟩|⟨a,rfl⟩;exact c a;exact d a
 have ⟨u,hu,h⟩:=jC.1 this;rcases Qw3.1 hu with hu|hu<;>grind [v_,jC.2]
end
end Go.Proofs.Tryz
namespace Go.Proofs.Tryz
open Go.Eng Go.Big
open Go.Value renaming slice→hF,agg→dB,bool→qvQ,pointer→qvW,tuple→qvZ,int→qvK
variable{v:Value}{V:View}{c k n:Nat}{vs:List Value}{A B:List Sp}{p:OA}
theorem QO (V:ut):V.Le V.shut:=λ_ _ h=>h
def dC:oJ:=(0,0,0)
def cC (a b:oJ):Int:=dI a.1 b.1
theorem ordC:Ord cC:=⟨λa b h=>by unfold cC at *;rcases cR a.1 b.1 with ⟨c,e⟩|⟨c,e⟩|⟨c,e⟩<;>rcases cR b.1 a.1 with ⟨h2,e'⟩|⟨h2,e'⟩|⟨h2,e'⟩<;>rw [e] at h<;>rw [e']<;>grind,
 λa b d h f=>by unfold cC at *;rcases cR a.1 b.1 with ⟨c,e⟩|⟨c,e⟩|⟨c,e⟩<;>rcases cR b.1 d.1 with ⟨h2,e'⟩|⟨h2,e'⟩|⟨h2,e'⟩<;>rcases cR a.1 d.1 with ⟨h3,e3⟩|⟨h3,e3⟩|⟨h3,e3⟩<;>rw [e] at h<;>rw [e'] at f<;>rw [e3]<;>grind⟩
def RC (V:View)(v:Value)(c:oJ):Prop:=∃(x y:Int)(p:OA),v=.agg #[.int .i64 x,.int .i64 y,.pointer p,.int .i64 c.2.1,.int .i64 c.2.2]/\RR V (.agg #[.int .i64 x,.int .i64 y,.pointer p]) c.1/\Sz 1000000 c.1
theorem RC.le {V V':ut}{c:oJ}(h:RC V v c)(l:V.Le V'):RC V' v c:=by
 obtain ⟨x,y,p,e,a,b⟩:=h;exact ⟨x,y,p,e,a.le l,b⟩
theorem RC.shape {c:oJ}(h:RC V v c):∃(x y:Int)(p:OA)(a b:Int),v=dB #[qvK .i64 x,qvK .i64 y,qvW p,qvK .i64 a,qvK .i64 b]:=by
 obtain ⟨x,y,p,e,-⟩:=h;exact ⟨x,y,p,_,_,e⟩
theorem Nr {w:un}{a b:oJ}(h:RC V v a)(h':RC V w b):aa prog 224 #[v,w] V λr V'=>r=qvK .i64 (cC a b):=by
 obtain ⟨x,y,p,rfl,f,g⟩:=h;obtain ⟨i,j,k,rfl,c,d⟩:=h';refine BI V _ λl e=>(lK (f.le e) (c.le e) g d).s ?_;rintro r V2 m rfl;exact ⟨_,rfl,λn o=>rfl⟩
structure SR (V:View) (n:Nat) (vs:List Value) (l:List oJ):Prop where
 row:Row 5 RC V vs l
 len:n=l.length
 Fy:l.length<50
theorem SR.le {V V':ut}{l:pz oJ}(h:SR V n vs l)(e:V.Le V'):SR V' n vs l:=⟨h.row.le λ_ _ g=>RC.le g e,h.len,h.Fy⟩
theorem SR.get {l:pz oJ}(h:SR V n vs l)(hk:k<l.length):∃(x y:Int)(p:OA)(a b:Int),
  ((0+k*5)+5<=vs.length/\(vs.drop (0+k*5)).take 5=[qvK .i64 x,qvK .i64 y,qvW p,qvK .i64 a,qvK .i64 b])/\RC V (dB #[qvK .i64 x,qvK .i64 y,qvW p,qvK .i64 a,qvK .i64 b]) (l.getD k dC):=by
 obtain ⟨xs,-,c,f,g⟩:=h.row.get (d:=dC) hk (by decide);obtain ⟨x,y,p,a,b,e⟩:=c.shape;have e:=congrArg Array.toList (Value.agg.inj e);subst e;rw [Qz1];exact ⟨x,y,p,a,b,⟨f,g⟩,c⟩
theorem RC.cells {c:oJ}(h:RC V v c):∃xs:pz un,v=.agg xs.toArray/\xs.length=5/\∀x∈xs,x.oneCell'=true:=by
 obtain ⟨_,_,_,_,_,rfl⟩:=h.shape;exact ⟨_,rfl,rfl,Qz3.1 rfl⟩
theorem J1 {lb:Nat}{l:pz oJ}(hw:V.w.heap[lb]?=some (.cells vs.toArray 338 (0,0)))(hx:V.X lb)(h:SR V n vs l) :
  aa prog 223 #[hF (some ⟨lb,0,none⟩) n c,.func (.func 224) #[] #[]] V λr V'=>r=qvZ #[]/\∃vs' l',V'.w.heap[lb]?=some (.cells vs'.toArray 338 (0,0))/\SR V' n vs' l'/\l'.Perm l/\l'.Pairwise λx y=>x.1<=y.1:=by
 have Fy:=h.Fy;refine (I0 (R:=RC) (cf:=cC) EG aggC sizC RC.le RC.cells ordC Nr (by decide) hw hx h.row h.len).s ?_;rintro r V' i ⟨rfl,vs',l',e,row,pm,g⟩;refine ⟨rfl,vs',l',e,⟨row,h.len.m pm.length_eq.symm,by rw [pm.length_eq];exact Fy⟩,pm,g.imp λ{a b} d=>?_⟩;unfold cC at d;rcases cR b.1 a.1 with ⟨f,e⟩|⟨f,e⟩|⟨f,e⟩<;>rw [e] at d<;>grind
theorem zF:aa prog 223 #[hF none 0 0,.func (.func 224) #[] #[]] V λr V'=>r=qvZ #[]:=
 (wg EG).s λ_ _ _ h=>h.1
def pe (m:Nat):Prop:=∀(V:View)(lb n c:Nat)(vs:List Value)(l:List oJ),l.length=m->V.w.heap[lb]?=some (.cells vs.toArray 338 (0,0))->V.X lb->SR V n vs l ->
 aa prog 223 #[.slice (some ⟨lb,0,none⟩) n c,.func (.func 224) #[] #[]] V λr V'=>r=.tuple #[]/\∃vs' l',V'.w.heap[lb]?=some (.cells vs'.toArray 338 (0,0))/\SR V' n vs' l'/\l'.Perm l/\l'.Pairwise λx y=>x.1<=y.1
theorem K9 (m:Nat):pe m:=λ_ _ _ _ _ _ _ hw a h=>J1 hw a h
theorem D4 {V:ut}{ab ob fa:Nat}{x y:Int}{acc:md->md->md}(hw:V.w.heap[ab]?=some (.cells #[.func (.func fa) #[] #[]] 276 (0,0)))(hx:V.X ab)
  (hw':V.w.heap[ob]?=some (.cells #[qvK .i64 x,qvK .i64 y] 336 (0,0)))(hx':V.X ob)(hne:ab≠ob)(hf:∀a b (W:ut),aa prog fa #[qvQ a,qvQ b] W λr _=>r=qvQ (acc a b)) :
  aa prog 225 #[qvW (some ⟨ab,0,none⟩),qvW (some ⟨ob,0,none⟩)] V λr V'=>r=qvQ (acc (decide ((0:Int)<x)) (decide ((0:Int)<y))) /\
   V'.w.heap[ab]?=some (.cells #[.func (.func fa) #[] #[]] 276 (0,0))/\V'.w.heap[ob]?=some (.cells #[qvK .i64 x,qvK .i64 y] 336 (0,0)):=by
 refine BJ ab ob fa x y V _ hw hx hw' hx' hne ⟨by decide,by decide,λc f=>(hf _ _ c).s ?_⟩;rintro r V2 g rfl;exact ⟨_,rfl,λh i d e=>⟨rfl,d,e⟩⟩
def Mz (A:List Sp)(k:Nat)(m:Int):List Value:=if k=0 then [.int .i64 m,.int .i64 0] else if k=1 then [.int .i64 (mD A),.int .i64 m] else []
theorem UG {m:Int}(hk:k<2):(Mz A k m)[0+k*1]?=some (qvK .i64 m):=by
 obtain rfl|rfl:k=0\/k=1:=by omega
 ·rfl
 ·rfl
theorem UH {m:Int}(hk:k<2):(Mz A k m).length=2:=by
 obtain rfl|rfl:k=0\/k=1:=by omega
 ·rfl
 ·rfl
theorem UI {m m':Int}(hk:k<2):(Mz A k m).set (0+k*1) (qvK .i64 m')=Mz A k m':=by
 obtain rfl|rfl:k=0\/k=1:=by omega
 ·rfl
 ·rfl
theorem UD {a b:pz Sp}:mD (a++b)=mD a+mD b:=by
 induction a with
 | nil=>simp [mD]
 | cons s r ih=>simp only [Qc8,mD];omega
theorem FU:∀{a:pz Sp},0<=mD a/\mD a<=a.length
 | []=>⟨Qt0 _,Qt0 _⟩
 | s::r=>by
  have ⟨h1,h2⟩:=FU (a:=r);simp only [mD,Qw9];split<;>omega
theorem TH {c:oJ}:c∈oU A B->(c.2.1=0\/c.2.1=1)/\(c.2.2=1\/c.2.2=-1):=by
 intro h
 have one:∀{k:Int} {s:Sp},c∈jO k s->c.2.1=k/\(c.2.2=1\/c.2.2=-1):=λ{k s} h=>by
  rcases Qw3.1 h with h|h
  ·split at h
   ·cases h
   ·rw [Qq5.1 h];exact ⟨rfl,.inl rfl⟩
  ·split at h
   ·cases h
   ·rw [Qq5.1 h];exact ⟨rfl,.inr rfl⟩
 rcases Qw3.1 h with h|h<;>grind
theorem Gk {k:Int}:∀{l:pz oJ},(∀c∈l,c.2.2=1\/c.2.2=-1)->-(l.length:Int)<=iI k l/\iI k l<=l.length
 | [],_=>⟨Qt0 _,Qt0 _⟩
 | c::r,h=>by
  have ⟨h1,h2⟩:=Gk (k:=k) (l:=r) λx a=>h x (by simp [a]);have:=h c (by simp);simp only [iI,Qw9];split<;>omega
def It (A B:List Sp)(l:List oJ):List Value:=[.int .i64 (mD A+iI 0 l),.int .i64 (mD B+iI 1 l)]
def YF (A B:List Sp)(l:List oJ)(k:Int):Int:=if k=0 then mD A+iI 0 l else mD B+iI 1 l
theorem UJ {l:pz oJ}{k:Int}(hk:k=0\/k=1):(It A B l)[0+k.toNat*1]?=some (qvK .i64 (YF A B l k)):=by
 rcases hk with rfl|rfl<;>rfl
theorem UK {l:pz oJ}{c:oJ}(hk:c.2.1=0\/c.2.1=1):(It A B l).set (0+c.2.1.toNat*1) (qvK .i64 (YF A B l c.2.1+c.2.2))=It A B (l++[c]):=by
 unfold It YF;rw [Bq,Bq];simp only [iI];rcases hk with h|h<;>rw [h]
 ·simp [Int.add_assoc]
 ·simp [Int.add_assoc]
structure CR (V:View) (n c:Nat) (vs:List Value) (l:List oJ):Prop where
 len:n=l.length
 le:n<=c
 cap:c*5<=vs.length
 row:Row 5 RC V vs l
 ne:vs≠[]->l≠[]
theorem CR.snoc {l:pz oJ}(h:CR V n c vs l){x y:Int}{q:Rat}(hr:RR V (dB #[qvK .i64 x,qvK .i64 y,qvW p]) q)(hs:Sz 1000000 q)(k d:Int){sp:pz un}{c':Nat}(h1:n+1<=c')(h2:c'*5<=(n+1)*5+sp.length) :
  CR V (n+1) c' (vs.take (n*5)++([qvK .i64 x,qvK .i64 y,qvW p,qvK .i64 k,qvK .i64 d]:pz un)++sp) (l++[(q,k,d)]):=by
 have b:=h.len;have hc:=h.cap;have e:=h.le;refine ⟨by rw [Qq3,b];rfl,h1,?_,?_,λ_=>by simp⟩
 ·have f:(vs.take (n*5)).length=n*5:=by rw [Qq7];omega
  grind
 ·have:=h.row.snoc (sp:=sp) (xs:=[qvK .i64 x,qvK .i64 y,qvW p,qvK .i64 k,qvK .i64 d]) (a:=(q,k,d)) rfl ⟨x,y,p,rfl,hr,hs⟩ (by decide);grind
structure IR (V:View) (n c:Nat) (vs:List Value) (l:List Sp):Prop where
 len:n=l.length
 le:n<=c
 cap:c*8<=vs.length
 row:Row 8 eC V vs l
theorem IR.s {V':ut}{l:pz Sp}(h:IR V n c vs l)(e:V.Le V'):IR V' n c vs l:=⟨h.len,h.le,h.cap,h.row.le λ_ _ g=>eC.le g e⟩
theorem IR.nil:IR V 0 0 [] []:=⟨rfl,Qq2 _,Qq2 _,Row.nil⟩
theorem IR.snoc {l:pz Sp}(h:IR V n c vs l){x1 x2:Int}{y1 y2:Int}{q:OA}{s:Sp}(hr:RR V (dB #[qvK .i64 x1,qvK .i64 x2,qvW p]) s.lo)(hr':RR V (dB #[qvK .i64 y1,qvK .i64 y2,qvW q]) s.hi){sp:pz un}{c':Nat}(h1:n+1<=c')(h2:c'*8<=(n+1)*8+sp.length) :
  IR V (n+1) c' (vs.take (n*8)++([qvK .i64 x1,qvK .i64 x2,qvW p,qvK .i64 y1,qvK .i64 y2,qvW q,qvQ s.a,qvQ s.b]:pz un)++sp) (l++[s]):=by
 have d:=h.len;have hc:=h.cap;have e:=h.le;refine ⟨by rw [Qq3,d];rfl,h1,?_,?_⟩
 ·have f:(vs.take (n*8)).length=n*8:=by rw [Qq7];omega
  grind [List.length_cons]
 ·have:=h.row.snoc (sp:=sp) (xs:=[qvK .i64 x1,qvK .i64 x2,qvW p,qvK .i64 y1,qvK .i64 y2,qvW q,qvQ s.a,qvQ s.b]) (a:=s) rfl (qyW ⟨rfl,hr,hr'⟩) (by decide);grind
theorem one5 {x y:Int}{a b:Int}:∀v∈([qvK .i64 x,qvK .i64 y,qvW p,qvK .i64 a,qvK .i64 b]:pz un),v.oneCell'=true:=by
 intro v hm;simp only [Qq6,Qy0,or_false] at hm;rcases hm with rfl|rfl|rfl|rfl|rfl<;>rfl
theorem UC {x1 x2:Int}{y1 y2:Int}{q:OA}{a b:md}:∀v∈([qvK .i64 x1,qvK .i64 x2,qvW p,qvK .i64 y1,qvK .i64 y2,qvW q,qvQ a,qvQ b]:pz un),v.oneCell'=true:=by
 intro v hm;simp only [Qq6,Qy0,or_false] at hm;rcases hm with rfl|rfl|rfl|rfl|rfl|rfl|rfl|rfl<;>rfl
def LK (A B:List Sp)(k:Nat):List Sp:=if k=0 then A else B
def VO (A B:List Sp)(k:Nat):List oJ:=if k=0 then [] else if k=1 then A.flatMap (jO 0) else oU A B
def Zk (A B:List Sp)(k:Nat):List Value:=if k=2 then It A B [] else Mz A k 0
theorem Ha {A B:pz Sp}(hk:k<2):VO A B k++(LK A B k).flatMap (jO k)=VO A B (k+1):=by
 obtain rfl|rfl:k=0\/k=1:=by omega
 ·rfl
 ·rfl
theorem RG (hk:k<2):Mz A k (mD (LK A B k))=Zk A B (k+1):=by
 obtain rfl|rfl:k=0\/k=1:=by omega
 ·rfl
 ·simp [Mz,Zk,It,LK,iI]
end Go.Proofs.Tryz
