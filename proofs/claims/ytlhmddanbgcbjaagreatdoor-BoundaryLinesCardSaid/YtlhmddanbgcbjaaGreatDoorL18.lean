import Derived.Test.YtlhmddanbgcbjaaGreatDoorL17
import Derived.Test.YtlhmddanbgcbjaaGreatDoorL15
import Derived.Test.YtlhmddanbgcbjaaGreatDoorL8
import Derived.Test.YtlhmddanbgcbjaaGreatDoorL16
import Derived.Test.YtlhmddanbgcbjaaGreatDoorL5
import Derived.Test.YtlhmddanbgcbjaaGreatDoorL11
set_option linter.all false
open Go.IntKind (i64 u64 u32)
namespace Go.Proofs.Tryz
open Go.Eng Go.Big
open Go.Value renaming slice→qD,bool→dQ,pointer→dZ,tuple→dB,int→qvZ
variable{l:L3}{p:OA}
def cJ (l:L3):L3:=if l.1<0\/l.1=0/\l.2.1<0 then revL l else l
def Tr.gS:Tr->List L3
 | .leaf _=>[]
 | .node l a b=>l::(a.gS++b.gS)
theorem jw:∀t:Tr,t.gS.length=t.size
 | .leaf _=>rfl
 | .node _ a b=>by simp only [Tr.gS,Qw6,Qq3,jw a,jw b,Tr.size]
theorem uB {p:L3->Prop}:∀{t:Tr},t.dT p->∀x∈t.gS,p x
 | .leaf _,_,x,h=>by cases h
 | .node l a b,⟨h1,h2,h3⟩,x,h=>by
  rcases Qq5.1 h with rfl|h
  ·exact h1
  ·rcases Qw3.1 h with h|h
   ·exact uB h2 x h
   ·exact uB h3 x h
theorem Bd.rev (h:Bd l):Bd (revL l):=by obtain ⟨a,b,c⟩:=h;unfold Bd revL;simp only [Qd6];exact ⟨a,b,c⟩
theorem Bd.can (h:Bd l):Bd (cJ l):=by unfold cJ;split;{exact h.rev};{exact h}
theorem Bd.fF (h:Bd l):kH 1000 l:=⟨h.sz.1,h.sz.2.1,h.sz.2.2⟩
theorem Mk:(OE [((l.1:Rat)).num.sign,((l.2.1:Rat)).num.sign]<0)↔(l.1<0\/l.1=0/\l.2.1<0):=by
 rw [Qd9,Qd9];simp only [OE]
 rcases Qg4 l.1 0 with h|h|h<;>rcases Qg4 l.2.1 0 with h'|h'|h' <;>
  simp [Qc0,Qf0,h,h']<;>omega
theorem HA {V:ut}{v:un}{l:L3}(h:nI V v l):aa prog 164 #[v] V λr V'=>∃w b,r=dB #[w,dQ b]/\nI V' w (cJ l):=by have e:=h;obtain ⟨⟨B,C,p,D,E,q,F,G,r,rfl,n,o,H⟩,hb⟩:=h;obtain ⟨s1,s2,s3⟩:=hb.sz;refine yC V _ λI a=>(po (n.le a) s1).s ?_;rintro r V2 f rfl;refine ⟨_,rfl,λK j=>(po (o.le (a.m (f.m j))) s2).s ?_⟩;rintro r M s rfl;refine ⟨_,rfl,λN t O c=>(Hz (l:=[((l.1:Rat)).num.sign,((l.2.1:Rat)).num.sign]) rfl (λi v u=>⟨_,rfl,by rw [add_zero'];exact dH (xs:=Up [((l.1:Rat)).num.sign,((l.2.1:Rat)).num.sign]) c u⟩) (by simp)).s ?_⟩;rintro r P x rfl;have k:=a.m (f.m (j.m (s.m (t.m x))));refine ⟨_,rfl,λJ=>⟨λhc Q y=>(kv (L:=l) ((e.le (k.m y)).1) hb.fF (by decide)).s ?_,λhc R d=>?_⟩⟩;{have hc:=Mk.1 (of_decide_eq_true hc);rintro r z S g;have m:nI z r (revL l):=⟨g,hb.rev⟩;obtain ⟨_,_,_,_,_,_,_,_,_,rfl⟩:=m.shape;refine ⟨_,_,_,_,_,_,_,_,_,rfl,λT A=>⟨_,_,rfl,?_⟩⟩;unfold cJ;rw [if_pos hc];exact m.le A};{have hc:=of_decide_eq_false hc;refine ⟨_,_,rfl,?_⟩;unfold cJ;rw [if_neg λh=>hc (Mk.2 h)];exact e.le (k.m d)}
theorem one9 {a b:Int}{c d:Int}{q:OA}{e f:Int}{r:OA}:∀v∈([qvZ .i64 a,qvZ .i64 b,dZ p,qvZ .i64 c,qvZ .i64 d,dZ q,qvZ .i64 e,qvZ .i64 f,dZ r]:pz un),v.oneCell'=true:=by intro v hm;simp only [Qq5,Qx7,or_false] at hm;rcases hm with rfl|rfl|rfl|rfl|rfl|rfl|rfl|rfl|rfl<;>rfl
def S0:Tr->List L3
 | .leaf _=>[]
 | .node l _ _=>[cJ l]
theorem Fs {V:ut}{t:Tr}{ob lb n c:Nat}{vs:pz un}{l:pz L3}(h:RT V p t)(ha:t.dT Bd)(hw:V.w.heap[ob]?=some (.cells #[qD (mA lb c) n c] 193 (0,0)))(hx:V.X ob)
  (hv:vs≠[]->V.w.heap[lb]?=some (.cells vs.toArray 97 (0,0)))(hxv:vs≠[]->V.X lb)(hne:vs≠[]->ob≠lb)(hg:GR 9 nI V n c vs l)(hp:vs≠[]->0<n)(hn:n<=1000000:=by omega) :
  aa prog 163 #[dZ p,dZ (some ⟨ob,0,none⟩)] V λr V'=>∃(bm:Nat)(vm:pz un)(n' c':Nat),(vm≠[]->V'.w.heap[bm]?=some (.cells vm.toArray 97 (0,0)))/\(vm≠[]->V.w.heap.size<=bm\/(vs≠[]/\bm=lb))/\r=dB #[] /\
   V'.w.heap[ob]?=some (.cells #[qD (mA bm c') n' c'] 193 (0,0))/\GR 9 nI (V'.bu (vm≠[]) bm) n' c' vm (l++S0 t)/\(vm≠[]->0<n'):=by refine wQ p ob lb n c vs V _ hw hx hv hxv hne λT e=>(dU (h.le e)).s ?_;rintro r V2 f rfl;have y:∀{A B:Prop},A\/B\/False->A\/B:=λh=>h.imp id λh=>h.elim id False.elim;refine ⟨_,rfl,λk=>?_,λk U m hle o q s=>⟨m,vs,n,c,q,λh=>y (s h),rfl,o,?_,hp⟩⟩;{(cases t with|leaf i=>{cases k}|node ln a b=>{obtain ⟨z,E,F,G,H,I,J,K,L,M,pl,N,i,rfl,hb,u,-,-⟩:=h.le (e.m f);have d:∀j v,([qvZ .i64 E,qvZ .i64 F,dZ G,qvZ .i64 H,qvZ .i64 I,dZ J,qvZ .i64 K,qvZ .i64 L,dZ M,dZ pl,dZ N,dQ i]:pz un)[j]?=some v->V2.at ((⟨z,0,none⟩:Addr).add j) v:=by{intro j v hv;rw [add_zero'];exact dH (xs:=[_,_,_,_,_,_,_,_,_,_,_,_]) hb hv};refine ⟨rfl,rfl,_,_,_,_,_,_,_,_,_,⟨z,0,none⟩,rfl,d 0 _ rfl,d 1 _ rfl,d 2 _ rfl,d 3 _ rfl,d 4 _ rfl,d 5 _ rfl,d 6 _ rfl,d 7 _ rfl,d 8 _ rfl,λW C=>(HA (l:=ln) ⟨u.le C,ha.1⟩).s ?_⟩;rintro r O P ⟨w,b,rfl,D⟩;have x:=D;obtain ⟨_,_,_,_,_,_,_,_,_,rfl⟩:=D.shape;refine ⟨_,_,_,_,_,_,_,_,_,_,rfl,by omega,hg.le,hg.cap,rfl,one9,λsp c' Q R Y m hle o q s=>⟨m,_,n+1,c',q,λh=>y (s h),rfl,o,?_,λ_=>Nat.succ_pos n⟩⟩;have S:=e.m (f.m (C.m P));exact ((hg.s (V':=O) λ_ _ g=>nI.le g S).snoc rfl x (by decide) Q R).s λ_ _ g=>nI.le g hle})};{(cases t with|node ln a b=>{cases k}|leaf i=>{show GR 9 nI _ n c vs (l++[]);rw [Qx2];exact hg.s λ_ _ g=>nI.le g ((e.m f).m hle)})}
def UB:List Tr->List L3
 | []=>[]
 | t::r=>t.gS.map cJ++UB r
theorem Rm (ts:pz Tr)(x:Tr):UB (ts++[x]).reverse=x.gS.map cJ++UB ts.reverse:=by rw [List.reverse_append];rfl
theorem vU {V:ut}{t:Tr}{ob lb:Nat}(h:RT V p t)(ha:t.dT Bd)(hs:t.size<=400000)(hw:V.w.heap[ob]?=some (.cells #[qD (mA lb 0) 0 0] 193 (0,0)))(hx:V.X ob) :
  aa prog 162 #[dZ p,.func (.func 163) #[] #[dZ (some ⟨ob,0,none⟩)]] V λr V'=>∃(bm:Nat)(vm:pz un)(n' c':Nat),(vm≠[]->V'.w.heap[bm]?=some (.cells vm.toArray 97 (0,0)))/\(vm≠[]->V.w.heap.size<=bm)/\r=dB #[] /\
   V'.w.heap[ob]?=some (.cells #[qD (mA bm c') n' c'] 193 (0,0))/\GR 9 nI (V'.bu (vm≠[]) bm) n' c' vm (t.gS.map cJ)/\(vm≠[]->0<n'):=by
 refine rk p ob lb 0 0 [] V _ hw hx (λh=>absurd rfl h) (λh=>absurd rfl h) (λh=>absurd rfl h) ⟨λz k V'=>∃(d:pz Tr)(o:pz L3),z.1=d.length/\z.1<=z.2.1/\z.2.1<=z.2.2.1.length/\Xd V' z.2.2.1 d/\(∀x∈d,x.dT Bd)/\GR 9 nI V' z.2.2.2.1 z.2.2.2.2.1 z.2.2.2.2.2 o/\(z.2.2.2.2.2≠[]->0<z.2.2.2.1)/\o++UB d.reverse=t.gS.map cJ/\k=J7 d/\k<=2*t.size+1,
  ⟨(1,1,[dZ p],0,0,[]),2*t.size+1,⟨by (try dsimp only);and_intros<;>first|rfl|trivial|omega,[t],[],rfl,Qq2 _,Qq2 _,?_,λx hx=>by rw [Qq6.1 hx];exact ha,GR.nil,(λh=>absurd rfl h),by simp [UB],by simp [J7],Qq2 _⟩⟩,?_⟩
 ·intro i x hx
  match i,hx with
  | 0,hx=>cases hx;exact ⟨p,rfl,h⟩
  | n+1,hx=>cases hx
 ·rintro ⟨n,c,vs,n',c',us⟩ m W l1 ⟨d,o,h1,Y,Z,f,F,J,e,K,h6,h7⟩;dsimp only at h1 Y Z f J e ⊢;have a6:=UG d
  have a7:o.length<=1000000:=by have:=congrArg List.length K;rw [Qq3,Qy5,jw] at this;omega
  have gl:=J.len;refine ⟨by trivial,λG=>?_,λG V6 bk hle L M e3=>?_⟩
  ·have G:0<n:=by simpa using G
   have w1:i64.wrap ((n:Int)-1)=((n-1:Nat):Int):=by rw [aw (by omega)];omega
   rw [w1];simp only [Qq0,Qk5];have A:n-1<d.length:=by omega
   obtain ⟨q,Q,j⟩:=f (n-1) d[n-1] (Qq1 A)
   have B:d=d.take (n-1)++[d[n-1]]:=by rw [Qg7 A,Qv4 (by omega)]
   have s:=F _ (Qq9 A);generalize d[n-1]=x at j B s
   have L:o++(x.gS.map cJ++UB (d.take (n-1)).reverse)=t.gS.map cJ:=by rw [←Rm,←B];exact K
   have M:J7 d=J7 (d.take (n-1))+(2*x.size+1):=by
    conv=>lhs;rw [B]
    rw [Bb];simp [J7]
   have H:∀y∈d.take (n-1),y.dT Bd:=λy u=>F y (Qn6 u);refine ⟨⟨by omega,by omega⟩,Y,q,Q,⟨by omega,by omega⟩,λV2 R VY Zc f1 f2 f3 f4 f5=>(Fs (V:=V2.ar [VY,vb us V2.w.heap.size Zc]) (lb:=Zc) (l:=o) (RT.le (V:=W) (V':=V2.ar _) (λb o h=>R b o h) j) s f1 ⟨by simp,f2⟩ f3 (λh=>⟨by simp [rR h],f4 h⟩) f5 (J.s (V':=V2.ar _) λ_ _ g=>nI.le g λb o h=>R b o h) e).s ?_⟩;rintro r V3 l3 ⟨bm,vm,N,O,a1,a2,rfl,a3,a4,a5⟩;refine ⟨bm,vm,a1,a2,rfl,N,O,a3,λV4 l4=>?_⟩;have iu:V2.Le V3:=λb o h=>l3 b o h;have S:V2.Le (V3.shut.bu (vm≠[]) bm):=AQ (V':=V2) iu (View.Le.refl V2) λh=>(a2 h).imp id λh'=>by rw [h'.2];exact f4 h'.1
   have D:W.Le V4:=R.m (S.m l4);refine (dU (j.le D)).s ?_;rintro r V5 E rfl;have g5:GR 9 nI V5 N O vm (o++S0 x):=a4.s λ_ _ g=>nI.le g λb o h=>E b o (l4 b o h);refine ⟨_,rfl,λC=>?_,λC=>?_⟩
   ·have C:x.pS=false:=by{simpa using C};(cases x with|leaf i=>{cases C}|node ln a b=>{obtain ⟨bb,x1,x2,x3,y1,y2,y3,z1,z2,z3,pl,pr,i,rfl,hb,hl,T,U⟩:=j;have I:=(D.m E) _ _ hb;simp only [Tr.size] at M;refine ⟨rfl,rfl,pr,yk I 10 rfl,rfl,rfl,pl,yk I 9 rfl,by omega,by omega,by omega,rfl,by intro v hv;simp at hv;rcases hv with rfl|rfl<;>rfl,λsp c' k1 k2=>?_⟩;(refine ⟨(n-1+2,c',_,N,O,vm),J7 (d.take (n-1))+(2*a.size+1)+(2*b.size+1),by omega,⟨by (try dsimp only);and_intros<;>first|rfl|trivial,d.take (n-1)++[b,a],o++S0 (.node ln a b),?_,k1,?_,(f.le (D.m E)).UZ (by omega) (by omega) (U.le (D.m E)) (T.le (D.m E)),λy u=>?_,g5,a5,?_,?_,by omega⟩⟩);{simp;omega};{dsimp only;simp only [Qq3,Qq7,Qw6,Qk9];omega};{rcases Qw3.1 u with u|u;{exact H y u};{simp only [Qq5,Qx7,or_false] at u;rcases u with rfl|rfl;{exact s.2.2};{exact s.2.1}}};{rw [←L];have:UB (d.take (n-1)++[b,a]).reverse=a.gS.map cJ++(b.gS.map cJ++UB (d.take (n-1)).reverse):=by{rw [List.reverse_append];rfl};rw [this];simp only [Tr.gS,S0,Qn3,Qh6,Qy3,Qd0,Qm1]};{rw [Bb];simp [J7];omega}})
   ·have C:x.pS=true:=by{simpa using C};(cases x with|node ln a b=>{cases C}|leaf i=>{simp only [Tr.size] at M;(refine ⟨(n-1,c,vs,N,O,vm),J7 (d.take (n-1)),by omega,⟨by (try dsimp only);and_intros<;>first|rfl|trivial,d.take (n-1),o,?_,by dsimp only;omega,Z,λi t P=>?_,H,by simpa [S0] using g5,a5,by simpa [Tr.gS] using L,rfl,by omega⟩⟩);{simp;omega};{rw [Qy7] at P;split at P;{exact (f.le (D.m E)) i t P};{cases P}}})
  ·have G:n=0:=by{simpa using G};have:d=[]:=Qw8.1 (by omega);subst this;simp only [List.reverse_nil,UB,Qx2] at K;rw [←K];refine ⟨bk,us,n',c',M,λh=>?_,rfl,L,J.s λ_ _ g=>nI.le g hle,e⟩;rcases e3 h with h|h|h;{exact h};{exact absurd rfl h.1};{exact h.elim}
def WT (l m:List L3):Prop:=m.Perm l/\m.Pairwise λx y=>¬Tg y x<0
theorem Hx {V:ut}{t:Tr}(h:RT V p t)(ha:t.dT Bd)(hs:t.size<4000)(sl:E_ t.gS.length)(cl:Hd t.gS.length) :
  aa prog 109 #[dZ p] V λr V'=>∃q n c m,r=qD q n c/\bE 9 nI V' q n (C8 eL m)/\WT (t.gS.map cJ) m:=by refine BU V _ ⟨λz _=>z=(0,0,[]),⟨(0,0,[]),by and_intros<;>rfl,rfl⟩,?_⟩;rintro z V1 L rfl;dsimp only;refine ⟨rfl,λV2 M N D O P g3 g4 g5=>(vU (V:=V2.ar [N,vb [] V2.w.heap.size D]) (lb:=D) (RT.le (V:=V) (V':=V2.ar _) (λb o h=>M b o (L b o h)) h) ha (by omega) O ⟨by simp,P⟩).s ?_⟩;rintro r V3 l3 ⟨Q,v,n,c,R,S,rfl,T,x,U⟩;refine ⟨Q,v,R,λh=>.inl (S h),rfl,n,c,T,λk=>?_,λk y W E F G=>?_⟩;{subst k;have hc:=x.cap;have hle:=x.le;have hlen:=x.len;have X:c=0:=by{simp at hc;omega};subst X;have Y:n=0:=by{omega};subst Y;have i:t.gS.map cJ=[]:=Qw8.1 hlen.symm;refine ⟨rfl,λV4 l4=>xV.s ?_⟩;rintro r V5 l5 rfl;refine ⟨rfl,λV6 l6 Zc F G=>(cl.1 (by rw [←Qy5 (f:=cJ),i];rfl)).s ?_⟩;rintro r V7 l7 rfl;refine ⟨0,[],λh=>absurd rfl h,λh=>absurd rfl h,none,0,0,rfl,λV8 l8 ZL H=>⟨_,_,_,[],rfl,bE.nil,?_⟩⟩;rw [i];exact ⟨.refl _,List.Pairwise.nil⟩};{have a:GR 9 nI y n c v (t.gS.map cJ):=x.s λ_ _ g=>nI.le g λb o h=>W b o h;have hlen:=a.len;have A:(t.gS.map cJ).length<4000:=by{rw [Qy5,jw];exact hs};have I:=a.cap;have hle:=a.le;have Z:=U k;have B:c≠0:=by{omega};have C:∀b,mA b c=some ⟨b,0,none⟩:=λb=>by{unfold mA;rw [if_neg B]};rw [C];refine (sl (V:=y.ar [vb v y.w.heap.size E]) (lb:=E) (vs:=v) (l:=t.gS.map cJ) (Qy5 ..) (F k) ⟨by simp [rR k],G k⟩ ⟨a.row.le λ_ _ g=>nI.le g λb o h=>h,hlen,A⟩).s ?_;rintro r fy a6 ⟨rfl,d,m,H,J,pm,pw⟩;have j:=pm.length_eq;have s:d≠[]:=λe=>by{have:=J.row.jR (by decide);rw [e,j,←hlen] at this;simp at this;omega};refine ⟨rfl,k,d,s,H,λK bo u f1 f2=>?_⟩;rw [C];refine aa.monoB (cl.2 (V:=K.ar [vb d K.w.heap.size u]) (lb:=u) (vs:=d) (l:=m) (j.m (Qy5 ..)) (f1 s) ⟨by simp [rR s],f2 s⟩ (J.le λb o h=>bo b o h) hle) ?_;rintro r gI bW hH ⟨ws,rfl,e4,row,wl⟩;have hk:=P8 (e:=eL) (l:=m);refine ⟨u,ws,λ_=>e4,λ_=>.inr ⟨s,rfl⟩,some ⟨u,0,none⟩,(C8 eL m).length,c,by rw [C],λiT bP Nx f3=>⟨_,_,_,m,rfl,?_,pm,pw⟩⟩;exact bE.bJ f3 (row.le λ_ _ g=>nI.le g ((Rg λ_=>hH u (f2 s)).m bP)) (by decide)}
end Go.Proofs.Tryz
namespace Go.Proofs.Tryz.au
open Go.Eng Go.Big
variable{q:Rat}
def nv (l:L3)(v:V2):Rat:=(l.1:Rat)*v.1+(l.2.1:Rat)*v.2
def aM (l:L3):V2:=((l.2.1:Rat),-(l.1:Rat))
theorem MM (l:L3)(v:V2):nv l v=cr (aM l) v:=by unfold nv cr aM;grind
def Li (l:L3)(p v:V2):Int:=if (aq l p.1 p.2).num.sign=0 then (nv l v).num.sign else (aq l p.1 p.2).num.sign
def qn:Tr->V2->V2->Bool×Bool
 | .leaf i,_,_=>(i,true)
 | .node l a b,p,v=>if Li l p v=1 then qn a p v else if Li l p v=-1 then qn b p v else (false,false)
theorem SG:q.num.sign=-1↔q<0:=by rw [Ww1,←Int.not_le,←Rat.not_le,Wx3]
theorem YX:q.num.sign=1↔q>0:=by have h:=@SG (-q);grind [Rat.neg_num]
theorem ki:q.num.sign=0↔q=0:=by rw [Qm2,Qv0]
theorem jB (l:L3)(p v:V2)(s:Rat):aq l (p.1+s*v.1) (p.2+s*v.2)=aq l p.1 p.2+s*nv l v:=by unfold aq nv;grind
def F2 (p v:V2)(s:Rat)(l:L3):Rat:=
 if nv l v=0\/aq l p.1 p.2=0 then s
 else if -(aq l p.1 p.2*(nv l v)⁻¹)>0/\-(aq l p.1 p.2*(nv l v)⁻¹)*(1 / 2)<s then -(aq l p.1 p.2*(nv l v)⁻¹)*(1 / 2) else s
theorem inv_mul {c:Rat}(h:c≠0)(a:Rat):a*c⁻¹*c=a:=by rw [Rat.mul_assoc,Rat.inv_mul_cancel _ h,Rat.mul_one]
def half (u:V2):Int:=if u.2.num.sign>0\/u.2.num.sign=0/\u.1.num.sign>0 then 1 else if u.2.num.sign<0\/u.1.num.sign<0 then 2 else 0
def kt (u v:V2):Int:=if half u<half v then -1 else if half u>half v then 1 else -(cr u v).num.sign
theorem rO:q.num.sign>0↔q>0:=by
 have:=Wx3 (q:=-q);rw [Qs7] at this;rw [gt_iff_lt,Int.sign_pos_iff];have a:(0<=-q)↔¬q>0:=by constructor<;>intro h<;>grind
 rw [a] at this;by_cases h:q>0
 ·exact ⟨λ_=>h,λ_=>by
   have:¬0<=-q.num:=λg=>this.1 g h;omega⟩
 grind
theorem M9:q.num.sign<0↔q<0:=by have:=@rO (-q);grind [Rat.neg_num]
theorem eW (u:V2):half u=1/\up u\/half u=2/\dn u\/half u=0/\u.1=0/\u.2=0:=by unfold half up dn;split;{rename_i h;rw [rO,rO,ki] at h;exact .inl ⟨rfl,h⟩};{rename_i h;rw [rO,rO,ki] at h;split;{rename_i a;rw [M9,M9] at a;exact .inr (.inl ⟨rfl,by grind⟩)};{rename_i a;rw [M9,M9] at a;exact .inr (.inr ⟨rfl,by grind,by grind⟩)}}
theorem Ff {u v:V2}:kt u v<0↔half u<half v\/half u=half v/\cr u v>0:=by have:=@rO (cr u v);unfold kt;grind
theorem Hj {u v:V2}:kt u v=0↔half u=half v/\cr u v=0:=by have:=@ki (cr u v);grind [kt]
theorem Pz (u v:V2):kt u v<0\/kt u v=0\/kt v u<0:=by rw [Ff,Hj,Ff];grind [Mo]
theorem Fe (u v:V2)(h:kt u v<0):¬kt v u<0:=by grind [Ff,Mo]
theorem TY {a b d:V2}(hab:half a=half b)(hbd:half b=half d)(h1:cr a b<=0)(h2:cr b d<=0):cr a d<=0:=by by_cases h:cr a d<=0;{exact h};exfalso;have c:cr a d>0:=by{grind};have p:=jac2 a d b;rcases eW b with ⟨e,hb⟩|⟨e,hb⟩|⟨e,hb⟩;{have g:up a:=by{(rcases eW a with ⟨f,h⟩|⟨f,h⟩|⟨f,h⟩<;>first|exact h|omega)};have i:up d:=by{(rcases eW d with ⟨f,h⟩|⟨f,h⟩|⟨f,h⟩<;>first|exact h|omega)};unfold up at g hb i;have m:=mn (show -(cr a b)≥0 by grind) (show d.2≥0 by grind);have n:=mn (show -(cr b d)≥0 by grind) (show a.2≥0 by grind);have o:=mn (show cr a d≥0 by grind) (show b.2≥0 by grind);have j:cr a d*b.2=0:=by{grind};have k:b.2=0:=by{rcases Qg6.1 j with h|h<;>grind};have l:b.1>0:=by{grind};have d2:d.2=0:=by{by_cases q:d.2>0;{have:=mp l q;unfold cr at h2;rw [k] at h2;grind};{grind}};have:=mn (show a.2≥0 by grind) (show d.1≥0 by grind);unfold cr at c;rw [d2] at c;grind};{have g:dn a:=by{(rcases eW a with ⟨f,h⟩|⟨f,h⟩|⟨f,h⟩<;>first|exact h|omega)};have i:dn d:=by{(rcases eW d with ⟨f,h⟩|⟨f,h⟩|⟨f,h⟩<;>first|exact h|omega)};unfold dn at g hb i;have m:=mn (show -(cr a b)≥0 by grind) (show -d.2≥0 by grind);have n:=mn (show -(cr b d)≥0 by grind) (show -a.2≥0 by grind);have o:=mn (show cr a d≥0 by grind) (show -b.2≥0 by grind);have j:cr a d*b.2=0:=by{grind};have k:b.2=0:=by{rcases Qg6.1 j with h|h<;>grind};have l:-b.1>0:=by{grind};have d2:d.2=0:=by{by_cases q:-d.2>0;{have:=mp l q;unfold cr at h2;rw [k] at h2;grind};{grind}};have:=mn (show -a.2≥0 by grind) (show -d.1≥0 by grind);unfold cr at c;rw [d2] at c;grind};grind [eW]
theorem Xm {u v:V2}:¬kt u v<0↔half v<half u\/half u=half v/\cr u v<=0:=by rw [Ff];grind
theorem Xn (a b d:V2)(h:¬kt a b<0)(h':¬kt b d<0):¬kt a d<0:=by rw [Xm] at *;grind [TY]
theorem PA {u v:V2}(hu:nz u)(h:kt u v=0):∃c:Rat,c>0/\u=(c*v.1,c*v.2):=by
 rw [Hj] at h;obtain ⟨e,c⟩:=h;have fin:∀k:Rat,k>0->u.1=k*v.1->u.2=k*v.2->∃c:Rat,c>0/\u=(c*v.1,c*v.2):=λk a b g=>⟨k,a,Prod.ext b g⟩
 have pos:∀x y:Rat,y≠0->x*y>0->x*y⁻¹>0:=λx y j h=>by have e:=inv_mul j x;generalize x*y⁻¹=t at *;have o:t*(y*y)=x*y:=by{grind};have:=sq_pos (u:=(y,0)) (.inl j);unfold dt at this;by_cases q:t>0;{exact q};{have:=mn (show -t≥0 by grind) (show y*y≥0 by grind);grind}
 unfold cr at c
 have two:v.2≠0->u.2*v.2>0->∃c:Rat,c>0/\u=(c*v.1,c*v.2):=λa b=>by refine fin (u.2*v.2⁻¹) (pos _ _ a b) ?_ (inv_mul a _).symm;grind
 have one:v.1≠0->u.1*v.1>0->v.2=0->u.2=0->∃c:Rat,c>0/\u=(c*v.1,c*v.2):=λa b g m=>
  fin (u.1*v.1⁻¹) (pos _ _ a b) (inv_mul a _).symm (by rw [g,m];grind)
 rcases eW u with ⟨l,h⟩|⟨l,h⟩|⟨l,h⟩
 ·have i:up v:=by{(rcases eW v with ⟨d,h⟩|⟨d,h⟩|⟨d,h⟩<;>first|exact h|omega)};unfold up at h i;by_cases q:v.2>0;{refine two (by grind) ?_;by_cases f:u.2>0;{exact mp f q};grind};{have v2:v.2=0:=by{grind};have v1:v.1>0:=by{grind};by_cases f:u.2>0;{have:=mp f v1;rw [v2] at c;grind};{exact one (by grind) (mp (by grind) v1) v2 (by grind)}}
 ·have i:dn v:=by{(rcases eW v with ⟨d,h⟩|⟨d,h⟩|⟨d,h⟩<;>first|exact h|omega)};unfold dn at h i;by_cases q:v.2<0;{refine two (by grind) ?_;by_cases f:u.2<0;{have:=mp (show -u.2>0 by grind) (show -v.2>0 by grind);grind};{have n:u.2=0:=by{grind};rw [n] at c;grind}};{have v2:v.2=0:=by{grind};have v1:-v.1>0:=by{grind};by_cases f:u.2<0;{have:=mp (show -u.2>0 by grind) v1;rw [v2] at c;grind};{refine one (by grind) ?_ v2 (by grind);have:=mp (show -u.1>0 by grind) v1;grind}}
 ·unfold nz at hu;grind
theorem yX {a b c x y z:Int}(h1:a*y=b*x)(h2:a*z=c*x)(g:Nat.gcd (Nat.gcd x.natAbs y.natAbs) z.natAbs=1):x.natAbs∣a.natAbs:=by have d:a.natAbs*y.natAbs=b.natAbs*x.natAbs:=by{rw [←Qv3,←Qv3,h1]};have e:a.natAbs*z.natAbs=c.natAbs*x.natAbs:=by{rw [←Qv3,←Qv3,h2]};have d1:x.natAbs∣a.natAbs*Nat.gcd (Nat.gcd x.natAbs y.natAbs) z.natAbs:=by{rw [←Nat.gcd_mul_left,←Nat.gcd_mul_left];exact Nat.dvd_gcd (Nat.dvd_gcd ⟨a.natAbs,by rw [Qv5]⟩ ⟨b.natAbs,by rw [d,Qv5]⟩) ⟨c.natAbs,by rw [e,Qv5]⟩};rwa [g,Qk5] at d1
theorem OV {l m:L3}(ol:cW l=true)(om:cW m=true)(cl:cJ l=l)(cm:cJ m=m){x y:Rat}(hl:aq l x y=0)(hm:aq m x y=0)
  (hc:cr (aM l) (aM m)=0):l=m:=by unfold cW at ol om;rw [Qx1,decide_eq_true_iff,decide_eq_true_iff] at ol om;have d:l.1*m.2.1=l.2.1*m.1:=by{unfold cr aM at hc;have:(l.1:Rat)*(m.2.1:Rat)=(l.2.1:Rat)*(m.1:Rat):=by{grind};exact_mod_cast this};unfold aq at hl hm;have o:(l.1:Rat)*(m.2.1:Rat)=(l.2.1:Rat)*(m.1:Rat):=by{exact_mod_cast d};have e:l.1*m.2.2=l.2.2*m.1:=by{have:(l.1:Rat)*(m.2.2:Rat)=(l.2.2:Rat)*(m.1:Rat):=by{grind};exact_mod_cast this};have f:l.2.1*m.2.2=l.2.2*m.2.1:=by{have:(l.2.1:Rat)*(m.2.2:Rat)=(l.2.2:Rat)*(m.2.1:Rat):=by{grind};exact_mod_cast this};obtain ⟨p,g⟩:=ol;obtain ⟨q,i⟩:=om;have j:Nat.gcd (Nat.gcd l.2.1.natAbs l.1.natAbs) l.2.2.natAbs=1:=by{rw [Qd5 l.2.1.natAbs];exact g};have k:Nat.gcd (Nat.gcd m.2.1.natAbs m.1.natAbs) m.2.2.natAbs=1:=by{rw [Qd5 m.2.1.natAbs];exact i};have s:l.1.natAbs=m.1.natAbs:=Nat.dvd_antisymm (yX (a:=m.1) (b:=m.2.1) (c:=m.2.2) (by rw [Qg9,←d,Qg9]) (by rw [Qg9,←e,Qg9]) g) (yX d e i);have t:l.2.1.natAbs=m.2.1.natAbs:=Nat.dvd_antisymm (yX (a:=m.2.1) (b:=m.1) (c:=m.2.2) (by rw [Qg9,d,Qg9]) (by rw [Qg9,←f,Qg9]) j) (yX (b:=l.1) (c:=l.2.2) d.symm f k);have sl:¬(l.1<0\/l.1=0/\l.2.1<0):=λh=>by{unfold cJ at cl;rw [if_pos h] at cl;have n:-l.1=l.1:=congrArg (λx:L3=>x.1) cl;have r:-l.2.1=l.2.1:=congrArg (λx:L3=>x.2.1) cl;omega};have sm:¬(m.1<0\/m.1=0/\m.2.1<0):=λh=>by{unfold cJ at cm;rw [if_pos h] at cm;have n:-m.1=m.1:=congrArg (λx:L3=>x.1) cm;have r:-m.2.1=m.2.1:=congrArg (λx:L3=>x.2.1) cm;omega};have n:l.1=m.1:=by{omega};by_cases z:l.1=0;{grind [Int.eq_of_mul_eq_mul_left]};{grind [Int.eq_of_mul_eq_mul_left,Int.mul_comm]}
end Go.Proofs.Tryz.au
namespace Go.Proofs.Tryz.au
variable{l:L3}{M:List L3}
def mx (x:Rat×Rat)(t:Rat):Rat:=x.1+t*(x.2-x.1)
theorem KU {x:Rat×Rat}{t:Rat}(h1:x.1>0)(h2:x.2>0)(t0:t>0)(t1:t<=1):mx x t>0:=by have a:=mn (show 1-t≥0 by grind) (show x.1≥0 by grind);have b:=mp t0 h2;unfold mx;grind
theorem YF {x:Rat×Rat}{t s:Rat}(h1:x.1>0)(hs:mx x s≥0)(s0:s>0)(t0:t>0)(ts:t<=s):mx x t≥0:=by unfold mx at *;have a:=mn (show s-t≥0 by grind) (show x.1≥0 by grind);have b:=mn (show t≥0 by grind) hs;by_cases h:x.1+t*(x.2-x.1)≥0;{exact h};{have:=mp s0 (show -(x.1+t*(x.2-x.1))>0 by grind);grind}
theorem zH {y:Rat×Rat}(h1:y.1>0){s:Rat}(s0:s>0)(hs:mx y s<=0):∃t,t>0/\t<=s/\mx y t=0:=by have a:y.1-y.2>0:=by{by_cases c:y.1-y.2>0;{exact c};{have:=mn (show s≥0 by grind) (show y.2-y.1≥0 by grind);unfold mx at hs;grind}};have e:=inv_mul (show y.1-y.2≠0 by grind) y.1;have p:=mp h1 (Wy6.2 a);refine ⟨y.1*(y.1-y.2)⁻¹,p,?_,?_⟩;{generalize y.1*(y.1-y.2)⁻¹=t at *;by_cases c:t<=s;{exact c};{have:=mp (show t-s>0 by grind) a;unfold mx at hs;grind}};grind [mx]
theorem KB:∀(L:pz (Rat×Rat)),(∀x∈L,x.1>0)->(∃x∈L,x.2<=0)->∃t,t>0/\t<=1/\(∀x∈L,mx x t≥0)/\∃x∈L,mx x t=0
 | [],_,h=>by obtain ⟨x,hx,_⟩:=h;cases hx
 | y::L,h0,h=>by
  have j:=h0 y (Qw5 ..);have f:=λx hx=>h0 x (Qq8 y hx);by_cases c:∃x∈L,x.2<=0
  ·have ⟨t,t0,t1,a,x,hx,e⟩:=KB L f c;by_cases g:mx y t≥0
   ·exact ⟨t,t0,t1,λz b=>by rcases Qq5.1 b with rfl|b;exact g;exact a z b,x,Qq8 _ hx,e⟩
   ·have ⟨s,d,st,es⟩:=zH j t0 (by grind);exact ⟨s,d,by grind,λz b=>by rcases Qq5.1 b with rfl|b;grind;exact YF (f z b) (a z b) t0 d st,y,Qw5 ..,es⟩
  ·obtain ⟨x,hx,i⟩:=h
   have:x=y:=by
    rcases Qq5.1 hx with rfl|hx
    ·rfl
    ·exact absurd ⟨x,hx,i⟩ c
   subst this;have ⟨s,d,st,es⟩:=zH j (s:=1) (by decide) (by unfold mx;grind);refine ⟨s,d,st,λz b=>?_,x,Qw5 ..,es⟩;rcases Qq5.1 b with rfl|b
   ·grind
   ·have:z.2>0:=by{by_cases q:z.2>0;{exact q};{exact absurd ⟨z,b,by grind⟩ c}};have:=KU (f z b) this d st;grind
theorem Gr:∀(L:pz (Rat×Rat)),(∀x∈L,x.1>0)->∃s,s>0/\∀x∈L,x.1+s*x.2>0
 | [],_=>⟨1,by decide,λx h=>by cases h⟩
 | y::L,h0=>by
  have hy:=h0 y (Qw5 ..);have ⟨s,d,h⟩:=Gr L λx f=>h0 x (Qq8 y f);by_cases c:y.1+s*y.2>0
  ·exact ⟨s,d,λz a=>by rcases Qq5.1 a with rfl|a;exact c;exact h z a⟩
  ·have b:-y.2>0:=by
    by_cases q:y.2<0
    ·grind
    ·have:=mn (show s≥0 by grind) (show y.2≥0 by grind);grind
   have e:=inv_mul (show -y.2≠0 by grind) y.1;have p:=mp hy (Wy6.2 b);generalize y.1*(-y.2)⁻¹=r at *
   have i:r<=s:=by by_cases q:r<=s;{exact q};{have:=mp (show r-s>0 by grind) b;grind}
   refine ⟨r*(1 / 2),by grind,λz a=>?_⟩;rcases Qq5.1 a with rfl|a
   ·grind
   ·have g:=h0 z (Qq8 _ a);by_cases q:z.2≥0;{have:=mn (show r*(1 / 2)≥0 by grind) q;grind};{have:=mn (show s-r*(1 / 2)≥0 by grind) (show -z.2≥0 by grind);grind}
def pos (M:List L3)(p:V2):Prop:=∀m∈M,aq m p.1 p.2>0
def Es (M:List L3)(l:L3):Prop:=∃p:V2,aq l p.1 p.2=0/\∀m∈M,m≠l->aq m p.1 p.2>0
def Dif (M:List L3):Prop:=∀l∈M,∀m∈M,l≠m->∀p:V2,aq l p.1 p.2=0->aq m p.1 p.2=0->cr (aM l) (aM m)≠0
theorem UX {m:L3}{w:V2}(hw:w.1≠0\/w.2≠0)(h1:nv l w=0)(h2:nv m w=0):cr (aM l) (aM m)=0:=by have a:cr (aM l) (aM m)*w.1=0:=by{unfold nv at *;unfold cr aM;grind};have b:cr (aM l) (aM m)*w.2=0:=by{unfold nv at *;unfold cr aM;grind};grind
theorem Mn (u:V2):cr u u=0:=by unfold cr;grind
theorem vi (m:L3)(q p:V2)(t:Rat):aq m (q.1+t*(p.1-q.1)) (q.2+t*(p.2-q.2))=aq m q.1 q.2+t*(aq m p.1 p.2-aq m q.1 q.2):=by unfold aq;grind
theorem YH (m:L3)(q p:V2)(t:Rat):nv m (q.1+t*(p.1-q.1),q.2+t*(p.2-q.2))=nv m q+t*(nv m p-nv m q):=by unfold nv;grind
theorem YI (m:L3)(q x:V2):nv m (q.1-x.1,q.2-x.2)=aq m q.1 q.2-aq m x.1 x.2:=by unfold nv aq;grind
theorem ess (hd:Dif M)(hn:∀m∈M,(aM m).1≠0\/(aM m).2≠0){q p:V2}(hq:pos M q)(hp:∀m∈M,Es M m->aq m p.1 p.2>0):pos M p:=by
 intro D E;by_cases c:aq D p.1 p.2>0
 ·exact c
 exfalso;let f:L3->Rat×Rat:=λm=>(aq m q.1 q.2,aq m p.1 p.2);have ⟨t,t0,t1,ge,x,j,ex⟩:=KB (M.map f) (λx j=>by obtain ⟨m,hm,rfl⟩:=Qz1.1 j;exact hq m hm) ⟨f D,Qr2 E,by show aq D p.1 p.2<=0;grind⟩;obtain ⟨i,l,rfl⟩:=Qz1.1 j;let X:V2:=(q.1+t*(p.1-q.1),q.2+t*(p.2-q.2));have O:∀m,aq m X.1 X.2=mx (f m) t:=λm=>vi m q p t;have F:∀m∈M,aq m X.1 X.2≥0:=λm hm=>by rw [O];exact ge _ (Qr2 hm)
 have P:aq i X.1 X.2=0:=by rw [O];exact ex
 let u:V2:=(q.1-X.1,q.2-X.2);have Q:∀m,nv m u=aq m q.1 q.2-aq m X.1 X.2:=λm=>YI m q X;let Z:=M.filter λm=>decide (aq m X.1 X.2=0);have A:∀m,m∈Z↔m∈M/\aq m X.1 X.2=0:=λm=>by simp [Z,Qb7]
 have G:i∈Z:=(A i).2 ⟨l,P⟩;let d:=aM i;have d0:nv i d=0:=by rw [MM];exact Mn _
 let g:L3->Rat×Rat:=λm=>(nv m u,nv m d)
 have ⟨k,k0,k1,H,y,S,T⟩:=KB (Z.map g) (λx j=>by
  obtain ⟨m,hm,rfl⟩:=Qz1.1 j;obtain ⟨I,U⟩:=(A m).1 hm;show nv m u>0;rw [Q,U];have:=hq m I;grind) ⟨g i,Qr2 G,by show nv i d<=0;rw [d0];grind⟩
 obtain ⟨o,J,rfl⟩:=Qz1.1 S;obtain ⟨n,r⟩:=(A o).1 J;let w:V2:=(u.1+k*(d.1-u.1),u.2+k*(d.2-u.2));have K:∀m,nv m w=mx (g m) k:=λm=>YH m u d k;have R:nv o w=0:=by rw [K];exact T
 have V:w.1≠0\/w.2≠0:=by by_cases e:k=1;{have:=hn i l;have B:w.1=d.1:=by{dsimp only [w];rw [e];grind};have C:w.2=d.2:=by{dsimp only [w];rw [e];grind};rw [B,C];exact this};{have a:nv i w>0:=by{rw [K];show nv i u+k*(nv i d-nv i u)>0;rw [d0];have:nv i u>0:=by{rw [Q,P];have:=hq i l;grind};have:=mp (show 1-k>0 by grind) this;grind};by_cases B:w.1=0;{by_cases C:w.2=0;{unfold nv at a;rw [B,C] at a;grind};{exact .inr C}};{exact .inl B}}
 have ⟨s,W,Y⟩:=Gr ((M.filter λm=>decide (aq m X.1 X.2>0)).map λm=>(aq m X.1 X.2,nv m w)) (λx j=>by
  obtain ⟨m,hm,rfl⟩:=Qz1.1 j;simpa using (Qb7.1 hm).2)
 have es:Es M o:=by refine ⟨(X.1+s*w.1,X.2+s*w.2),?_,λm hm L=>?_⟩;{rw [jB,r,R];grind};{rw [jB];by_cases z:aq m X.1 X.2=0;{have N:=(A m).2 ⟨hm,z⟩;have g0:nv m w≥0:=by{rw [K];exact H _ (Qr2 N)};have ne:nv m w≠0:=λe=>hd o n m hm (λh=>L h.symm) X r z (UX V R e);have:=mp W (show nv m w>0 by grind);rw [z];grind};{have gz:=F m hm;have v:(aq m X.1 X.2,nv m w)∈((M.filter λm=>decide (aq m X.1 X.2>0)).map λm=>(aq m X.1 X.2,nv m w)):=Qz1.2 ⟨m,Qb7.2 ⟨hm,by simp;grind⟩,rfl⟩;exact Y _ v}}
 have a:=hp o n es;have b:=hq o n;grind [KU]
def MK (l:L3):V2:=((l.1:Rat),(l.2.1:Rat))
theorem sq_p {x y:Rat}(h:x≠0\/y≠0):x*x+y*y>0:=by have p:∀z:Rat,z≠0->z*z>0:=λz a=>by{by_cases c:z>0;{exact mp c c};{have:=mp (show -z>0 by grind) (show -z>0 by grind);grind}};have q:∀z:Rat,z*z≥0:=λz=>by{by_cases c:z≥0;{exact mn c c};{have:=mn (show -z≥0 by grind) (show -z≥0 by grind);grind}};rcases h with h|h;{have:=p x h;have:=q y;grind};{have:=p y h;have:=q x;grind}
theorem RO (h:(aM l).1≠0\/(aM l).2≠0):nv l (MK l)>0:=by have:nv l (MK l)=(l.1:Rat)*(l.1:Rat)+(l.2.1:Rat)*(l.2.1:Rat):=rfl;refine sq_p ?_;rcases h with h|h;{exact .inr h};{left;intro e;apply h;show -(l.1:Rat)=0;rw [e];grind}
theorem Mr (hd:Dif M)(hn:∀m∈M,(aM m).1≠0\/(aM m).2≠0){q:V2}(hq:pos M q)(h0:M≠[]):∃l∈M,Es M l:=by have ⟨l,a⟩:=List.exists_mem_of_ne_nil M h0;by_cases c:∃l∈M,Es M l;{exact c};exfalso;have d:=RO (hn l a);have e:=inv_mul (show nv l (MK l)≠0 by grind) (aq l q.1 q.2);have b:=ess hd hn hq (p:=(q.1+-(aq l q.1 q.2*(nv l (MK l))⁻¹)*(MK l).1,q.2+-(aq l q.1 q.2*(nv l (MK l))⁻¹)*(MK l).2)) (λm hm he=>absurd ⟨m,hm,he⟩ c) l a;rw [jB] at b;grind
theorem FK {M:pz L3}(hn:(aM l).1≠0\/(aM l).2≠0){x:V2}(hx:aq l x.1 x.2=0)(h:∀m∈M,m≠l->aq m x.1 x.2>0)(L:pz L3)(hL:∀m∈L,aq m x.1 x.2>0):∃q:V2,pos M q/\aq l q.1 q.2>0/\pos L q:=by
 have c:=RO hn
 have ⟨s,d,a⟩:=Gr (((M.filter λm=>decide (m≠l))++L).map λm=>(aq m x.1 x.2,nv m (MK l))) (λy f=>by
  obtain ⟨m,hm,rfl⟩:=Qz1.1 f;rcases Qw3.1 hm with hm|hm
  ·have:=Qb7.1 hm;exact h m this.1 (by simpa using this.2)
  ·exact hL m hm)
 have b:aq l (x.1+s*(MK l).1) (x.2+s*(MK l).2)>0:=by rw [jB,hx];have:=mp d c;grind
 refine ⟨(x.1+s*(MK l).1,x.2+s*(MK l).2),λm hm=>?_,b,λm hm=>?_⟩
 ·by_cases e:m=l;{rw [e];exact b};{rw [jB];exact a (aq m x.1 x.2,nv m (MK l)) (Qz1.2 ⟨m,Qz5 _ (Qb7.2 ⟨hm,by simpa using e⟩),rfl⟩)}
 ·rw [jB];exact a (aq m x.1 x.2,nv m (MK l)) (Qz1.2 ⟨m,Qk6 _ hm,rfl⟩)
theorem IK (hno:∀x:V2,aq l x.1 x.2=0->¬pos M x){q p:V2}(hq:pos M q)(hp:pos M p):aq l q.1 q.2>0->aq l p.1 p.2>0:=by intro h;by_cases c:aq l p.1 p.2>0;{exact c};exfalso;have ⟨t,t0,t1,e⟩:=zH (y:=(aq l q.1 q.2,aq l p.1 p.2)) h (s:=1) (by decide) (by unfold mx;grind);refine hno (q.1+t*(p.1-q.1),q.2+t*(p.2-q.2)) ?_ λm hm=>?_;{rw [vi];exact e};{rw [vi];exact KU (x:=(aq m q.1 q.2,aq m p.1 p.2)) (hq m hm) (hp m hm) t0 t1}
end Go.Proofs.Tryz.au
namespace Go.Proofs.Tryz
open Go.Eng Go.Big
variable{s:Sp}{l m:L3}
theorem uE {u:Sp}{t:Rat}:(s.meet u).inn t↔s.inn t/\u.inn t:=by have c:sR s.lo u.lo<t↔s.lo<t/\u.lo<t:=by{unfold sR;rcases cU u.lo s.lo with ⟨h,e⟩|⟨h,e⟩|⟨h,e⟩<;>rw [e]<;>simp<;>grind};have d:t<sS s.hi u.hi↔t<s.hi/\t<u.hi:=by{unfold sS;rcases cU u.hi s.hi with ⟨h,e⟩|⟨h,e⟩|⟨h,e⟩<;>rw [e]<;>simp<;>grind};unfold Sp.inn Sp.meet;cases s.a<;>cases s.b<;>cases u.a<;>cases u.b<;>simp<;>grind
theorem reg_one (h:s.good):vJ [s]:=⟨λx a=>(show x=s by simpa using a)▸h,by simp⟩
theorem ue {u:Sp}(hs:s.can)(hu:u.can):combL 2 [s] [u]=if (s.meet u).emp=true then [] else [s.meet u]:=by have key:∀t,inB (combL 2 [s] [u]) t=true->t∉endsL ([s]++[u])->(s.meet u).inn t:=λt h a=>by{rw [comb_inB _ _ _ a] at h;have h:(inB [s] t&&inB [u] t)=true:=h;rw [Qx1] at h;have e:∀x:Sp,inB [x] t=x.innB t:=λx=>by{unfold inB;simp};grind [innB_iff,uE.2]};refine reg_eq (endsL ([s]++[u])) (comb_reg _ _ _) ?_ λt a=>?_;{split;{exact ⟨(λ_ h=>by cases h),List.Pairwise.nil⟩};{rename_i h;exact reg_one ⟨Sp.AZ hs hu,by simpa using h⟩}};{refine yV ⟨λh=>?_,λh=>?_⟩;{have hk:=key t h a;split;{rename_i he;obtain ⟨b,c⟩:=hk;generalize s.meet u=m at he b c;unfold Sp.emp at he;rw [Qx1,Qx1,Qz6,Qz6,decide_eq_true_eq] at he;obtain ⟨⟨d,hb⟩,hc⟩:=he;rw [d] at b;rw [hb] at c;rcases cU m.lo m.hi with ⟨h,e⟩|⟨h,e⟩|⟨h,e⟩<;>grind};{exact ke.2 ⟨_,by simp,hk⟩}};{rw [comb_inB _ _ _ a];show (inB [s] t&&inB [u] t)=true;split at h;{cases h};{have ⟨x,f,hi⟩:=ke.1 h;obtain rfl:x=s.meet u:=by{simpa using f};have ⟨b,c⟩:=uE.1 hi;rw [Qx1];exact ⟨ke.2 ⟨s,by simp,b⟩,ke.2 ⟨u,by simp,c⟩⟩}}}
theorem kJ (h:Nz l)(t:Rat):aq l (cz l t) (cD l t)=0/\iw l (cz l t) (cD l t)=t:=by have a:=h.norm;unfold aq iw cz cD;unfold gU at *;constructor<;>grind
theorem S5 (h:crossL l m≠0):aq l (Ow l m) (Ox l m)=0/\aq m (Ow l m) (Ox l m)=0:=by have a:=Qv8 _ h;unfold aq Ow Ox;constructor;{have e:(l.1:Rat)*(((l.2.1:Rat)*(m.2.2:Rat)-(l.2.2:Rat)*(m.2.1:Rat))*(crossL l m)⁻¹)+(l.2.1:Rat)*(((l.2.2:Rat)*(m.1:Rat)-(l.1:Rat)*(m.2.2:Rat))*(crossL l m)⁻¹)+(l.2.2:Rat)=(l.2.2:Rat)*(1-crossL l m*(crossL l m)⁻¹):=by{unfold crossL;grind};rw [e,a];grind};{have e:(m.1:Rat)*(((l.2.1:Rat)*(m.2.2:Rat)-(l.2.2:Rat)*(m.2.1:Rat))*(crossL l m)⁻¹)+(m.2.1:Rat)*(((l.2.2:Rat)*(m.1:Rat)-(l.1:Rat)*(m.2.2:Rat))*(crossL l m)⁻¹)+(m.2.2:Rat)=(m.2.2:Rat)*(1-crossL l m*(crossL l m)⁻¹):=by{unfold crossL;grind};rw [e,a];grind}
theorem TR (l:L3):cJ (cJ l)=cJ l:=by unfold cJ;by_cases h:l.1<0\/l.1=0/\l.2.1<0;{rw [if_pos h,if_neg];unfold revL;dsimp only;omega};{rw [if_neg h,if_neg h]}
theorem YJ (h:cW l=true):cW (cJ l)=true:=by unfold cJ;split;{unfold cW revL cg at *;grind};{exact h}
theorem pX (h:cW l=true):¬(l.1=0/\l.2.1=0):=by unfold cW at h;rw [Qx1,decide_eq_true_iff] at h;exact h.1
theorem qJ:s.emp=false↔∃t,s.inn t:=by constructor;{intro h;have ⟨c,d⟩:=Sp.M8 h;refine ⟨s.gH,?_,?_⟩;{cases ha:s.a;{exact .inr (c ha)};{exact .inl rfl}};{cases hb:s.b;{exact .inr (d hb)};{exact .inl rfl}}};{rintro ⟨t,c,d⟩;grind [Sp.iG]}
theorem hU {l:L3}{s:Sp}{m:L3} :
  (cH l s m=true->∀t,(bj l s m).inn t↔s.inn t/\0<aq m (cz l t) (cD l t))/\(s.emp=false->cH l s m=false->∀t,s.inn t->¬0<aq m (cz l t) (cD l t)):=by have key:dotL m l≠0->∀t,(bj l s m).inn t↔s.inn t/\0<jC m l+dotL m l*t:=λa t=>by{unfold bj;rcases bY (dotL m l) with ⟨h,e⟩|⟨h,e⟩|⟨h,e⟩;{exact absurd h a};{rw [e];show (s.meet ⟨cutP m l,0,false,true⟩).inn t↔_;rw [uE];have b:dotL m l*(t-cutP m l)=jC m l+dotL m l*t:=by{unfold cutP;grind};have:(⟨cutP m l,0,false,true⟩:Sp).inn t↔cutP m l<t:=by{unfold Sp.inn;simp};rw [this,←b];refine and_congr_right λ_=>⟨λd=>Qv7 h (by grind),λd=>?_⟩;by_cases c:cutP m l<t;{exact c};{have:=Wk4 (show 0<=dotL m l by grind) (show 0<=cutP m l-t by grind);grind}};{rw [e];show (s.meet ⟨0,cutP m l,true,false⟩).inn t↔_;rw [uE];have b:-dotL m l*(cutP m l-t)=jC m l+dotL m l*t:=by{unfold cutP;grind};have:(⟨0,cutP m l,true,false⟩:Sp).inn t↔t<cutP m l:=by{unfold Sp.inn;simp};rw [this,←b];refine and_congr_right λ_=>⟨λd=>Qv7 (by grind) (by grind),λd=>?_⟩;by_cases c:t<cutP m l;{exact c};{have:=Wk4 (show 0<=-dotL m l by grind) (show 0<=t-cutP m l by grind);grind}}};by_cases a:dotL m l=0;{have g:bj l s m=s:=by{unfold bj;rw [a];rfl};have f:cH l s m=decide ((jC m l).num.sign>0):=by{unfold cH;rw [a];rfl};grind [jV,bY]};{have f:cH l s m=!(bj l s m).emp:=by{unfold cH;grind [bY]};grind [jV,qJ.2]}
theorem gO (hs:s.good)(hb:cH l s m=true):(bj l s m).good:=⟨Qm hs.1,Qk hs.2 hb⟩
abbrev Sd:=L3×Sp
def xG:List Sd->L3->Sp->Option Sp
 | [],_,v=>some v
 | s::c,l,v=>if cH l v s.1 then xG c l (bj l v s.1) else none
theorem EO:∀{c:pz Sd} {l:L3} {v w:Sp},v.good->xG c l v=some w->w.good/\∀t,w.inn t↔v.inn t/\∀s∈c,0<aq s.1 (cz l t) (cD l t)
 | [],_,v,w,h,e=>by cases e;exact ⟨h,λt=>⟨λg=>⟨g,λs hs=>by cases hs⟩,λg=>g.1⟩⟩
 | s::c,l,v,w,h,e=>by
  unfold xG at e;split at e
  ·rename_i hb;have ⟨g1,g2⟩:=EO (gO h hb) e;grind [hU.1]
  ·cases e
theorem EN:∀{c:pz Sd} {l:L3} {v:Sp},v.good->xG c l v=none->∀t,v.inn t->¬∀s∈c,0<aq s.1 (cz l t) (cD l t)
 | [],_,v,h,e=>by cases e
 | s::c,l,v,h,e=>by
  intro t ht hall;unfold xG at e;split at e
  ·rename_i hb;exact EN (gO h hb) e t ((hU.1 hb t).2 ⟨ht,hall s (Qw5 ..)⟩) λu hu=>hall u (Qq8 _ hu)
  ·rename_i hb;exact hU.2 h.2 (by simpa using hb) t ht (hall s (Qw5 ..))
theorem sF (l:L3):cJ l=l\/cJ l=revL l:=by unfold cJ;split;exact .inr rfl;exact .inl rfl
theorem rev_rev (l:L3):revL (revL l)=l:=by unfold revL;simp
theorem Mp (l:L3):au.aM (revL l)=(-(au.aM l).1,-(au.aM l).2):=by unfold au.aM revL;simp only [Qs2]
theorem F3 (h:cW l=true):(au.aM l).1≠0\/(au.aM l).2≠0:=by unfold au.aM;by_cases e:l.2.1=0;{right;intro a;have:(l.1:Rat)=0:=by{grind};exact pX h ⟨by exact_mod_cast this,e⟩};{left;show (l.2.1:Rat)≠0;exact_mod_cast e}
theorem SD (ol:cW l=true)(om:cW m=true){p:au.V2}(h1:aq l p.1 p.2=0)(h2:aq m p.1 p.2=0)(hc:au.cr (au.aM l) (au.aM m)=0):l=m\/l=revL m:=by have a:∀{x:L3},aq x p.1 p.2=0->aq (cJ x) p.1 p.2=0:=λ{x} h=>by{grind [sF,val_rev]};have b:au.cr (au.aM (cJ l)) (au.aM (cJ m))=0:=by{unfold au.cr at *;rcases sF l with e|e<;>rcases sF m with e'|e'<;>rw [e,e']<;>(try rw [Mp l])<;>(try rw [Mp m])<;>(try dsimp only)<;>grind};grind [au.OV,YJ,TR,sF,rev_rev]
theorem Kx {M:pz L3}(hk:∀m∈M,cW m=true){q:au.V2}(hq:au.pos M q):au.Dif M:=by intro l d m hm c p f g hc;rcases SD (hk l d) (hk m hm) f g hc with e|e;{exact c e};{have a:=hq l d;have b:=hq m hm;grind [val_rev]}
theorem zv (h:Nz l){x y:Rat}(hp:aq l x y=0):∃t,x=cz l t/\y=cD l t:=by have a:=Qv8 _ h.norm;unfold aq at hp;refine ⟨iw l x y,?_,?_⟩;{unfold cz iw gU at *;grind};{unfold cD iw gU at *;grind}
def fullSp:Sp:=⟨0,0,true,true⟩
theorem fl:fullSp.good:=⟨⟨λ_=>rfl,λ_=>rfl⟩,rfl⟩
theorem full_inn (t:Rat):fullSp.inn t:=⟨.inl rfl,.inl rfl⟩
structure oU (M:List L3) (c:List Sd):Prop where
 pos:∃q,au.pos M q
 mem:∀s∈c,s.1∈M/\s.2.good/\∀t,s.2.inn t↔∀m∈M,m≠s.1->0<aq m (cz s.1 t) (cD s.1 t)
 all:∀l∈M,au.Es M l->∃v,(l,v)∈c
 asc:c.Pairwise λs u=>au.kt (au.aM s.1) (au.aM u.1)<0
def Ih (x:Sd):List Sd->List Sd
 | []=>[x]
 | s::r=>if au.kt (au.aM s.1) (au.aM x.1)<0 then s::Ih x r else x::s::r
def NZ (c:List Sd)(l:L3):List Sd:=c.filterMap λs=>if cH s.1 s.2 l then some (s.1,bj s.1 s.2 l) else none
def sW:List Sd->L3->Int
 | [],_=>-1
 | s::c,l=>if (aq l (cz s.1 s.2.gH) (cD s.1 s.2.gH)).num.sign≠0 then (aq l (cz s.1 s.2.gH) (cD s.1 s.2.gH)).num.sign else if s.1=l then 1 else sW c l
def HN (c:List Sd)(l:L3):Option (List Sd):=
 match xG c l fullSp with
 | some v=>some (Ih (l,v) (NZ c l))
 | none=>if 0<sW c l then some c else none
theorem pO {x y:Sd}:∀{r:pz Sd},y∈Ih x r↔y=x\/y∈r
 | []=>by simp [Ih]
 | s::r=>by
  unfold Ih;split
  ·rw [Qq5,pO,Qq5];exact or_left_comm
  ·rw [Qq5]
theorem Me {a b d:au.V2}(h:au.kt a b<0)(h':au.kt b d<0):au.kt a d<0:=by by_cases q:au.kt a d<0;{exact q};{exact absurd h (au.Xn _ _ _ q (au.Fe _ _ h'))}
theorem Ii {x:Sd}:∀{r:pz Sd},(r.Pairwise λs u=>au.kt (au.aM s.1) (au.aM u.1)<0)->(∀s∈r,au.kt (au.aM s.1) (au.aM x.1)≠0)->(Ih x r).Pairwise λs u=>au.kt (au.aM s.1) (au.aM u.1)<0
 | [],_,_=>Qd3 ..
 | s::r,h,hn=>by
  have ⟨h1,h2⟩:=Qx4.1 h;unfold Ih;split
  ·rename_i a;refine Qx4.2 ⟨λy b=>?_,Ii h2 λu hu=>hn u (Qq8 _ hu)⟩<;>grind [pO.1]
  grind [au.Pz,List.pairwise_cons.2,Me]
theorem HU {c:pz Sd}{y:Sd}:y∈NZ c l↔∃s∈c,cH s.1 s.2 l=true/\y=(s.1,bj s.1 s.2 l):=by grind [NZ]
theorem Ql {c:pz Sd}(h:c.Pairwise λs u=>au.kt (au.aM s.1) (au.aM u.1)<0):(NZ c l).Pairwise λs u=>au.kt (au.aM s.1) (au.aM u.1)<0:=by refine List.Pairwise.filterMap _ ?_ h<;>grind
theorem IQ {s:L3}(hl:au.nz (au.aM s))(h:au.kt (au.aM s) (au.aM l)=0){p r:au.V2}(p0:aq l p.1 p.2=0)(p1:0<aq s p.1 p.2)(r0:aq s r.1 r.2=0)(r1:0<aq l r.1 r.2):False:=by have ⟨c,b,e⟩:=au.PA hl h;have d:(s.2.1:Rat)=c*(l.2.1:Rat):=congrArg Prod.fst e;have a:-(s.1:Rat)=c*-(l.1:Rat):=congrArg Prod.snd e;have a:(s.1:Rat)=c*(l.1:Rat):=by{grind};have key:∀x:au.V2,aq s x.1 x.2=c*(aq l x.1 x.2-(l.2.2:Rat))+(s.2.2:Rat):=λx=>by{unfold aq;rw [d,a];grind};have k:=au.mp b r1;rw [key] at p1 r0;rw [p0] at p1;grind
section
variable {M:List L3} {c:List Sd} (h:oU M c) (hk:∀m ∈ M,cW m=true)
include h hk
theorem oU.int {p:au.V2}(hp:∀s∈c,0<aq s.1 p.1 p.2):au.pos M p:=by grind [h.pos,au.ess,Kx,F3,h.all]
theorem NX {l:L3}(hl:cW l=true){v:Sp}(e:xG c l fullSp=some v):oU (l::M) (Ih (l,v) (NZ c l)):=by have I:Nz l:=pX hl;have ⟨A,B⟩:=EO fl e;have C:∀t,v.inn t↔au.pos M (cz l t,cD l t):=λt=>⟨λg=>h.int hk ((B t).1 g).2,λg=>(B t).2 ⟨full_inn t,λs b=>g s.1 (h.mem s b).1⟩⟩;have ⟨t0,k⟩:=qJ.1 A.2;have n:=(C t0).1 k;have D:=(kJ I t0).1;have E:l∉M:=λhm=>by{have:=n l hm;dsimp only at this;grind};have ne:∀m∈M,m≠l:=λm hm e=>E (e▸hm);obtain ⟨q,J,o,-⟩:=au.FK (M:=M) (x:=(cz l t0,cD l t0)) (F3 hl) D (λm hm _=>n m hm) [] (λm hm=>by cases hm);have f:∀s∈NZ c l,s.1∈M/\s.2.good/\∀t,s.2.inn t↔∀m∈l::M,m≠s.1->0<aq m (cz s.1 t) (cD s.1 t):=λs b=>by{obtain ⟨O,P,hb,rfl⟩:=HU.1 b;grind [h.mem,gO,hU.1]};refine ⟨⟨q,Qn7.2 ⟨o,J⟩⟩,λs b=>?_,λj a he=>?_,Ii (Ql h.asc) λs b K=>?_⟩;{rcases pO.1 b with rfl|b;{refine ⟨Qw5 ..,A,λt=>?_⟩;rw [C t,Qn7];exact ⟨λg=>⟨λh=>absurd rfl h,λm hm _=>g m hm⟩,λg m hm=>g.2 m hm (ne m hm)⟩};grind};{rcases Qq5.1 a with rfl|a;{exact ⟨v,pO.2 (.inl rfl)⟩};{obtain ⟨p,F,u⟩:=he;have ⟨w,hw⟩:=h.all j a ⟨p,F,λm hm d=>u m (Qq8 _ hm) d⟩;have ⟨i,y,z⟩:=h.mem _ hw;have ⟨t,G,H⟩:=zv (pX (hk j a)) F;have hb:cH j w l=true:=by{cases hb:cH j w l;{exfalso;refine hU.2 y.2 hb t ((z t).2 λm hm d=>?_) ?_;{dsimp only;rw [←G,←H];exact u m (Qq8 _ hm) d};{rw [←G,←H];exact u l (Qw5 ..) (λe=>E (e▸a))}};{rfl}};grind [pO.2,HU.2]}};{have ⟨i,y,z⟩:=f s b;have ⟨t,L⟩:=qJ.1 y.2;have N:=(z t).1 L l (Qw5 ..) (λe=>ne _ i e.symm);exact IQ (F3 (hk _ i)) K (p:=(cz l t0,cD l t0)) (r:=(cz s.1 t,cD s.1 t)) D (n _ i) (kJ (pX (hk _ i)) t).1 N}
omit h in
theorem wo {l:L3}(hl:cW l=true)(hno:∀x:au.V2,aq l x.1 x.2=0->¬au.pos M x){q:au.V2}(hq:au.pos M q){s:L3}(hs:s∈M){x:au.V2}(xz:aq s x.1 x.2=0)(hx:∀m∈M,m≠s->0<aq m x.1 x.2) :
  (0<aq l q.1 q.2->0<aq l x.1 x.2\/s=l)/\(aq l q.1 q.2<0->aq l x.1 x.2<0\/aq l x.1 x.2=0/\s≠l):=by
 have side:∀g:L3,(∀x:au.V2,aq g x.1 x.2=0->¬au.pos M x)->0<aq g q.1 q.2->∀y:au.V2,aq s y.1 y.2=0->(∀m∈M,m≠s->0<aq m y.1 y.2)->¬aq g y.1 y.2<0:=λg hno n y o b j=>by obtain ⟨C,p,-,c⟩:=au.FK (F3 (hk s hs)) o b [revL g] (λm hm=>by rcases Qq6.1 hm with rfl;rw [val_rev];grind);have c:=c _ (Qq6.2 rfl);rw [val_rev] at c;have:=au.IK hno hq p n;grind
 constructor
 ·intro a;by_cases f:0<aq l x.1 x.2
  ·exact .inl f
  right;have z:aq l x.1 x.2=0:=by have:=side l hno a x xz hx;grind
  by_cases e:s=l
  ·exact e
  exfalso
  have h:au.cr (au.aM l) (au.aM s)≠0:=λt=>by rcases SD hl (hk s hs) z xz t with g|g;{exact e g.symm};{rw [g,val_rev] at a;have:=hq s hs;grind}
  have step:∀d:au.V2,au.nv s d=0->au.nv l d<0->False:=λd d0 d1=>by
   have ⟨r,u,v⟩:=au.Gr ((M.filter λm=>decide (m≠s)).map λm=>(aq m x.1 x.2,au.nv m d)) (λy b=>by
    obtain ⟨m,hm,rfl⟩:=Qz1.1 b;have:=Qb7.1 hm;exact hx m this.1 (by simpa using this.2))
   refine side l hno a (x.1+r*d.1,x.2+r*d.2) ?_ (λm hm i=>?_) ?_
   ·rw [au.jB,xz,d0];grind
   ·rw [au.jB];exact v (aq m x.1 x.2,au.nv m d) (Qz1.2 ⟨m,Qb7.2 ⟨hm,by simpa using i⟩,rfl⟩)
   ·rw [au.jB,z];have:=au.mp u (show -au.nv l d>0 by grind);grind
  have k:au.nv s (au.aM s)=0:=by rw [au.MM];exact au.Mn _
  have ls:au.nv l (au.aM s)≠0:=by rw [au.MM];exact h
  by_cases w:au.nv l (au.aM s)<0
  ·exact step _ k w
  ·have A:au.nv s (-(au.aM s).1,-(au.aM s).2)=-au.nv s (au.aM s):=by{unfold au.nv;dsimp only;grind};have B:au.nv l (-(au.aM s).1,-(au.aM s).2)=-au.nv l (au.aM s):=by{unfold au.nv;dsimp only;grind};exact step (-(au.aM s).1,-(au.aM s).2) (by rw [A,k];grind) (by rw [B];grind)
 ·intro a;have:=side (revL l) (λx hx=>hno x (by rw [val_rev] at hx;grind)) (by rw [val_rev];grind) x xz hx;rw [val_rev] at this;by_cases f:aq l x.1 x.2<0;{exact .inl f};{refine .inr ⟨by grind,λe=>?_⟩;have:=hq s hs;grind}
theorem xL {s:Sd}(hs:s∈c):aq s.1 (cz s.1 s.2.gH) (cD s.1 s.2.gH)=0/\∀m∈M,m≠s.1->0<aq m (cz s.1 s.2.gH) (cD s.1 s.2.gH):=by have ⟨d,e,f⟩:=h.mem s hs;refine ⟨(kJ (pX (hk _ d)) _).1,(f _).1 ?_⟩;have ⟨g,i⟩:=Sp.M8 e.2;constructor;{cases ha:s.2.a;{exact .inr (g ha)};{exact .inl rfl}};{cases hb:s.2.b;{exact .inr (i hb)};{exact .inl rfl}}
theorem OK {l:L3}(hl:cW l=true)(hno:∀x:au.V2,aq l x.1 x.2=0->¬au.pos M x){q:au.V2}(hq:au.pos M q)(hp:0<aq l q.1 q.2)(h0:c≠[]):sW c l=1:=by (cases hc:c with|nil=>exact absurd hc h0|cons s r=>{have b:s∈c:=by{rw [hc];exact Qw5 ..};have ⟨d,f⟩:=xL h hk b;have:=(wo hk hl hno hq (h.mem s b).1 (x:=(cz s.1 s.2.gH,cD s.1 s.2.gH)) d f).1 hp;unfold sW;dsimp only at this;by_cases e:0<aq l (cz s.1 s.2.gH) (cD s.1 s.2.gH);{rw [au.YX.2 e];rfl};{have a:s.1=l:=this.resolve_left e;have z:aq l (cz s.1 s.2.gH) (cD s.1 s.2.gH)=0:=by{have h:=d;rw [a] at h ⊢;exact h};rw [au.ki.2 z,if_neg (by simp),if_pos a]}})
theorem OJ {l:L3}(hl:cW l=true)(hno:∀x:au.V2,aq l x.1 x.2=0->¬au.pos M x){q:au.V2}(hq:au.pos M q)(hp:aq l q.1 q.2<0):sW c l=-1:=by
 have:∀r:pz Sd,(∀s∈r,s∈c)->sW r l=-1:=by
  intro r
  induction r with
  | nil=>intro _;rfl
  | cons s r ih=>
   intro a;have b:=a s (Qw5 ..);have ⟨d,e⟩:=xL h hk b;have:=(wo hk hl hno hq (h.mem s b).1 (x:=(cz s.1 s.2.gH,cD s.1 s.2.gH)) d e).2 hp;dsimp only at this;unfold sW;rcases this with g|⟨g,f⟩
   ·rw [au.SG.2 g];rfl
   ·rw [au.ki.2 g,if_neg (by simp),if_neg f];exact ih λu hu=>a u (Qq8 _ hu)
 exact this c λ_ h=>h
theorem TU {l:L3}(hl:cW l=true):(∀c',HN c l=some c'->oU (l::M) c')/\(HN c l=none->¬∃q,au.pos (l::M) q):=by unfold HN;(cases e:xG c l fullSp with|some v=>{exact ⟨λc' f=>by cases f;exact NX h hk hl e,λf=>by cases f⟩}|none=>{dsimp only;have d:∀x:au.V2,aq l x.1 x.2=0->¬au.pos M x:=λx E n=>by{have ⟨t,o,r⟩:=zv (pX hl) E;refine EN fl e t (full_inn t) λs u=>?_;rw [←o,←r];exact n s.1 (h.mem s u).1};have F:c≠[]:=λG=>by{rw [G] at e;cases e};obtain ⟨q,j⟩:=h.pos;by_cases w:0<aq l q.1 q.2;{rw [OK h hk hl d j w F];refine ⟨λc' f=>?_,λf=>by cases f⟩;cases f;refine ⟨⟨q,Qn7.2 ⟨w,j⟩⟩,λs u=>?_,λy A he=>?_,h.asc⟩;{have ⟨B,H,I⟩:=h.mem s u;refine ⟨Qq8 _ B,H,λt=>?_⟩;rw [I t,Qn7];refine ⟨λg=>⟨λi=>?_,g⟩,λg=>g.2⟩;exact ((wo hk hl d j B (x:=(cz s.1 t,cD s.1 t)) (kJ (pX (hk _ B)) t).1 g).1 w).resolve_right λe=>i e.symm};{obtain ⟨p,D,n⟩:=he;by_cases hm:y∈M;{exact h.all y hm ⟨p,D,λm hm i=>n m (Qq8 _ hm) i⟩};{exfalso;have o:y=l:=(Qq5.1 A).resolve_right hm;refine d p (o▸D) λm k=>n m (Qq8 _ k) λr=>hm (r▸k)}}};{have J:aq l q.1 q.2<0:=by{by_cases z:aq l q.1 q.2=0;{exact absurd j (d q z)};{grind}};rw [OJ h hk hl d j J];refine ⟨λc' f=>(by cases f),λ_=>?_⟩;rintro ⟨K,C⟩;have ⟨a,b⟩:=Qn7.1 C;have:=au.IK d (λm hm=>b m hm) j a;grind}})
end
theorem oU.nil:oU [] []:=⟨⟨(0,0),λm hm=>by cases hm⟩,(λs a=>by cases a),(λl b=>by cases b),List.Pairwise.nil⟩
def sG:List L3->List L3->List Sd->Option (List Sd)
 | [],_,c=>some c
 | l::r,M,c=>match HN c l with
  | some c'=>sG r (l::M) c'
  | none=>none
theorem HL:∀{ls M:pz L3} {c:pz Sd},oU M c->(∀m∈M,cW m=true)->(∀m∈ls,cW m=true)->(∀c',sG ls M c=some c'->oU (ls.reverse++M) c')/\(sG ls M c=none->¬∃q,au.pos (ls.reverse++M) q)
 | [],M,c,h,hk,hl=>⟨λc' e=>by cases e;exact h,λe=>by cases e⟩
 | l::r,M,c,h,hk,hl=>by
  have ⟨h1,h2⟩:=TU h hk (hl l (Qw5 ..));rw [List.reverse_cons,Qy3];unfold sG
  cases e:HN c l with
  | some c'=>exact HL (h1 c' e) (Qn7.2 ⟨hl l (Qw5 ..),hk⟩) λm hm=>hl m (Qq8 _ hm)
  | none=>
   refine ⟨λc' a=>(by cases a),λ_=>?_⟩;rintro ⟨q,b⟩;exact h2 e ⟨q,λm hm=>b m (Qk6 _ hm)⟩
theorem Hn:∀{a b:pz L3},(a.Pairwise λl m=>au.kt (au.aM l) (au.aM m)<0)->(b.Pairwise λl m=>au.kt (au.aM l) (au.aM m)<0)->(∀x,x∈a↔x∈b)->a=b
 | [],b,_,_,h=>by cases b<;>grind [List.mem_cons_self]
 | x::a,[],_,_,h=>by have:=(h x).1 (Qw5 ..);cases this
 | x::a,y::b,ha,hb,h=>by
  have ⟨d,f⟩:=Qx4.1 ha;have ⟨g,i⟩:=Qx4.1 hb
  have e:x=y:=by
   rcases Qq5.1 ((h x).1 (Qw5 ..)) with e|j
   ·exact e
   ·rcases Qq5.1 ((h y).2 (Qw5 ..)) with e|k;{exact e.symm};{exact absurd (d y k) (au.Fe _ _ (g x j))}
  subst e;have n:∀z:L3,¬au.kt (au.aM z) (au.aM z)<0:=λz c=>au.Fe _ _ c c;congr 1;refine Hn f i λz=>⟨λc=>?_,λc=>?_⟩<;>grind
end Go.Proofs.Tryz
namespace Go.Proofs.Tryz
open Go.Eng Go.Big
variable{l m:L3}{c:List L3}
theorem cross_dot (l m:L3):crossL l m=-dotL m l:=by unfold crossL dotL;grind
theorem Qf (m l:L3):au.cr (au.aM m) (au.aM l)=dotL m l:=by unfold au.cr au.aM dotL;grind
def nt (l m:L3):Rat:=iw l (Ow l m) (Ox l m)
theorem Bk (hl:Nz l)(h:crossL l m≠0):nt l m=cutP m l:=by have ⟨v1,v2⟩:=S5 h;have ⟨t,a,b⟩:=zv hl v1;have c:nt l m=t:=by{unfold nt;rw [a,b];exact (kJ hl t).2};rw [a,b,jV] at v2;have d:dotL m l≠0:=λe=>h (by rw [cross_dot,e];grind);unfold cutP;grind
def ui (l m:L3)(s:Sp):Option Sp:=
 if crossL l m=0 then (if (aq m (cz l 0) (cD l 0)).num.sign<=0 then none else some s)
 else
  let s':Sp:=if 0<(dotL m l).num.sign then (if s.a=true\/s.lo<nt l m then ⟨nt l m,s.hi,false,s.b⟩ else s) else (if s.b=true\/nt l m<s.hi then ⟨s.lo,nt l m,s.a,false⟩ else s)
  if s'.a=false/\s'.b=false/\s'.hi<=s'.lo then none else some s'
theorem Qr {s:Sp}:s.emp=true↔s.a=false/\s.b=false/\s.hi<=s.lo:=by cases h:s.emp;{grind [Sp.iG.1]};{refine ⟨λ_=>?_,λ_=>rfl⟩;have d:¬(s.a=true\/s.b=true\/s.lo<s.hi):=λg=>by{rw [←Sp.iG] at g;rw [h] at g;cases g};refine ⟨?_,?_,?_⟩;{cases e:s.a;{rfl};grind};{cases e:s.b;{rfl};grind};{by_cases c:s.lo<s.hi<;>grind}}
theorem Aq {s:Sp}(hl:Nz l)(hs:s.good):ui l m s=if cH l s m=true then some (bj l s m) else none:=by unfold ui;by_cases hc:crossL l m=0;{have c:dotL m l=0:=by{rw [cross_dot] at hc;grind};have f:bj l s m=s:=by{unfold bj;rw [c];rfl};have d:cH l s m=decide ((jC m l).num.sign>0):=by{unfold cH;rw [c];rfl};rw [if_pos hc,f,d];show (if (jC m l).num.sign<=0 then none else some s)=_;grind};{have c:dotL m l≠0:=λe=>hc (by rw [cross_dot,e];grind);rw [if_neg hc,Bk hl hc];have es:(if 0<(dotL m l).num.sign then (if s.a=true\/s.lo<cutP m l then (⟨cutP m l,s.hi,false,s.b⟩:Sp) else s) else (if s.b=true\/cutP m l<s.hi then ⟨s.lo,cutP m l,s.a,false⟩ else s))=bj l s m:=by{obtain ⟨g,i⟩:=hs.1;obtain ⟨lo,hi,a,b⟩:=s;unfold bj;rcases bY (dotL m l) with ⟨h,e⟩|⟨h,e⟩|⟨h,e⟩;{exact absurd h c};{rw [e,if_pos (by decide)];unfold Sp.meet sR;grind [cU]};{rw [e,if_neg (by decide)];unfold Sp.meet sS;grind [cU]}};have d:cH l s m=!(bj l s m).emp:=by{unfold cH;grind [bY]};grind [Qr.2,Qr.1]}
def eY (l:L3):List L3->Sp->Option Sp
 | [],s=>some s
 | m::r,s=>if m=l then eY l r s else match ui l m s with
  | some s'=>eY l r s'
  | none=>none
theorem wq (hl:Nz l):∀{c:pz L3} {s w:Sp},s.good->eY l c s=some w->w.good/\∀t,w.inn t↔s.inn t/\∀m∈c,m≠l->0<aq m (cz l t) (cD l t)
 | [],s,w,h,e=>by cases e;exact ⟨h,λt=>⟨λg=>⟨g,λm hm=>by cases hm⟩,λg=>g.1⟩⟩
 | m::c,s,w,h,e=>by
  unfold eY at e;by_cases hm:m=l
  ·rw [if_pos hm] at e;have ⟨g1,g2⟩:=wq hl h e;grind
  ·rw [if_neg hm,Aq hl h] at e;by_cases hb:cH l s m=true
   ·rw [if_pos hb] at e;have ⟨g1,g2⟩:=wq hl (gO h hb) e;grind [hU.1]
   grind
theorem wm (hl:Nz l):∀{c:pz L3} {s:Sp},s.good->eY l c s=none->∀t,s.inn t->¬∀m∈c,m≠l->0<aq m (cz l t) (cD l t)
 | [],s,h,e=>by cases e
 | m::c,s,h,e=>by
  intro t ht hall;have ⟨ha,hr⟩:=Qn7.1 hall;unfold eY at e;by_cases hm:m=l
  ·rw [if_pos hm] at e;exact wm hl h e t ht hr
  ·rw [if_neg hm,Aq hl h] at e;by_cases hb:cH l s m=true
   ·rw [if_pos hb] at e;exact wm hl (gO h hb) e t ((hU.1 hb t).2 ⟨ht,ha hm⟩) hr
   ·exact hU.2 h.2 (by simpa using hb) t ht (ha hm)
theorem yY (hl:Nz l):(eY l c fullSp).isSome=true↔au.Es c l:=by constructor;{intro h;have ⟨w,hw⟩:=Qc6.1 h;have ⟨b,d⟩:=wq hl fl hw;have ⟨t,e⟩:=qJ.1 b.2;exact ⟨(cz l t,cD l t),(kJ hl t).1,((d t).1 e).2⟩};{rintro ⟨p,f,a⟩;have ⟨t,g,i⟩:=zv hl f;(cases h:eY l c fullSp with|some w=>rfl|none=>{rw [g,i] at a;exact absurd a (wm hl fl h t (full_inn t))})}
def m_ (l:L3):List L3->List L3
 | []=>[l]
 | u::r=>if au.kt (au.aM u) (au.aM l)<0 then u::m_ l r else if u=l then u::r else l::u::r
def lS (c:List L3):List L3->List L3->List L3
 | [],out=>out
 | l::r,out=>lS c r (if (eY l c fullSp).isSome=true then m_ l out else out)
theorem nf {x:L3}:∀{r:pz L3},x∈m_ l r↔x=l\/x∈r
 | []=>by simp [m_]
 | u::r=>by
  unfold m_;split
  ·rw [Qq5,nf,Qq5];exact or_left_comm
  split
  ·rename_i e;subst e;rw [Qq5];exact ⟨.inr,λh=>h.elim .inl id⟩
  ·rw [Qq5]
theorem Ij:∀{r:pz L3},(r.Pairwise λs u=>au.kt (au.aM s) (au.aM u)<0)->(∀s∈r,au.kt (au.aM s) (au.aM l)=0->s=l)->(m_ l r).Pairwise λs u=>au.kt (au.aM s) (au.aM u)<0
 | [],_,_=>Qd3 _ _
 | u::r,h,hz=>by
  have ⟨h1,h2⟩:=Qx4.1 h;unfold m_;split
  ·rename_i a;refine Qx4.2 ⟨λy c=>?_,Ij h2 (λs b=>hz s (Qq8 _ b))⟩<;>grind [nf.1]
  grind [au.Pz,List.pairwise_cons.2,Me]
theorem Xz (hk:∀m∈c,cW m=true)(hl:l∈c)(hm:m∈c)(el:au.Es c l)(em:au.Es c m)(h:au.kt (au.aM l) (au.aM m)=0):l=m:=by by_cases e:l=m;{exact e};exfalso;obtain ⟨p,a,b⟩:=em;obtain ⟨r,d,f⟩:=el;exact IQ (F3 (hk l hl)) h a (b l hl e) d (f m hm λg=>e g.symm)
theorem Gh (hk:∀m∈c,cW m=true):∀{r out:pz L3},(∀m∈r,m∈c)->(∀m∈out,m∈c/\au.Es c m)->(out.Pairwise λs u=>au.kt (au.aM s) (au.aM u)<0) ->
  ((lS c r out).Pairwise λs u=>au.kt (au.aM s) (au.aM u)<0)/\∀x,x∈lS c r out↔x∈out\/x∈r/\au.Es c x
 | [],out,_,_,h=>⟨h,λx=>by simp [lS]⟩
 | l::r,out,hr,ho,h=>by
  have ⟨hl,hr⟩:=Qn7.1 hr;unfold lS;by_cases he:au.Es c l
  ·rw [if_pos ((yY (pX (hk l hl))).2 he)]
   have ⟨a,b⟩:=Gh hk (r:=r) (out:=m_ l out) hr (λm hm=>by
    rcases nf.1 hm with rfl|hm
    ·exact ⟨hl,he⟩
    ·exact ho m hm) (Ij h λs d e=>Xz hk (ho s d).1 hl (ho s d).2 he e)
   refine ⟨a,λx=>?_⟩;rw [b,nf,Qq5];grind
  ·rw [if_neg λg=>he ((yY (pX (hk l hl))).1 g)];have ⟨a,b⟩:=Gh hk (r:=r) (out:=out) hr ho h;grind
theorem Es.of {M N:pz L3}(h:∀x,x∈M->x∈N)(e:au.Es N l):au.Es M l:=by obtain ⟨p,a,b⟩:=e;exact ⟨p,a,λm hm=>b m (h m hm)⟩
theorem P6 {ls:pz L3}(hk:∀m∈ls,cW m=true):(∀c,sG ls [] []=some c->lS ls ls []=c.map Prod.fst/\oU ls.reverse c/\(ls=[]\/lS ls ls []≠[]))/\(sG ls [] []=none->lS ls ls []=[]/\ls≠[]/\¬∃q,au.pos ls q):=by have ⟨n,o⟩:=HL (ls:=ls) oU.nil (λm hm=>by cases hm) hk;rw [Qx2] at n o;have ⟨u,g⟩:=Gh hk (r:=ls) (out:=[]) (λm hm=>hm) (λm hm=>by cases hm) List.Pairwise.nil;have g:∀x,x∈lS ls ls []↔x∈ls/\au.Es ls x:=λx=>(g x).m ⟨λh=>h.elim (λh=>by cases h) id,.inr⟩;have b:∀q,au.pos ls q↔au.pos ls.reverse q:=λq=>⟨λh m hm=>h m (Qd2.1 hm),λh m hm=>h m (Qd2.2 hm)⟩;constructor;{intro c e;have hc:=n c e;obtain ⟨q,d⟩:=hc.pos;have d:=(b q).2 d;refine ⟨?_,hc,?_⟩;{refine Hn u (List.pairwise_map.2 hc.asc) λx=>?_;rw [g,Qz1];constructor;{grind [hc.all,Es.of,List.mem_reverse.1]};{rintro ⟨s,v,rfl⟩;have ⟨i,w,y⟩:=hc.mem s v;have ⟨t,z⟩:=qJ.1 w.2;have i:=Qd2.1 i;exact ⟨i,⟨(cz s.1 t,cD s.1 t),(kJ (pX (hk _ i)) t).1,λm hm k=>(y t).1 z m (Qd2.2 hm) k⟩⟩}};{by_cases j:ls=[];{exact .inl j};right;have ⟨l,D,he⟩:=au.Mr (Kx hk d) (λm hm=>F3 (hk m hm)) d j;grind}};{intro e;have f:¬∃q,au.pos ls q:=λ⟨q,d⟩=>o e ⟨q,(b q).1 d⟩;refine ⟨?_,λj=>f ⟨(0,0),λm hm=>by rw [j] at hm;cases hm⟩,f⟩;refine List.eq_nil_iff_forall_not_mem.2 λx A=>?_;obtain ⟨a,p,B,C⟩:=(g x).1 A;obtain ⟨q,d,-⟩:=au.FK (F3 (hk x a)) B C [] (λm hm=>by cases hm);exact f ⟨q,d⟩}
theorem wJ (h:cW l=true):cW (revL l)=true:=by unfold cW revL cg at *;grind
theorem Ol (hk:∀m∈c,cW m=true):(c=[]\/∃l∈c,au.Es c l)↔∃q,au.pos c q:=by constructor;{rintro (rfl|⟨l,d,p,e,f⟩);{exact ⟨(0,0),λm hm=>by cases hm⟩};{obtain ⟨q,a,-⟩:=au.FK (F3 (hk l d)) e f [] (λm hm=>by cases hm);exact ⟨q,a⟩}};{rintro ⟨q,a⟩;by_cases b:c=[];{exact .inl b};{exact .inr (au.Mr (Kx hk a) (λm hm=>F3 (hk m hm)) a b)}}
section
variable {M:List L3} {c:List Sd} (h:oU M c) (hk:∀m ∈ M,cW m=true)
include h hk
theorem TV {p:au.V2}(hp:∀s∈c,0<=aq s.1 p.1 p.2):∀m∈M,0<=aq m p.1 p.2:=by intro m hm;obtain ⟨q,d⟩:=h.pos;have key:∀t:Rat,0<=t->t<1->au.pos M (q.1+t*(p.1-q.1),q.2+t*(p.2-q.2)):=λt t0 t1=>h.int hk λs f=>by{rw [au.vi];have a:=d s.1 (h.mem s f).1;have j:=au.mn t0 (hp s f);have k:=au.mp (show 1-t>0 by grind) a;grind};by_cases g:0<=aq m p.1 p.2;{exact g};exfalso;have a:=d m hm;have ⟨t,t0,t1,e⟩:=au.zH (y:=(aq m q.1 q.2,aq m p.1 p.2)) a (s:=1) (by decide) (by unfold au.mx;grind);have b:t<1:=by{by_cases i:t=1;{subst i;unfold au.mx at e;dsimp only at e;grind};{grind}};have:=key t (by grind) b m hm;rw [au.vi] at this;unfold au.mx at e;grind
theorem HM (p:au.V2):((∀s∈c,0<=aq s.1 p.1 p.2)↔∀m∈M,0<=aq m p.1 p.2)/\((∀s∈c,0<aq s.1 p.1 p.2)↔∀m∈M,0<aq m p.1 p.2):=
 ⟨⟨λg=>TV h hk g,λg s a=>g _ (h.mem s a).1⟩,λg=>h.int hk g,λg s a=>g _ (h.mem s a).1⟩
end
end Go.Proofs.Tryz
namespace Go.Proofs.Tryz
open Go.Eng Go.Big
theorem dot_rev (l m:L3):dotL (revL l) m=-dotL l m:=by unfold dotL revL;simp only [Qs2];grind
theorem Mg (l m:L3):jC (revL l) m=-jC l m:=by unfold jC;exact val_rev ..
theorem cutP_rev {l m:L3}(h:dotL l m≠0):cutP (revL l) m=cutP l m:=by unfold cutP;rw [dot_rev,Mg];grind
end Go.Proofs.Tryz
namespace Go.Proofs.Tryz
open Go.Eng Go.Big
variable{s:Sp}{l m:L3}{q x y:Rat}
theorem PG:∀(L:pz Rat) {lo hi:Rat},lo<hi->∃t,lo<t/\t<hi/\∀r∈L,t≠r
 | [],lo,hi,h=>⟨(lo+hi) / 2,by grind,by grind,(λr hr=>by cases hr)⟩
 | r::L,lo,hi,h=>by
  by_cases c:lo<r/\r<hi
  ·have ⟨t,h1,h2,h3⟩:=PG L c.1;grind
  ·have ⟨t,h1,h2,h3⟩:=PG L h;grind
theorem QE (h:s.good):∃lo hi,lo<hi/\∀t,lo<t->t<hi->s.inn t:=by have ⟨t,e⟩:=qJ.1 h.2;obtain ⟨lo,hi,a,b⟩:=s;unfold Sp.inn at *;cases a<;>cases b<;>simp at e ⊢;{exact ⟨lo,hi,by grind,λt c d=>⟨c,d⟩⟩};{exact ⟨lo,lo+1,by grind,λt c d=>c⟩};{exact ⟨hi-1,hi,by grind,λt c d=>d⟩};{exact ⟨0,1,by decide⟩}
theorem MN (hm:cW m=true)(hl:cW l=true){t:Rat}(ht:t≠cutP m l):m=l\/m=revL l\/aq m (cz l t) (cD l t)≠0:=by by_cases b:dotL m l=0;{by_cases a:aq m (cz l t) (cD l t)=0;{have c:=(kJ (pX hl) t).1;have hc:au.cr (au.aM m) (au.aM l)=0:=by{rw [Qf];exact b};rcases SD (p:=(cz l t,cD l t)) hm hl a c hc with g|g<;>grind};{exact .inr (.inr a)}};{refine .inr (.inr λa=>ht ?_);rw [jV] at a;unfold cutP;grind}
theorem FM {a b:md}:fe [⟨x,y,a,b⟩]=(if a then 0 else 1)+(if b then 0 else 1):=by unfold fe Ar Sp.MG Sp.KH;cases a<;>cases b<;>rfl
theorem Rp (h:y<=x):sR x y=x:=by unfold sR;rcases cU y x with ⟨g,e⟩|⟨g,e⟩|⟨g,e⟩<;>rw [e]<;>simp<;>grind
theorem YC (h:x<=y):sR x y=y:=by unfold sR;rcases cU y x with ⟨g,e⟩|⟨g,e⟩|⟨g,e⟩<;>rw [e]<;>simp<;>grind
theorem Rr (h:x<=y):sS x y=x:=by unfold sS;rcases cU y x with ⟨g,e⟩|⟨g,e⟩|⟨g,e⟩<;>rw [e]<;>simp<;>grind
theorem YE (h:y<=x):sS x y=y:=by unfold sS;rcases cU y x with ⟨g,e⟩|⟨g,e⟩|⟨g,e⟩<;>rw [e]<;>simp<;>grind
theorem Qq:(⟨x,y,false,false⟩:Sp).emp=decide (y<=x):=by unfold Sp.emp;rcases cU x y with ⟨g,e⟩|⟨g,e⟩|⟨g,e⟩<;>simp only<;>simp<;>grind
theorem Wf {b:md}:(⟨x,y,true,b⟩:Sp).emp=false:=rfl
theorem Wg {a:md}:(⟨x,y,a,true⟩:Sp).emp=false:=by cases a<;>rfl
theorem X1 {v:Sp}(h:v.good)(p:Rat) :
  (v.innB p=true/\(v.meet ⟨p,0,false,true⟩).emp=false/\(v.meet ⟨0,p,true,false⟩).emp=false/\fe [v.meet ⟨p,0,false,true⟩]+fe [v.meet ⟨0,p,true,false⟩]<=fe [v]+2) \/
  (v.meet ⟨p,0,false,true⟩=v/\(v.meet ⟨0,p,true,false⟩).emp=true)\/(v.meet ⟨0,p,true,false⟩=v/\(v.meet ⟨p,0,false,true⟩).emp=true):=by obtain ⟨⟨c,d⟩,he⟩:=h;obtain ⟨e,f,a,b⟩:=v;unfold Sp.meet Sp.innB;cases a<;>cases b;{grind [Qq,Rp,YE,Rr,YC,FM]};{grind [Qq,Rp,FM,Wg]};{grind [Qq,Rr,FM,Wf]};{left;simp [FM,Wf,Wg]}
def a_ (l:L3)(e:Bool):Tr->Sp->List Sp
 | .leaf i,v=>if i=true then [v] else []
 | .node m x y,v=>
  if m=l/\e=true\/m=revL l/\e=false then a_ l e x v
  else if m=l\/m=revL l then a_ l e y v
  else (if cH l v m=true then a_ l e x (bj l v m) else [])++(if cH l v (revL m)=true then a_ l e y (bj l v (revL m)) else [])
def Y6 (l:L3)(P:List Rat)(t:Tr):Prop:=t.dT λm=>dotL m l≠0->cutP m l∈P
theorem IB {w:Sp}(h:(s.meet w).cQ q):s.cQ q\/w.cQ q:=by unfold Sp.cQ Sp.meet at *;have mx:∀x y,sR x y=x\/sR x y=y:=λx y=>by{unfold sR;split<;>simp};have mn:∀x y,sS x y=x\/sS x y=y:=λx y=>by{unfold sS;split<;>simp};have a:=mx s.lo w.lo;have b:=mn s.hi w.hi;obtain ⟨s1,s2,s3,s4⟩:=s;obtain ⟨e,f,c,d⟩:=w;cases s3<;>cases c<;>cases s4<;>cases d<;>simp at h a b⊢<;> grind
theorem T1 (h:(bj l s m).cQ q):s.cQ q\/dotL m l≠0/\q=cutP m l:=by unfold bj at h;rcases bY (dotL m l) with ⟨g,e⟩|⟨g,e⟩|⟨g,e⟩<;>rw [e] at h;{exact .inl h};{rcases IB h with h|⟨_,h⟩|⟨h,_⟩;{exact .inl h};{exact .inr ⟨by grind,h⟩};{cases h}};{rcases IB h with h|⟨h,_⟩|⟨_,h⟩;{exact .inl h};{cases h};{exact .inr ⟨by grind,h⟩}}
theorem Xu {f g h k:Rat->md}(H:∀c,(f c).toNat+(g c).toNat+(h c).toNat<=(k c).toNat):∀l:pz Rat,l.countP f+l.countP g+l.countP h<=l.countP k
 | []=>by simp
 | c::l=>by
  have h1:=Xu H l;have a:=H c;have e:∀b:md,(if b=true then 1 else 0)=b.toNat:=λb=>by cases b<;>rfl
  grind
theorem T0 (h:dotL m l=0):bj l s m=s:=by unfold bj;rw [h];rfl
theorem Qj (h:dotL m l=0):cH l s m=decide ((jC m l).num.sign>0):=by unfold cH;rw [h];rfl
theorem S3 {l m:L3}{v:Sp}(hv:v.good) :
  (cH l v m=true/\cH l v (revL m)=true/\dotL m l≠0/\v.innB (cutP m l)=true/\fe [bj l v m]+fe [bj l v (revL m)]<=fe [v]+2)\/(bj l v m=v/\cH l v (revL m)=false)\/(bj l v (revL m)=v/\cH l v m=false):=by
 have key:dotL m l≠0->∀s,cH l s m=!(bj l s m).emp:=λf s=>by unfold cH;grind [bY]
 have g:dotL (revL m) l≠0->∀s,cH l s (revL m)=!(bj l s (revL m)).emp:=λf s=>by unfold cH;grind [bY]
 by_cases f:dotL m l=0
 ·grind [dot_rev,bY,T0,Qj,Mg]
 ·have k:dotL (revL m) l≠0:=by rw [dot_rev];grind
  rw [key f,g k];have H:=X1 hv (cutP m l);have j:cutP (revL m) l=cutP m l:=cutP_rev f
  have mk:∀{x y:Sp},bj l v m=x->bj l v (revL m)=y->(v.innB (cutP m l)=true/\x.emp=false/\y.emp=false/\fe [x]+fe [y]<=fe [v]+2)\/(x=v/\y.emp=true)\/(y=v/\x.emp=true) ->
    ((!(bj l v m).emp)=true/\(!(bj l v (revL m)).emp)=true/\dotL m l≠0/\v.innB (cutP m l)=true/\fe [bj l v m]+fe [bj l v (revL m)]<=fe [v]+2)\/(bj l v m=v/\(!(bj l v (revL m)).emp)=false)\/(bj l v (revL m)=v/\(!(bj l v m).emp)=false):=by
   rintro x y rfl rfl (⟨a,b,c,d⟩|⟨a,b⟩|⟨a,b⟩)
   ·exact .inl ⟨by rw [b];rfl,by rw [c];rfl,f,a,d⟩
   ·exact .inr (.inl ⟨a,by rw [b];rfl⟩)
   ·exact .inr (.inr ⟨a,by rw [b];rfl⟩)
  rcases bY (dotL m l) with ⟨h,e⟩|⟨h,e⟩|⟨h,e⟩
  ·exact absurd h f
  ·have i:(dotL (revL m) l).num.sign=-1:=by{grind [bY,dot_rev]};exact mk (by unfold bj;rw [e];rfl) (by unfold bj;rw [j,i];rfl) H
  ·have i:(dotL (revL m) l).num.sign=1:=by{grind [bY,dot_rev]};refine mk (x:=v.meet ⟨0,cutP m l,true,false⟩) (y:=v.meet ⟨cutP m l,0,false,true⟩) (by unfold bj;rw [e];rfl) (by unfold bj;rw [j,i];rfl) ?_<;>grind
theorem uH {P:pz Rat}{e:md}:∀{t:Tr} {v:Sp},v.good->Y6 l P t->(∀q,v.cQ q->q∈P) ->
  (∀s∈a_ l e t v,s.good/\∀q,s.cQ q->q∈P)/\fe (a_ l e t v)<=fe [v]+2*P.countP v.innB/\(a_ l e t v).length<=1+P.countP v.innB
 | .leaf i,v,hv,_,hP=>by
  cases i
  ·exact ⟨λs h=>(nomatch h),Qq4 _,Qq4 _⟩
  ·exact ⟨λs h=>by rw [Qq6.1 h];exact ⟨hv,hP⟩,Qp6 ..,Qp6 ..⟩
 | .node m x y,v,hv,hc,hP=>by
  obtain ⟨cm,cx,cy⟩:=hc;unfold a_;split
  ·exact uH hv cx hP
  ·split
   ·exact uH hv cy hP
   ·have ends:∀{k:L3},(k=m\/k=revL m)->∀q,(bj l v k).cQ q->q∈P:=λ{k} hk q h=>by rcases T1 h with g|⟨g,eq⟩<;>grind [dot_rev,cutP_rev]
    have A:(cH l v m=true->(∀s∈a_ l e x (bj l v m),s.good/\∀q,s.cQ q->q∈P)/\fe (a_ l e x (bj l v m))<=fe [bj l v m]+2*P.countP (bj l v m).innB/\(a_ l e x (bj l v m)).length<=1+P.countP (bj l v m).innB):=λh=>uH (gO hv h) cx (ends (.inl rfl));have B:(cH l v (revL m)=true->(∀s∈a_ l e y (bj l v (revL m)),s.good/\∀q,s.cQ q->q∈P)/\fe (a_ l e y (bj l v (revL m)))<=fe [bj l v (revL m)]+2*P.countP (bj l v (revL m)).innB/\(a_ l e y (bj l v (revL m))).length<=1+P.countP (bj l v (revL m)).innB):=λh=>uH (gO hv h) cy (ends (.inr rfl));refine ⟨λs h=>?_,?_⟩
    ·rcases Qw3.1 h with h|h<;>grind
    ·rw [Qw,Qq3];rcases S3 (l:=l) (m:=m) hv with ⟨a,b,j,n,r⟩|⟨d,b⟩|⟨d,a⟩
     ·rw [if_pos a,if_pos b];have o:=(A a).2;have p:=(B b).2;have u:0<P.countP λc=>decide (c=cutP m l):=Qr1.2 ⟨_,cm j,by simp⟩
      have H:=Xu (f:=(bj l v m).innB) (g:=(bj l v (revL m)).innB) (h:=λc=>decide (c=cutP m l)) (k:=v.innB) (λc=>by
       have i1:=(hU (l:=l) (s:=v) (m:=m)).1 a c;have i2:=(hU (l:=l) (s:=v) (m:=revL m)).1 b c;rw [val_rev] at i2;rw [←innB_iff,←innB_iff] at i1 i2
       have i3:c=cutP m l->v.innB c=true/\aq m (cz l c) (cD l c)=0:=by
        rintro rfl;refine ⟨n,?_⟩;rw [jV];unfold cutP;grind
       cases o:(bj l v m).innB c<;>cases p:(bj l v (revL m)).innB c<;>cases h3:v.innB c<;>by_cases w:c=cutP m l<;>simp at i1 i2 i3⊢<;> grind) P
      omega
     ·rw [if_neg (c:=cH l v (revL m)=true) (by rw [b];simp)];split;{rename_i g;have:=(A g).2;rw [d] at this ⊢;exact this};{exact ⟨Qq4 _,Qq4 _⟩}
     ·rw [if_neg (c:=cH l v m=true) (by rw [a];simp)];split;{rename_i g;have:=(B g).2;rw [d] at this ⊢;exact ⟨by show 0+_<=_;omega,by show 0+_<=_;omega⟩};{exact ⟨Qq4 _,Qq4 _⟩}
def eU (l:L3)(e:Bool):Rat×Rat:=if e=true then ((l.1:Rat),(l.2.1:Rat)) else (-(l.1:Rat),-(l.2.1:Rat))
theorem uG (ol:cW l=true){e:md}:∀{t:Tr} {v:Sp},v.good->(t.dT λm=>cW m=true/\(dotL m l≠0->cutP m l≠q)) ->
  inB (a_ l e t v) q=(v.innB q&&(au.qn t (cz l q,cD l q) (eU l e)).1)
 | .leaf i,v,_,_=>by cases i<;>simp [a_,au.qn,inB]
 | .node m x y,v,hv,hc=>by
  obtain ⟨⟨om,cm⟩,cx,cy⟩:=hc
  have nl:(l.1:Rat)*l.1+(l.2.1:Rat)*l.2.1>0:=by
   have h:=lA ol
   have n:∀z:Rat,z≠0->z*z>0:=λz c=>by rcases bY z with ⟨g,_⟩|⟨g,_⟩|⟨g,_⟩;{exact absurd g c};{exact Qv7 g g};{have:=Qv7 (show -z>0 by grind) (show -z>0 by grind);grind}
   have d:∀z:Rat,z*z≥0:=λz=>by by_cases c:z=0;{rw [c];grind};{have:=n z c;grind}
   have f:=d l.1;have j:=d l.2.1;by_cases p:l.1=0
   ·have o:l.2.1≠0:=λo=>h ⟨p,o⟩;have:=n l.2.1 (by exact_mod_cast o);grind
   ·have:=n l.1 (by exact_mod_cast p);grind
  have v0:=(kJ (lA ol) q).1
  have r:∀{z:Rat} ,0<z->z.num.sign=1:=λ{z} c=>by rcases bY z with ⟨h,_⟩|⟨h,e⟩|⟨h,_⟩;{grind};{exact e};{grind}
  have u:∀{z:Rat} ,z<0->z.num.sign=-1:=λ{z} c=>by rcases bY z with ⟨h,_⟩|⟨h,_⟩|⟨h,e⟩;{grind};{grind};{exact e}
  unfold a_ au.qn;have sd:∀z,au.Li m (cz l q,cD l q) (eU l e)=z↔(if (aq m (cz l q) (cD l q)).num.sign=0 then (au.nv m (eU l e)).num.sign else (aq m (cz l q) (cD l q)).num.sign)=z:=λz=>Wk5;split
  ·rename_i h;have:au.Li m (cz l q,cD l q) (eU l e)=1:=by{rw [sd];rcases h with ⟨rfl,rfl⟩|⟨rfl,rfl⟩;{rw [v0];exact r (by unfold au.nv eU;simpa using nl)};{rw [val_rev,v0];exact r (by unfold au.nv eU revL;simp;grind)}};rw [if_pos this];exact uG ol hv cx
  ·split;{rename_i f h;have:au.Li m (cz l q,cD l q) (eU l e)=-1:=by{rw [sd];cases e;{rcases h with rfl|rfl;{rw [v0];exact u (by unfold au.nv eU;simp;grind)};{exact absurd (.inr ⟨rfl,rfl⟩) f}};{rcases h with rfl|rfl;{exact absurd (.inl ⟨rfl,rfl⟩) f};{rw [val_rev,v0];exact u (by unfold au.nv eU revL;simp;grind)}}};rw [this,if_neg (by decide),if_pos rfl];exact uG ol hv cy};{rename_i f h;have A:aq m (cz l q) (cD l q)≠0:=by{by_cases w:dotL m l=0;{rcases MN om ol (t:=cutP m l+1) (by grind) with g|g|g;{exact absurd (.inl g) h};{exact absurd (.inr g) h};{rw [jV,w] at *;grind}};grind [MN]};have app:∀a b:pz Sp,inB (a++b) q=(inB a q||inB b q):=λa b=>by{unfold inB;rw [List.any_append]};have one:∀{k:L3} {z:Tr},(∀{v:Sp},v.good->inB (a_ l e z v) q=(v.innB q&&(au.qn z (cz l q,cD l q) (eU l e)).1))->inB (if cH l v k=true then a_ l e z (bj l v k) else []) q=(v.innB q&&decide (0<aq k (cz l q) (cD l q))&&(au.qn z (cz l q,cD l q) (eU l e)).1):=λ{k z} c=>by{split;{rename_i g;rw [c (gO hv g)];congr 1;have:=(hU (l:=l) (s:=v) (m:=k)).1 g q;rw [←innB_iff,←innB_iff] at this;(cases f:(bj l v k).innB q<;>cases j:v.innB q<;>simp [j] at this⊢<;> first|exact this|grind)};{rename_i g;have:=(hU (l:=l) (s:=v) (m:=k)).2 hv.2 (by simpa using g) q;rw [←innB_iff] at this;cases j:v.innB q;{simp [inB]};{simp [inB,this j]}}};rw [app,one λhv=>uG ol hv cx,one λhv=>uG ol hv cy,val_rev];grind [au.Li]}
def tL (l:L3)(t:Tr):List Sp:=combL 3 (combL 1 (a_ l true t bF) []) (combL 1 (a_ l false t bF) [])
theorem kZ:bF.good:=⟨⟨λ_=>rfl,λ_=>rfl⟩,rfl⟩
theorem Oc (q:Rat):bF.innB q=true:=rfl
theorem Qy (q:Rat):¬bF.cQ q:=by rintro (⟨h,_⟩|⟨h,_⟩)<;>cases h
section
variable {l:L3} {P:List Rat} {e:Bool} {t:Tr} (hc:Y6 l P t)
include hc
theorem MU:(∀s∈a_ l e t bF,s.good/\∀q,s.cQ q->q∈P)/\fe (a_ l e t bF)<=2*P.length/\(a_ l e t bF).length<=1+P.length:=by have ⟨a,b,c⟩:=uH (e:=e) kZ hc λq h=>absurd h (Qy q);have:P.countP bF.innB<=P.length:=List.countP_le_length ..;have:fe [bF]=0:=rfl;grind
theorem nu:∀q∈endsL (combL 1 (a_ l e t bF) []),q∈P:=λq b=>by
 have ⟨s,c,h⟩:=eZ.1 b;have ⟨d,f⟩:=Ek s c;have:q∈endsL (a_ l e t bF++[]):=by rcases h with ⟨a,rfl⟩|⟨a,rfl⟩;exact d a;exact f a
 have ⟨u,hu,h⟩:=eZ.1 this;rw [Qx2] at hu;exact ((MU hc).1 u hu).2 q h
theorem Si (hP:asc P):fe (combL 1 (a_ l e t bF) [])<=P.length:=by refine Fi (MY (comb_reg 1 _ _)) hP λx a=>nu hc (e:=e) x (eZ.2 ?_);have ⟨s,b,a⟩:=Qy1.1 a;rcases Qw3.1 a with a|a;{exact ⟨s,b,.inl (oq a)⟩};{exact ⟨s,b,.inr (qM a)⟩}
theorem YK:∀s∈tL l t,∀q,s.cQ q->q∈P:=λs b q h=>by
 have ⟨c,d⟩:=Ek s b;have:q∈endsL (combL 1 (a_ l true t bF) []++combL 1 (a_ l false t bF) []):=by rcases h with ⟨a,rfl⟩|⟨a,rfl⟩;exact c a;exact d a
 have ⟨u,hu,h⟩:=eZ.1 this;rcases Qw3.1 hu with hu|hu<;>grind [nu,eZ.2]
theorem on_in (ol:cW l=true)(ht:t.dT λm=>cW m=true){q:Rat}(hq:q∉P):inB (tL l t) q=((au.qn t (cz l q,cD l q) (eU l true)).1&&!(au.qn t (cz l q,cD l q) (eU l false)).1):=by
 have a:t.dT λm=>cW m=true/\(dotL m l≠0->cutP m l≠q):=by
  induction t with
  | leaf=>trivial
  | node m x y ix iy=>exact ⟨⟨ht.1,λh g=>hq (g▸hc.1 h)⟩,ix hc.2.1 ht.2.1,iy hc.2.2 ht.2.2⟩
 have one:∀e,inB (combL 1 (a_ l e t bF) []) q=(au.qn t (cz l q,cD l q) (eU l e)).1:=λe=>by
  rw [comb_inB 1 _ _ (λh=>by
   have ⟨u,hu,h⟩:=eZ.1 h;rw [Qx2] at hu;exact hq (((MU hc).1 u hu).2 q h)),uG ol kZ a]
  simp [opB,inB,Oc]
 unfold tL
 rw [comb_inB 3 _ _ (λh=>by
  have ⟨u,hu,h⟩:=eZ.1 h;rcases Qw3.1 hu with hu|hu
  ·exact hq (nu hc (e:=true) q (eZ.2 ⟨u,hu,h⟩))
  ·exact hq (nu hc (e:=false) q (eZ.2 ⟨u,hu,h⟩))),one,one]
 rfl
theorem Vu {q r:Rat}(h:∀x∈P,(x<q↔x<r)/\(q<x↔r<x))(v:Rat×Rat):au.qn t (cz l q,cD l q) v=au.qn t (cz l r,cD l r) v:=by
 induction t with
 | leaf=>rfl
 | node m x y ix iy=>
  have i:(aq m (cz l q) (cD l q)).num.sign=(aq m (cz l r) (cD l r)).num.sign:=by rw [jV,jV];by_cases f:dotL m l=0;{rw [f];congr 2;grind};{have ⟨j,n⟩:=h _ (hc.1 f);have g:∀z,jC m l+dotL m l*z=dotL m l*(z-cutP m l):=λz=>by{unfold cutP;grind};rw [g,g];generalize cutP m l=p at *;have key:∀k z:Rat,k≠0->((k*z).num.sign=if 0<k then z.num.sign else -z.num.sign):=λk z hk=>by{rcases bY k with ⟨a,_⟩|⟨a,_⟩|⟨a,_⟩;{exact absurd a hk};{rw [if_pos a];rcases bY z with ⟨b,d⟩|⟨b,d⟩|⟨b,d⟩<;>rcases bY (k*z) with ⟨c,e3⟩|⟨c,e3⟩|⟨c,e3⟩<;>rw [d,e3]<;>exfalso;{rw [b] at c;grind};{rw [b] at c;grind};{have:=Qv7 a b;grind};{have:=Qv7 a b;grind};{have:=Qv7 a (show 0< -z by grind);grind};{have:=Qv7 a (show 0< -z by grind);grind}};{rw [if_neg (by grind)];have e:0< -k:=by{grind};(rcases bY z with ⟨b,d⟩|⟨b,d⟩|⟨b,d⟩<;>rcases bY (k*z) with ⟨c,e3⟩|⟨c,e3⟩|⟨c,e3⟩<;>rw [d,e3]<;>first|rfl|exfalso);{rw [b] at c;grind};{rw [b] at c;grind};{have:=Qv7 e b;grind};{have:=Qv7 e b;grind};{have:=Qv7 e (show 0< -z by grind);grind};{have:=Qv7 e (show 0< -z by grind);grind}}};grind [bY]}
  unfold au.qn au.Li;rw [i,ix hc.2.1,iy hc.2.2]
theorem UJ (ol:cW l=true)(ht:t.dT λm=>cW m=true)(hP:asc P){ms:pz md}(hm:ms=(aV P).map λx=>(au.qn t (cz l x,cD l x) (eU l true)).1&&!(au.qn t (cz l x,cD l x) (eU l false)).1):pM P ms=tL l t:=by have f:ms.length=P.length+1:=by{rw [hm,Qy5,eE]};have F:=fi (ms:=ms) hP (Qq2 (P.length+1));have rg:vJ (pM P ms):=by{unfold pM;rw [f];exact F.r};refine reg_eq P rg (comb_reg _ _ _) λq c=>?_;rw [on_in hc ol ht c];have mk:∀j,j<=P.length->(dL P j).inn q->ms.getD j false=((au.qn t (cz l q,cD l q) (eU l true)).1&&!(au.qn t (cz l q,cD l q) (eU l false)).1):=λj b a=>by{have g:=IX hP b;rw [hm,Qx3,Qs6,Qq1 (by rw [eE];omega)];have e:(aV P)[j]'(by rw [eE];omega)=(aV P).getD j 0:=by{rw [Qx3,Qq1 (by rw [eE];omega)];rfl};simp only [Wq5,Qf2,e];have T:=λv=>Vu hc (λx h=>⟨(k_ hP b g a h).1,(k_ hP b g a h).2.1⟩) v;rw [T,T]};refine yV ?_;unfold pM;rw [f,ke,F.mem q c];constructor;{rintro ⟨j,b,d,k⟩;rw [←mk j (by omega) k];exact d};{intro d;have ⟨i,n,a⟩:=QA hP c;exact ⟨i,by omega,by rw [mk i n a];exact d,a⟩}
end
end Go.Proofs.Tryz
namespace Go.Proofs.Tryz
open Go.Eng Go.Big
open Go.Value renaming slice→qD,agg→hF,pointer→dZ,tuple→dB,int→qvZ
variable{v:Value}{V:View}{n:Nat}{vs:List Value}
theorem Ri (V:ut):V.Le V.shut:=λ_ _ h=>h
def dC:oL:=(0,0,0)
def cC (a b:oL):Int:=dK a.1 b.1
theorem ordC:Ord cC:=⟨λa b h=>by unfold cC at *;rcases cU a.1 b.1 with ⟨c,e⟩|⟨c,e⟩|⟨c,e⟩<;>rcases cU b.1 a.1 with ⟨h2,e'⟩|⟨h2,e'⟩|⟨h2,e'⟩<;>rw [e] at h<;>rw [e']<;>grind,
 λa b d h f=>by unfold cC at *;rcases cU a.1 b.1 with ⟨c,e⟩|⟨c,e⟩|⟨c,e⟩<;>rcases cU b.1 d.1 with ⟨h2,e'⟩|⟨h2,e'⟩|⟨h2,e'⟩<;>rcases cU a.1 d.1 with ⟨h3,e3⟩|⟨h3,e3⟩|⟨h3,e3⟩<;>rw [e] at h<;>rw [e'] at f<;>rw [e3]<;>grind⟩
def RC (V:View)(v:Value)(c:oL):Prop:=∃(x y:Int)(p:OA),v=.agg #[.int .i64 x,.int .i64 y,.pointer p,.int .i64 c.2.1,.int .i64 c.2.2]/\RR V (.agg #[.int .i64 x,.int .i64 y,.pointer p]) c.1/\Sz 1000000 c.1
theorem RC.le {V V':ut}{c:oL}(h:RC V v c)(l:V.Le V'):RC V' v c:=by obtain ⟨x,y,p,e,a,b⟩:=h;exact ⟨x,y,p,e,a.le l,b⟩
theorem RC.shape {c:oL}(h:RC V v c):∃(x y:Int)(p:OA)(a b:Int),v=hF #[qvZ .i64 x,qvZ .i64 y,dZ p,qvZ .i64 a,qvZ .i64 b]:=by obtain ⟨x,y,p,e,-⟩:=h;exact ⟨x,y,p,_,_,e⟩
theorem NK {w:un}{a b:oL}(h:RC V v a)(h':RC V w b):aa prog 203 #[v,w] V λr V'=>r=qvZ .i64 (cC a b):=by obtain ⟨x,y,p,rfl,f,g⟩:=h;obtain ⟨i,j,k,rfl,c,d⟩:=h';refine B6 V _ λl e=>(lY (f.le e) (c.le e) g d).s ?_;rintro r V2 m rfl;exact ⟨_,rfl,λn o=>rfl⟩
structure SR (V:View) (n:Nat) (vs:List Value) (l:List oL):Prop where
 row:Row 5 RC V vs l
 len:n=l.length
 G9:l.length<4000
theorem SR.le {V V':ut}{l:pz oL}(h:SR V n vs l)(e:V.Le V'):SR V' n vs l:=⟨h.row.le λ_ _ g=>RC.le g e,h.len,h.G9⟩
theorem SR.get {l:pz oL}(h:SR V n vs l){k:Nat}(hk:k<l.length):∃(x y:Int)(p:OA)(a b:Int),
  ((0+k*5)+5<=vs.length/\(vs.drop (0+k*5)).take 5=[qvZ .i64 x,qvZ .i64 y,dZ p,qvZ .i64 a,qvZ .i64 b])/\RC V (hF #[qvZ .i64 x,qvZ .i64 y,dZ p,qvZ .i64 a,qvZ .i64 b]) (l.getD k dC):=by obtain ⟨xs,-,c,f,g⟩:=h.row.get (d:=dC) hk (by decide);obtain ⟨x,y,p,a,b,e⟩:=c.shape;have e:=congrArg Array.toList (Value.agg.inj e);subst e;rw [Qz2];exact ⟨x,y,p,a,b,⟨f,g⟩,c⟩
theorem RC.cells {c:oL}(h:RC V v c):∃xs:pz un,v=.agg xs.toArray/\xs.length=5/\∀x∈xs,x.oneCell'=true:=by obtain ⟨_,_,_,_,_,rfl⟩:=h.shape;exact ⟨_,rfl,rfl,Qz4.1 rfl⟩
theorem Kg {lb c:Nat}{l:pz oL}(hw:V.w.heap[lb]?=some (.cells vs.toArray 302 (0,0)))(hx:V.X lb)(h:SR V n vs l) :
  aa prog 202 #[qD (some ⟨lb,0,none⟩) n c,.func (.func 203) #[] #[]] V λr V'=>r=dB #[]/\∃vs' l',V'.w.heap[lb]?=some (.cells vs'.toArray 302 (0,0))/\SR V' n vs' l'/\l'.Perm l/\l'.Pairwise λx y=>x.1<=y.1:=by have G9:=h.G9;refine (Jk (R:=RC) (cf:=cC) EX aggC sizC RC.le RC.cells ordC NK (by decide) hw hx h.row h.len).s ?_;rintro r V' i ⟨rfl,vs',l',e,row,pm,g⟩;refine ⟨rfl,vs',l',e,⟨row,h.len.m pm.length_eq.symm,by rw [pm.length_eq];exact G9⟩,pm,g.imp λ{a b} d=>?_⟩;unfold cC at d;rcases cU b.1 a.1 with ⟨f,e⟩|⟨f,e⟩|⟨f,e⟩<;>rw [e] at d<;>grind
theorem zU:aa prog 202 #[qD none 0 0,.func (.func 203) #[] #[]] V λr V'=>r=dB #[]:=
 (wO EX).s λ_ _ _ h=>h.1
def ph (m:Nat):Prop:=∀(V:View)(lb n c:Nat)(vs:List Value)(l:List oL),l.length=m->V.w.heap[lb]?=some (.cells vs.toArray 302 (0,0))->V.X lb->SR V n vs l ->
 aa prog 202 #[.slice (some ⟨lb,0,none⟩) n c,.func (.func 203) #[] #[]] V λr V'=>r=.tuple #[]/\∃vs' l',V'.w.heap[lb]?=some (.cells vs'.toArray 302 (0,0))/\SR V' n vs' l'/\l'.Perm l/\l'.Pairwise λx y=>x.1<=y.1
theorem Lm (m:Nat):ph m:=λ_ _ _ _ _ _ _ hw a h=>Kg hw a h
end Go.Proofs.Tryz
