import Derived.Test.YtdfckdifmjeieaaGreatDoorC17
set_option linter.all false
open Go.IntKind (i64 u64 u32)
open Go.IntKind renaming i64→Ŵ
open Go.Value renaming slice→yG,bool→dB,pointer→qvJ,tuple→å,int→Ô,agg→hF
open Go.Eng Go.Big
namespace Go.Proofs.Tryz
variable{l:L3}{p:OA}
def bF (l:L3):L3:=if l.1<0\/l.1=0/\l.2.1<0 then Õ l else l
def Tr.cQ:Tr->List L3
 | .leaf _=>[]
 | .node l a b=>l::(a.cQ++b.cQ)
def kY:∀t:Tr,t.cQ.length=t.size
 | .leaf _=>rfl
 | .node _ a b=>by simp only [Tr.cQ,Ċ,í,kY a,kY b,Tr.size]
theorem jS {p:L3->Prop}:∀{t:Tr},t.dG p->∀x∈t.cQ,p x
 | .leaf _,_,x,h=>by cases h
 | .node l a b,⟨u,z,F⟩,x,h=>by
  rcases ç.1 h with rfl|h
  ·exact u
  ·rcases ü.1 h with h|h
   ·exact jS z x h
   ·exact jS F x h
def Bd.rev (h:Bd l):Bd (Õ l):=by obtain ⟨a,b,c⟩:=h;unfold Bd Õ;simp only [Ũ];exact ⟨a,b,c⟩
def Bd.can (h:Bd l):Bd (bF l):=by unfold bF;split;{exact h.rev};exact h
def Bd.iP (h:Bd l):jg 1000 l:=⟨h.sz.1,h.sz.2.1,h.sz.2.2⟩
theorem PY:(SQ [(l.1:Rat).num.sign,(l.2.1:Rat).num.sign]<0)↔(l.1<0\/l.1=0/\l.2.1<0):=by rw [Qh5,Qh5];simp only [SQ];grind
theorem Ks {V:un}{v:um}{l:L3}(h:qt V v l):À 132 #[v] V λr W=>∃w b,r=å #[w,dB b]/\qt W w (bF l):=by have f:=h;obtain ⟨⟨n,o,p,s,t,q,u,x,r,rfl,y,z,A⟩,c⟩:=h;obtain ⟨s1,s2,s3⟩:=c.sz;refine AE V _ λB C=>(eO ra s1).s ?_;rintro r V2 D rfl;refine ⟨_,rfl,λE F=>(eO ra s2).s ?_⟩;rintro r G H rfl;refine ⟨_,rfl,λI K M d=>(Kq (l:=[(l.1:Rat).num.sign,(l.2.1:Rat).num.sign]) rfl (λi v j=>⟨_,rfl,by rw [add_zero'];exact dM (xs:=YG [(l.1:Rat).num.sign,(l.2.1:Rat).num.sign]) d j⟩) ψ).s ?_⟩;rintro r N O rfl;refine ⟨_,rfl,λJ=>⟨λa P Q=>(lC (L:=l) ((f.le aA).1) c.iP φ).s ?_,λa R k=>?_⟩⟩;{have a:=PY.1 (Á a);rintro r m S g;have e:qt m r (Õ l):=⟨g,c.rev⟩;grind [e.shape,bF,e.le]};have a:=Â a;refine ⟨_,_,rfl,?_⟩;unfold bF;rw [Ã λh=>a (PY.2 h)];exact ra
def one9 {a b:Int}{c d:Int}{q:OA}{e f:Int}{r:OA}:∀v∈([Ô Ŵ a,Ô Ŵ b,qvJ p,Ô Ŵ c,Ô Ŵ d,qvJ q,Ô Ŵ e,Ô Ŵ f,qvJ r]:zA um),v.oneCell'=true:=by intro v hm;simp only [ç,ě,Ì] at hm;rcases hm with rfl|rfl|rfl|rfl|rfl|rfl|rfl|rfl|rfl<;>rfl
def ZT:Tr->List L3
 | .leaf _=>[]
 | .node l _ _=>[bF l]
def H3 {V:un}{t:Tr}{Z lb n c:Nat}{vs:zA um}{l:zA L3}(h:RT V p t)(ha:t.dG Bd)(hw:V.w.heap[Z]?=some (.cells #[yG (mA lb c) n c] 157 (0,0)))(hx:V.X Z)(hv:vs≠[]->V.w.heap[lb]?=some (.cells vs.toArray 127 (0,0)))(hxv:vs≠[]->V.X lb)(hne:vs≠[]->Z≠lb)(hg:GR 9 qt V n c vs l)(hp:vs≠[]->0<n)(hn:n<=1000000:=by omega):À 131 #[qvJ p,qvJ (some ⟨Z,0,none⟩)] V λr V'=>∃(bm:Nat)(vm:zA um)(n' c':Nat),(vm≠[]->V'.w.heap[bm]?=some (.cells vm.toArray 127 (0,0)))/\(vm≠[]->V.w.heap.size<=bm\/(vs≠[]/\bm=lb))/\r=å #[]/\V'.w.heap[Z]?=some (.cells #[yG (mA bm c') n' c'] 157 (0,0))/\GR 9 qt (V'.aY (vm≠[]) bm) n' c' vm (l++ZT t)/\(vm≠[]->0<n'):=by refine yW p Z lb n c vs V _ hw hx hv hxv hne λP e=>(cu (h.le e)).s ?_;rintro r V2 q rfl;have s:∀{A B:Prop},A\/B\/False->A\/B:=λh=>h.imp id λh=>h.elim id False.elim;refine ⟨_,rfl,λf=>?_,λf Q g hle k m o=>⟨g,vs,n,c,m,λh=>s (o h),rfl,k,?_,hp⟩⟩;{(cases t with|leaf i=>{cases f}|node ln a b=>{obtain ⟨u,y,z,C,D,E,F,G,H,I,pl,J,i,rfl,K,L,-,-⟩:=h.le (e.m q);have d:∀j v,([Ô Ŵ y,Ô Ŵ z,qvJ C,Ô Ŵ D,Ô Ŵ E,qvJ F,Ô Ŵ G,Ô Ŵ H,qvJ I,qvJ pl,qvJ J,dB i]:zA um)[j]?=some v->V2.at ((⟨u,0,none⟩:Addr).add j) v:=by{intro j v hv;rw [add_zero'];exact dM (xs:=[_,_,_,_,_,_,_,_,_,_,_,_]) K hv};refine ⟨rfl,rfl,_,_,_,_,_,_,_,_,_,⟨u,0,none⟩,rfl,d 0 _ rfl,d 1 _ rfl,d 2 _ rfl,d 3 _ rfl,d 4 _ rfl,d 5 _ rfl,d 6 _ rfl,d 7 _ rfl,d 8 _ rfl,λR S=>(Ks (l:=ln) ⟨ra,ha.1⟩).s ?_⟩;rintro r M T ⟨w,b,rfl,x⟩;obtain ⟨_,rfl⟩:=ŷ x.shape;refine ⟨_,_,_,_,_,_,_,_,_,_,rfl,ω,hg.le,hg.cap,rfl,one9,λsp c' N O U g hle k m o=>⟨g,_,n+1,c',m,λh=>s (o h),rfl,k,?_,λ_=>Nat.succ_pos n⟩⟩;exact ((hg.up (V':=M) aA).snoc rfl x φ N O).up hle})};(cases t with|node ln a b=>{cases f}|leaf i=>{show GR 9 qt _ n c vs (l++[]);rw [ć];exact hg.up ((e.m q).m hle)})
def YZ:List Tr->List L3
 | []=>[]
 | t::r=>t.cQ.map bF++YZ r
def Vk (ts:zA Tr)(x:Tr):YZ (ts++[x]).reverse=x.cQ.map bF++YZ ts.reverse:=by rw [List.reverse_append];rfl
def yh {V:un}{t:Tr}{ob lb:Nat}(h:RT V p t)(ha:t.dG Bd)(hs:t.size<=400000)(hw:V.w.heap[ob]?=some (.cells #[yG (mA lb 0) 0 0] 157 (0,0)))(hx:V.X ob):À 130 #[qvJ p,.func (.func 131) #[] #[qvJ (some ⟨ob,0,none⟩)]] V λr V'=>∃(bm:Nat)(vm:zA um)(n' c':Nat),(vm≠[]->V'.w.heap[bm]?=some (.cells vm.toArray 127 (0,0)))/\(vm≠[]->V.w.heap.size<=bm)/\r=å #[]/\V'.w.heap[ob]?=some (.cells #[yG (mA bm c') n' c'] 157 (0,0))/\GR 9 qt (V'.aY (vm≠[]) bm) n' c' vm (t.cQ.map bF)/\(vm≠[]->0<n'):=by
 refine tV p ob lb 0 0 [] V _ hw hx (λh=>Å rfl h) (λh=>Å rfl h) (λh=>Å rfl h) ⟨λz k V'=>∃(d:zA Tr)(o:zA L3),z.1=d.length/\z.1<=z.2.1/\z.2.1<=z.2.2.1.length/\Stk V' z.2.2.1 d/\(∀x∈d,x.dG Bd)/\GR 9 qt V' z.2.2.2.1 z.2.2.2.2.1 z.2.2.2.2.2 o/\(z.2.2.2.2.2≠[]->0<z.2.2.2.1)/\o++YZ d.reverse=t.cQ.map bF/\k=Nj d/\k<=2*t.size+1,
  ⟨(1,1,[qvJ p],0,0,[]),2*t.size+1,⟨by and_intros<;>first|rfl|trivial|omega,[t],[],rfl,Ù _,Ù _,?_,λx hx=>by rw [õ.1 hx];exact ha,GR.nil,(λh=>Å rfl h),by simp [YZ],by simp [Nj],Ù _⟩⟩,?_⟩
 ·intro i x hx
  match i,hx with
  | 0,hx=>cases hx;exact ⟨p,rfl,h⟩
  | n+1,hx=>cases hx
 ·rintro ⟨n,c,vs,n',c',us⟩ m V1 l1 ⟨d,o,h1,T,U,f,D,I,e,J,h6,h7⟩;dsimp only at h1 T U f I e ⊢;have a0:=Y4 d
  have a6:o.length<=1000000:=by have:=Æ List.length J;rw [í,Ě,kY] at this;omega
  have gl:=I.len;refine ⟨θ,λE=>?_,λE V6 bk hle K L e3=>?_⟩
  ·have E:0<n:=by simpa using E
   have w1:Ŵ.wrap ((n:Int)-1)=((n-1:Nat):Int):=by rw [ay ω];omega
   rw [w1];simp only [Ģ];have A:n-1<d.length:=ω
   have ⟨q,N,j⟩:=f (n-1) d[n-1] (ñ A)
   have B:d=d.take (n-1)++[d[n-1]]:=by rw [ť A,ŋ ω]
   have s:=D _ (ú A);generalize d[n-1]=x at j B s
   have K:o++(x.cQ.map bF++YZ (d.take (n-1)).reverse)=t.cQ.map bF:=by rw [<-Vk,<-B];exact J
   have L:Nj d=Nj (d.take (n-1))+(2*x.size+1):=by
    conv=>lhs;rw [B]
    rw [C8];simp [Nj]
   have F:∀y∈d.take (n-1),y.dG Bd:=λy u=>D y (Qn7 u);refine ⟨ų,T,q,N,ų,λV2 O Ru G f1 f2 f3 f4 f5=>(H3 (V:=V2.au [Ru,vb us V2.w.heap.size G]) (lb:=G) (l:=o) (RT.le (V:=V1) (V':=V2.au _) (λb o h=>O b o h) j) s f1 ⟨ψ,f2⟩ f3 (λh=>⟨by simp [mB h],f4 h⟩) f5 (I.s (V':=V2.au _) λ_ _ g=>qt.le g λb o h=>O b o h) e).s ?_⟩;rintro r V3 l3 ⟨bm,vm,P,Q,a1,W,rfl,a3,a4,Y⟩;refine ⟨bm,vm,a1,W,rfl,P,Q,a3,λV4 Z=>?_⟩;have oY:V2.Le V3:=λb o h=>l3 b o h;have iL:=O.m ((rJ (V':=V2) oY (Ó.Le.refl V2) λh=>(W h).imp id λh'=>by rw [h'.2];exact f4 h'.1).m Z);refine (cu (j.le iL)).s ?_;rintro r V5 l5 rfl;have g5:=a4.s λ_ _ g=>qt.le g λb o h=>l5 b o (Z b o h);refine ⟨_,rfl,λC=>?_,λC=>?_⟩
   ·have C:x.rH=false:=by{simpa using C};(cases x with|leaf i=>{cases C}|node ln a b=>{obtain ⟨bb,x1,x2,x3,y1,y2,y3,z1,z2,z3,pl,pr,i,rfl,hb,hl,R,S⟩:=j;have H:=(iL.m l5) _ _ hb;simp only [Tr.size] at L;refine ⟨rfl,rfl,pr,yR H 10 rfl,rfl,rfl,pl,yR H 9 rfl,ω,ω,ω,rfl,by intro v hv;simp at hv;rcases hv with rfl|rfl<;>rfl,λsp c' k1 k2=>?_⟩;(refine ⟨(n-1+2,c',_,P,Q,vm),Nj (d.take (n-1))+(2*a.size+1)+(2*b.size+1),ω,⟨Ų,d.take (n-1)++[b,a],o++ZT (.node ln a b),?_,k1,?_,(f.le aA).Zi ω ω (S.le aA) (R.le aA),λy u=>?_,g5,Y,?_,?_,ω⟩⟩);{simp;omega};{dsimp only;simp only [í,ë,Ċ];omega};{rcases ü.1 u with u|u;{exact F y u};simp only [ç,ě,Ì] at u;rcases u with rfl|rfl;{exact s.2.2};exact s.2.1};{rw [<-K];have:YZ (d.take (n-1)++[b,a]).reverse=a.cQ.map bF++(b.cQ.map bF++YZ (d.take (n-1)).reverse):=by{rw [List.reverse_append];rfl};rw [this];simp only [Tr.cQ,ZT,Ĺ,ś,Ĝ,Qc1,Œ]};rw [C8];simp [Nj];omega})
   ·have C:x.rH=true:=by{simpa using C};(cases x with|node ln a b=>{cases C}|leaf i=>{simp only [Tr.size] at L;(refine ⟨(n-1,c,vs,P,Q,vm),Nj (d.take (n-1)),ω,⟨Ų,d.take (n-1),o,?_,ω,U,λi t M=>?_,F,by simpa [ZT] using g5,Y,by simpa [Tr.cQ] using K,rfl,ω⟩⟩);{simp;omega};rw [Ĳ] at M;split at M;{exact (f.le aA) i t M};cases M})
  ·have E:n=0:=by{simpa using E};have:d=[]:=ĕ.1 ω;subst this;simp only [List.reverse_nil,YZ,ć] at J;rw [<-J];refine ⟨bk,us,n',c',L,λh=>?_,rfl,K,I.up hle,e⟩;rcases e3 h with h|h|h;{exact h};{exact Å rfl h.1};exact h.elim
def sortL (l m:List L3):Prop:=m.Perm l/\m.Pairwise λx y=>¬Xp y x<0
def Kp {V:un}{t:Tr}(h:RT V p t)(ha:t.dG Bd)(hs:t.size<4000)(sl:HI t.cQ.length)(cl:J4 t.cQ.length):À 76 #[qvJ p] V λr W=>∃q n c m,r=yG q n c/\bP 9 qt W q n (fh eL m)/\sortL (t.cQ.map bF) m:=by refine DW V _ ⟨λz _=>z=(0,0,[]),⟨(0,0,[]),σ,rfl⟩,?_⟩;rintro z V1 L rfl;dsimp only;refine ⟨rfl,λV2 M N B O P g3 g4 g5=>(yh (V:=V2.au [N,vb [] V2.w.heap.size B]) (lb:=B) (RT.le (V:=V) (V':=V2.au _) (λb o h=>M b o (L b o h)) h) ha ω O ⟨ψ,P⟩).s ?_⟩;rintro r V3 l3 ⟨Q,v,n,c,R,S,rfl,T,u,U⟩;refine ⟨Q,v,R,λh=>.inl (S h),rfl,n,c,T,λj=>?_,λj C W D E F=>?_⟩;{subst j;have X:=u.cap;have hle:=u.le;have hlen:=u.len;have Y:c=0:=by{simp at X;omega};subst Y;have Z:n=0:=ω;subst Z;have i:=ĕ.1 hlen.symm;refine ⟨rfl,λV4 l4=>Ad.s ?_⟩;rintro r V5 l5 rfl;refine ⟨rfl,λV6 l6 a0 E F=>(cl.1 (by rw [<-Ě (f:=bF),i];rfl)).s ?_⟩;rintro r V7 l7 rfl;refine ⟨0,[],λh=>Å rfl h,λh=>Å rfl h,none,0,0,rfl,λV8 l8 G H=>⟨_,_,_,[],rfl,bP.nil,?_⟩⟩;rw [i];exact ⟨.refl _,List.Pairwise.nil⟩};have a:=u.s λ_ _ g=>qt.le g λb o h=>W b o h;have hlen:=a.len;have x:(t.cQ.map bF).length<4000:=by{rw [Ě,kY];exact hs};have I:=a.cap;have hle:=a.le;have a6:=U j;have y:c≠0:=ω;have A:∀b,mA b c=some ⟨b,0,none⟩:=λb=>by{unfold mA;rw [Ã y]};rw [A];refine (sl (V:=C.au [vb v C.w.heap.size D]) (lb:=D) (vs:=v) (l:=t.cQ.map bF) (Ě ..) (E j) ⟨by simp [mB j],F j⟩ ⟨a.row.le λ_ _ g=>qt.le g λb o h=>h,hlen,x⟩).s ?_;rintro r fD a7 ⟨rfl,d,m,H,sr,pm,pw⟩;have J:=pm.length_eq;have k:d≠[]:=λe=>by{have:=sr.row.eH φ;rw [e,J,<-hlen] at this;simp at this;omega};refine ⟨rfl,j,d,k,H,λK dq s f1 f2=>?_⟩;rw [A];refine ae.monoB (cl.2 (V:=K.au [vb d K.w.heap.size s]) (lb:=s) (vs:=d) (l:=m) (J.m (Ě ..)) (f1 k) ⟨by simp [mB k],f2 k⟩ (sr.le λb o h=>dq b o h) hle) ?_;rintro r gQ eJ hH ⟨ws,rfl,e4,row,wl⟩;have hk:=wh (e:=eL) (l:=m);refine ⟨s,ws,λ_=>e4,λ_=>.inr ⟨k,rfl⟩,some ⟨s,0,none⟩,(fh eL m).length,c,by rw [A],λji fk Rs f3=>⟨_,_,_,m,rfl,?_,pm,pw⟩⟩;exact bP.bR f3 (row.le λ_ _ g=>qt.le g ((Lc λ_=>hH s (f2 k)).m fk)) φ ω
end Go.Proofs.Tryz
namespace Go.Proofs.Tryz.ao
section
def nv (l:L3)(v:V2):Rat:=(l.1:Rat)*v.1+(l.2.1:Rat)*v.2
def aD (l:L3):V2:=((l.2.1:Rat),-(l.1:Rat))
def Lq (l:L3)(v:V2):nv l v=cr (aD l) v:=by unfold nv cr aD;grind
def tD (l:L3)(p v:V2):Int:=if (aw l p.1 p.2).num.sign=0 then (nv l v).num.sign else (aw l p.1 p.2).num.sign
def gX:Tr->V2->V2->Bool×Bool
 | .leaf i,_,_=>(i,true)
 | .node l a b,p,v=>if tD l p v=1 then gX a p v else if tD l p v=-1 then gX b p v else (false,false)
def dW:Tr->V2->List L3
 | .leaf _,_=>[]
 | .node l a b,p=>(if aw l p.1 p.2=0 then [l] else [])++((if aw l p.1 p.2≥0 then dW a p else [])++(if aw l p.1 p.2<=0 then dW b p else []))
def oK:∀{t:Tr} {p:V2} {l:L3},l∈dW t p->aw l p.1 p.2=0/\l∈t.cQ
 | .leaf _,_,_,h=>by cases h
 | .node m a b,p,l,h=>by
  unfold dW at h;simp only [ü] at h;rcases h with h|h|h
  ·split at h
   ·rename_i e;rcases õ.1 h with rfl;exact ⟨e,ą ..⟩
   ·cases h
  ·split at h
   ·have:=oK h;exact ⟨this.1,ø _ (Ĕ _ this.2)⟩
   ·cases h
  ·split at h
   ·have:=oK h;exact ⟨this.1,ø _ (ĝ _ this.2)⟩
   ·cases h
def dR {q:Rat}:q.num.sign=-1↔q<0:=by rw [Wx4,<-Int.not_le,<-Rat.not_le,Wz1]
def dT {q:Rat}:q.num.sign=1↔q>0:=by have h:=@dR (-q);grind [Rat.neg_num]
def bJ {q:Rat}:q.num.sign=0↔q=0:=by rw [Qm8,š]
def sF:∀{t:Tr} {p v x:V2},(∀l∈dW t p,nv l v≠0)->(∀l∈dW t p,(nv l v>0->nv l x>0)/\(nv l v<0->nv l x<0)) ->gX t p x=gX t p v/\(gX t p v).2=true
 | .leaf _,_,_,_,_,_=>⟨rfl,rfl⟩
 | .node l a b,p,v,x,u,z=>by
  have F:aw l p.1 p.2≥0->gX a p x=gX a p v/\(gX a p v).2=true:=λe=>by
   have sub:∀m∈dW a p,m∈dW (.node l a b) p:=λm hm=>by
    unfold dW;rw [Ä e];exact ĝ _ (Ĕ _ hm)
   exact sF (λm hm=>u m (sub m hm)) (λm hm=>z m (sub m hm))
  have f:aw l p.1 p.2<=0->gX b p x=gX b p v/\(gX b p v).2=true:=λe=>by
   have sub:∀m∈dW b p,m∈dW (.node l a b) p:=λm hm=>by
    unfold dW;rw [Ä e];exact ĝ _ (ĝ _ hm)
   exact sF (λm hm=>u m (sub m hm)) (λm hm=>z m (sub m hm))
  have i:aw l p.1 p.2=0->l∈dW (.node l a b) p:=λe=>by
   unfold dW;rw [Ä e];exact Ĕ _ (õ.2 rfl)
  have key:tD l p x=tD l p v/\(tD l p v=1/\aw l p.1 p.2≥0\/tD l p v=-1/\aw l p.1 p.2<=0):=by
   unfold tD;by_cases e:aw l p.1 p.2=0
   ·have hm:=i e;rw [Ä (bJ.2 e),Ä (bJ.2 e)];have ⟨j,k⟩:=z l hm;have r:=u l hm;by_cases q:nv l v>0;{rw [dT.2 q,dT.2 (j q)];exact ⟨rfl,.inl ⟨rfl,χ⟩⟩};have c:nv l v<0:=χ;rw [dR.2 c,dR.2 (k c)];exact ⟨rfl,.inr ⟨rfl,χ⟩⟩
   ·have d:¬(aw l p.1 p.2).num.sign=0:=λh=>e (bJ.1 h);rw [Ã d,Ã d];refine ⟨rfl,?_⟩;by_cases q:aw l p.1 p.2>0;{exact .inl ⟨dT.2 q,χ⟩};exact .inr ⟨dR.2 χ,χ⟩
  obtain ⟨n,o⟩:=key;simp only [gX,n];rcases o with ⟨e,g⟩|⟨e,g⟩
  ·rw [e,Ä rfl,Ä rfl];exact F g
  ·rw [e,Ã φ,Ä rfl,Ã φ,Ä rfl];exact f g
def Rg (D:List V2)(M:List L3):Prop:=∀l∈M,∃r∈D,∃c:Rat,c>0/\r=(c*(aD l).1,c*(aD l).2)
def Ih {l:L3}{r:V2}{c:Rat}(u:c>0)(e:r=(c*(aD l).1,c*(aD l).2))(v:V2):cr r v=c*nv l v:=by rw [Lq,e];unfold cr;grind
def wR {c x:Rat}(u:c>0):(c*x>0↔x>0)/\(c*x<0↔x<0)/\(c*x=0↔x=0):=by have p:x>0->c*x>0:=λh=>mp u h;have n:x<0->c*x<0:=λh=>by{have:=mp u (show -x>0 by grind);grind};have z:x=0->c*x=0:=λh=>by{rw [h];grind};refine ⟨⟨λh=>?_,p⟩,⟨λh=>?_,n⟩,⟨λh=>?_,z⟩⟩;{by_cases q:x>0;{exact q};by_cases a:x<0;{have:=n a;grind};{have:=z χ;grind}};{by_cases q:x<0;{exact q};by_cases a:x>0;{have:=p a;grind};{have:=z χ;grind}};rcases Ļ.1 h with h|h;{grind};exact h
def Rg.gen {D:zA V2}{M:zA L3}(h:Rg D M){v:V2}(u:∀r∈D,cr r v≠0):∀l∈M,nv l v≠0:=by intro l a e;have ⟨r,b,c,d,f⟩:=h l a;exact u r b (by rw [Ih d f,e];grind)
def Rg.same {D:zA V2}{M:zA L3}(h:Rg D M){v x:V2}(u:∀r∈D,(cr r v>0->cr r x>0)/\(cr r v<0->cr r x<0)):∀l∈M,(nv l v>0->nv l x>0)/\(nv l v<0->nv l x<0):=by intro l d;have ⟨r,e,c,a,b⟩:=h l d;have:=u r e;rw [Ih a b,Ih a b] at this;have ⟨f,g,_⟩:=@wR c (nv l v) a;obtain ⟨b1,b2,_⟩:=@wR c (nv l x) a;exact ⟨λh=>b1.1 (this.1 (f.2 h)),λh=>b2.1 (this.2 (g.2 h))⟩
def WL {D S:zA V2}(h:HH D)(u:Xn D S):∀x∈S,nz x:=by intro x a;have g:=Bw h u x a;rcases u with ⟨rfl,rfl⟩|⟨b,_,_⟩;{rcases õ.1 a with rfl;exact .inl φ};have ⟨d,c⟩:=Qr6 D b;have:=g d c;unfold nz;by_cases e:x.1=0;{right;intro f;exact this (by unfold cr;rw [e,f];grind)};exact .inl e
def Vh {D E F:zA V2}(O:∀r∈D,nz r)(M:HH E)(u:Xn E F){t:Tr}{p x:V2}(Z:nz x)(hx:∀r∈D,cr r x≠0)(c1:Rg D (dW t p))(N:Rg E (dW t p)):∃y∈F,gX t p y=gX t p x/\(gX t p x).2=true:=by have ⟨z,b⟩:=turned x Z (D++E) λr a=>by{rcases ü.1 a with h|h;{exact O r h};exact M.nz r h};have d:∀r∈D,(cr r x>0->cr r z>0)/\(cr r x<0->cr r z<0):=λr a=>⟨(b r (Ĕ _ a)).1,(b r (Ĕ _ a)).2.1⟩;have c:∀r∈E,cr r z≠0:=λr a=>(b r (ĝ _ a)).2.2;have ⟨y,e,f⟩:=QW M u c;have t1:=sF (c1.gen hx) (c1.same d);have t2:=sF (N.gen c) (N.same f);exact ⟨y,e,t2.1.m t1.1,t1.2⟩
def anyS (t:Tr)(p:V2)(S:List V2):Bool:=S.any λv=>(gX t p v).1
def qH (t:Tr)(p:V2)(S:List V2):Bool:=S.all λv=>(gX t p v).1
def say_eq {D S E z:zA V2}(F:HH D)(N:Xn D S)(M:HH E)(u:Xn E z){t:Tr}{p:V2}(c1:Rg D (dW t p))(O:Rg E (dW t p)):anyS t p S=anyS t p z/\qH t p S=qH t p z:=by have a:∀x∈S,∃y∈z,gX t p y=gX t p x:=λx c=>by{have ⟨y,d,e,_⟩:=Vh F.nz M u (WL F N x c) (Bw F N x c) c1 O;exact ⟨y,d,e⟩};have b:∀x∈z,∃y∈S,gX t p y=gX t p x:=λx c=>by{have ⟨y,d,e,_⟩:=Vh M.nz F N (WL M u x c) (Bw M u x c) O c1;exact ⟨y,d,e⟩};unfold anyS qH;constructor;{rw [ģ,Qc2,Qc2];constructor;{rintro ⟨x,c,h⟩;have ⟨y,d,e⟩:=a x c;exact ⟨y,d,by rw [e];exact h⟩};rintro ⟨x,c,h⟩;have ⟨y,d,e⟩:=b x c;exact ⟨y,d,by rw [e];exact h⟩};rw [ģ,ħ,ħ];constructor;{intro h x c;have ⟨y,d,e⟩:=b x c;rw [<-e];exact h y d};intro h x c;have ⟨y,d,e⟩:=a x c;rw [<-e];exact h y d
def jX (l:L3)(p v:V2)(s:Rat):aw l (p.1+s*v.1) (p.2+s*v.2)=aw l p.1 p.2+s*nv l v:=by unfold aw nv;grind
def wT (p v:V2)(s:Rat)(l:L3):Rat:=
 if nv l v=0\/aw l p.1 p.2=0 then s
 else if -(aw l p.1 p.2*(nv l v)⁻¹)>0/\-(aw l p.1 p.2*(nv l v)⁻¹)*(1/2)<s then -(aw l p.1 p.2*(nv l v)⁻¹)*(1/2) else s
def J6 (l:L3)(p v:V2)(s:Rat):Prop:=aw l p.1 p.2≠0->(aw l p.1 p.2+s*nv l v).num.sign=(aw l p.1 p.2).num.sign
def inv_mul {c:Rat}(h:c≠0)(a:Rat):a*c⁻¹*c=a:=by rw [Wk3,Rat.inv_mul_cancel _ h,Rat.mul_one]
def Ip {l:L3}{p v:V2}{s:Rat}(u:s>0)(h:nv l v=0\/aw l p.1 p.2=0\/¬-(aw l p.1 p.2*(nv l v)⁻¹)>0\/s<=-(aw l p.1 p.2*(nv l v)⁻¹)*(1/2)):J6 l p v s:=by intro j;generalize ex:aw l p.1 p.2=x at *;generalize z:nv l v=c at *;have key:(x>0->x+s*c>0)/\(x<0->x+s*c<0):=by{rcases h with h|h|h|h;{rw [h];exact ⟨λ_=>χ,λ_=>χ⟩};{exact Å h j};{by_cases a:c=0;{rw [a];exact ⟨λ_=>χ,λ_=>χ⟩};have e:=inv_mul a x;generalize x*c⁻¹=t at *;have t0:t≥0:=χ;by_cases d:c>0;{have f:=mn t0 (show c≥0 by grind);have g:=mp u d;exact ⟨λ_=>χ,λ_=>χ⟩};have f:=mn t0 (show -c≥0 by grind);have g:=mp u (show -c>0 by grind);exact ⟨λ_=>χ,λ_=>χ⟩};by_cases a:c=0;{rw [a];exact ⟨λ_=>χ,λ_=>χ⟩};have e:=inv_mul a x;generalize x*c⁻¹=t at *;by_cases d:c>0;{have f:=mn (show -t*(1/2)-s≥0 by grind) (show c≥0 by grind);have g:=mp u d;exact ⟨λ_=>χ,λ_=>χ⟩};have f:=mn (show -t*(1/2)-s≥0 by grind) (show -c≥0 by grind);have g:=mp u (show -c>0 by grind);exact ⟨λ_=>χ,λ_=>χ⟩};by_cases i:x>0;{rw [dT.2 i,dT.2 (key.1 i)]};have b:x<0:=χ;rw [dR.2 b,dR.2 (key.2 b)]
def VF {p v:V2}{s:Rat}{l:L3}(u:s>0):wT p v s l>0/\wT p v s l<=s/\∀z:Rat,z>0->z<=wT p v s l->J6 l p v z:=by unfold wT;split;{rename_i h;exact ⟨u,χ,λz a _=>Ip a (by rcases h with h|h<;>simp [h])⟩};split;{rename_i h;exact ⟨χ,χ,λz a b=>Ip a (.inr (.inr (.inr b)))⟩};rename_i h;refine ⟨u,χ,λz a b=>Ip a ?_⟩;by_cases q:-(aw l p.1 p.2*(nv l v)⁻¹)>0;{exact .inr (.inr (.inr χ))};exact .inr (.inr (.inl q))
def yN {p v:V2}:∀{ls:zA L3} {s:Rat},s>0->ls.foldl (wT p v) s>0/\ls.foldl (wT p v) s<=s/\∀l∈ls,∀z:Rat,z>0->z<=ls.foldl (wT p v) s->J6 l p v z
 | [],s,h=>⟨h,by simp only [List.foldl_nil];grind,λl u=>by cases u⟩
 | a::ls,s,h=>by
  have ⟨F,N,M⟩:=VF (p:=p) (v:=v) (l:=a) h;have ⟨c,f,d⟩:=yN (p:=p) (v:=v) (ls:=ls) F;simp only [Ť];refine ⟨c,χ,λl u z b e=>?_⟩;rcases ç.1 u with rfl|u
  ·exact M z b χ
  ·exact d l u z b e
def DU:∀{t:Tr} {p v q w:V2},(∀l∈t.cQ,(aw l p.1 p.2≠0->(aw l q.1 q.2).num.sign=(aw l p.1 p.2).num.sign)/\(aw l p.1 p.2=0->(aw l q.1 q.2).num.sign=(nv l v).num.sign)) ->(∀l∈dW t p,nv l v≠0)->gX t q w=gX t p v/\dW t q=[]
 | .leaf _,_,_,_,_,_,_=>⟨rfl,rfl⟩
 | .node l a b,p,v,q,w,h,u=>by
  have ⟨g1,g2⟩:=h l (ą ..)
  have f:aw l p.1 p.2≥0->gX a q w=gX a p v/\dW a q=[]:=λe=>by
   refine DU (λm hm=>h m (ø _ (Ĕ _ hm))) λm hm=>u m ?_;unfold dW;rw [Ä e];exact ĝ _ (Ĕ _ hm)
  have i:aw l p.1 p.2<=0->gX b q w=gX b p v/\dW b q=[]:=λe=>by
   refine DU (λm hm=>h m (ø _ (ĝ _ hm))) λm hm=>u m ?_;unfold dW;rw [Ä e];exact ĝ _ (ĝ _ hm)
  have key:tD l q w=tD l p v/\(aw l q.1 q.2).num.sign=tD l p v/\(tD l p v=1/\aw l p.1 p.2≥0\/tD l p v=-1/\aw l p.1 p.2<=0):=by
   unfold tD;by_cases e:aw l p.1 p.2=0
   ·have hm:l∈dW (.node l a b) p:=by{unfold dW;rw [Ä e];exact Ĕ _ (õ.2 rfl)};have k:=u l hm;have g:=g2 e;rw [Ä (bJ.2 e),g,Ã (λh=>k (bJ.1 h))];refine ⟨rfl,rfl,?_⟩;by_cases c:nv l v>0;{exact .inl ⟨dT.2 c,χ⟩};exact .inr ⟨dR.2 χ,χ⟩
   ·have g:=g1 e;have j:¬(aw l p.1 p.2).num.sign=0:=λh=>e (bJ.1 h);rw [g,Ã j,Ã j];refine ⟨rfl,rfl,?_⟩;by_cases c:aw l p.1 p.2>0;{exact .inl ⟨dT.2 c,χ⟩};exact .inr ⟨dR.2 χ,χ⟩
  obtain ⟨n,d,o⟩:=key;simp only [gX,n,dW];rcases o with ⟨e,g⟩|⟨e,g⟩
  ·rw [e] at d ⊢;have r:=dT.1 d;rw [Ä rfl,Ä rfl,Ã χ,Ä χ,Ã χ,(f g).2];exact ⟨(f g).1,rfl⟩
  ·rw [e] at d ⊢;have r:=dR.1 d;rw [Ã φ,Ä rfl,Ã φ,Ä rfl,Ã χ,Ã χ,Ä χ,(i g).2];exact ⟨(i g).1,rfl⟩
def half (u:V2):Int:=if u.2.num.sign>0\/u.2.num.sign=0/\u.1.num.sign>0 then 1 else if u.2.num.sign<0\/u.1.num.sign<0 then 2 else 0
def iB (u v:V2):Int:=if half u<half v then -1 else if half u>half v then 1 else -(cr u v).num.sign
def mr {q:Rat}:q.num.sign>0↔q>0:=by
 have:=Wz1 (q:=-q);rw [Qp6] at this;rw [gt_iff_lt,Int.sign_pos_iff];have a:(0<=-q)↔¬q>0:=by constructor<;>intro h<;>grind
 rw [a] at this;by_cases h:q>0
 ·exact ⟨λ_=>h,λ_=>by
   have:¬0<=-q.num:=λg=>this.1 g h;omega⟩
 grind
def xy {q:Rat}:q.num.sign<0↔q<0:=by have:=@mr (-q);grind [Rat.neg_num]
theorem cA (u:V2):half u=1/\up u\/half u=2/\dn u\/half u=0/\u.1=0/\u.2=0:=by unfold half up dn;split;{rename_i h;rw [mr,mr,bJ] at h;exact .inl ⟨rfl,h⟩};rename_i h;rw [mr,mr,bJ] at h;split;{rename_i h';rw [xy,xy] at h';exact .inr (.inl ⟨rfl,χ⟩)};rename_i h';rw [xy,xy] at h';exact .inr (.inr ⟨rfl,χ,χ⟩)
theorem uL {u v:V2}:iB u v<0↔half u<half v\/half u=half v/\cr u v>0:=by have:=@mr (cr u v);unfold iB;grind
def fL {u v:V2}:iB u v=0↔half u=half v/\cr u v=0:=by have:=@bJ (cr u v);grind [iB]
def HN (u v:V2):iB u v<0\/iB u v=0\/iB v u<0:=by rw [uL,fL,uL];grind [cJ]
def PI (u v:V2)(h:iB u v<0):¬iB v u<0:=by grind [uL,cJ]
theorem Yf {a b d:V2}(hab:half a=half b)(hbd:half b=half d)(z:cr a b<=0)(u:cr b d<=0):cr a d<=0:=by by_cases h:cr a d<=0;{exact h};exfalso;have c:cr a d>0:=χ;have o:=Iy a d b;rcases cA b with ⟨e,g⟩|⟨e,g⟩|⟨e,g⟩;{have i:up a:=by{(rcases cA a with ⟨f,h⟩|⟨f,h⟩|⟨f,h⟩<;>first|exact h|omega)};have j:up d:=by{(rcases cA d with ⟨f,h⟩|⟨f,h⟩|⟨f,h⟩<;>first|exact h|omega)};unfold up at i g j;have l:=mn (show -(cr a b)≥0 by grind) (show d.2≥0 by grind);have m:=mn (show -(cr b d)≥0 by grind) (show a.2≥0 by grind);have n:=mn (show cr a d≥0 by grind) (show b.2≥0 by grind);have k:cr a d*b.2=0:=χ;have b2:b.2=0:=by{rcases Ļ.1 k with h|h<;>grind};have b1:b.1>0:=χ;have d2:d.2=0:=by{by_cases q:d.2>0;{have:=mp b1 q;unfold cr at u;rw [b2] at u;grind};grind};have:=mn (show a.2≥0 by grind) (show d.1≥0 by grind);unfold cr at c;rw [d2] at c;grind};{have i:dn a:=by{(rcases cA a with ⟨f,h⟩|⟨f,h⟩|⟨f,h⟩<;>first|exact h|omega)};have j:dn d:=by{(rcases cA d with ⟨f,h⟩|⟨f,h⟩|⟨f,h⟩<;>first|exact h|omega)};unfold dn at i g j;have l:=mn (show -(cr a b)≥0 by grind) (show -d.2≥0 by grind);have m:=mn (show -(cr b d)≥0 by grind) (show -a.2≥0 by grind);have n:=mn (show cr a d≥0 by grind) (show -b.2≥0 by grind);have k:cr a d*b.2=0:=χ;have b2:b.2=0:=by{rcases Ļ.1 k with h|h<;>grind};have b1:-b.1>0:=χ;have d2:d.2=0:=by{by_cases q:-d.2>0;{have:=mp b1 q;unfold cr at u;rw [b2] at u;grind};grind};have:=mn (show -a.2≥0 by grind) (show -d.1≥0 by grind);unfold cr at c;rw [d2] at c;grind};grind [cA]
def ang_ge {u v:V2}:¬iB u v<0↔half v<half u\/half u=half v/\cr u v<=0:=by rw [uL];grind
def BM (a b d:V2)(h:¬iB a b<0)(h':¬iB b d<0):¬iB a d<0:=by rw [ang_ge] at *;grind [Yf]
def HM {u v:V2}(hu:nz u)(z:nz v):iB u v<0↔uK u v:=by have b:∀{w:V2},nz w->¬(w.1=0/\w.2=0):=λh g=>by{unfold nz at h;rcases h with h|h;exact h g.1;exact h g.2};rw [uL];unfold uK;rcases cA u with ⟨e,h⟩|⟨e,h⟩|⟨e,h⟩;{rcases cA v with ⟨a,h'⟩|⟨a,h'⟩|⟨a,h'⟩;{rw [e,a];constructor;{rintro (g|⟨_,g⟩);{omega};exact .inr ⟨.inl ⟨h,h'⟩,g⟩};rintro (⟨_,g⟩|⟨_,g⟩);{exact (h_ h' g).elim};exact .inr ⟨rfl,g⟩};{rw [e,a];exact ⟨λ_=>.inl ⟨h,h'⟩,λ_=>.inl φ⟩};exact Å h' (b z)};{rcases cA v with ⟨a,h'⟩|⟨a,h'⟩|⟨a,h'⟩;{rw [e,a];constructor;{rintro (g|⟨g,_⟩)<;>omega};rintro (⟨g,_⟩|⟨⟨g,_⟩|⟨_,g⟩,_⟩);{exact (h_ g h).elim};{exact (h_ g h).elim};exact (h_ h' g).elim};{rw [e,a];constructor;{rintro (g|⟨_,g⟩);{omega};exact .inr ⟨.inr ⟨h,h'⟩,g⟩};rintro (⟨g,_⟩|⟨_,g⟩);{exact (h_ g h).elim};exact .inr ⟨rfl,g⟩};exact Å h' (b z)};exact Å h (b hu)
def TM {u v:V2}(hu:nz u)(h:iB u v=0):∃c:Rat,c>0/\u=(c*v.1,c*v.2):=by
 rw [fL] at h;obtain ⟨e,c⟩:=h;have fin:∀k:Rat,k>0->u.1=k*v.1->u.2=k*v.2->∃c:Rat,c>0/\u=(c*v.1,c*v.2):=λk a b g=>⟨k,a,ř b g⟩
 have pos:∀x y:Rat,y≠0->x*y>0->x*y⁻¹>0:=λx y i h=>by have e:=inv_mul i x;generalize x*y⁻¹=t at *;have n:t*(y*y)=x*y:=χ;have:=sq_pos (u:=(y,0)) (.inl i);unfold dt at this;by_cases q:t>0;{exact q};{have:=mn (show -t≥0 by grind) (show y*y≥0 by grind);grind}
 unfold cr at c
 have two:v.2≠0->u.2*v.2>0->∃c:Rat,c>0/\u=(c*v.1,c*v.2):=λa b=>by refine fin (u.2*v.2⁻¹) (pos _ _ a b) ?_ (inv_mul a _).symm;grind
 have one:v.1≠0->u.1*v.1>0->v.2=0->u.2=0->∃c:Rat,c>0/\u=(c*v.1,c*v.2):=λa b g l=>
  fin (u.1*v.1⁻¹) (pos _ _ a b) (inv_mul a _).symm (by rw [g,l];grind)
 rcases cA u with ⟨j,h⟩|⟨j,h⟩|⟨j,h⟩
 ·have h':up v:=by{(rcases cA v with ⟨d,h⟩|⟨d,h⟩|⟨d,h⟩<;>first|exact h|omega)};unfold up at h h';by_cases q:v.2>0;{refine two χ ?_;by_cases f:u.2>0;{exact mp f q};grind};have v2:v.2=0:=χ;have v1:v.1>0:=χ;by_cases f:u.2>0;{have:=mp f v1;rw [v2] at c;grind};exact one χ (mp χ v1) v2 χ
 ·have h':dn v:=by{(rcases cA v with ⟨d,h⟩|⟨d,h⟩|⟨d,h⟩<;>first|exact h|omega)};unfold dn at h h';by_cases q:v.2<0;{refine two χ ?_;by_cases f:u.2<0;{have:=mp (show -u.2>0 by grind) (show -v.2>0 by grind);grind};have m:u.2=0:=χ;rw [m] at c;grind};have v2:v.2=0:=χ;have v1:-v.1>0:=χ;by_cases f:u.2<0;{have:=mp (show -u.2>0 by grind) v1;rw [v2] at c;grind};refine one χ ?_ v2 χ;have:=mp (show -u.1>0 by grind) v1;grind
 ·unfold nz at hu;grind
def XR {a b d:V2}(h:iB a b=0)(h':iB b d=0):iB a d=0:=by have z:∀{u v:V2},iB u v=0↔¬iB u v<0/\¬iB v u<0:=by{intro u v;constructor;{intro e;refine ⟨ω,?_⟩;rw [fL] at e;have:=cJ u v;rw [uL];rintro (g|⟨_,g⟩);{omega};grind};rintro ⟨g,c⟩;rcases HN u v with e|e|e;{exact Å e g};{exact e};exact Å e c};rw [z] at *;exact ⟨BM _ _ _ h.1 h'.1,BM _ _ _ h'.2 h.2⟩
def BL (a:V2):iB a a=0:=fL.2 ⟨rfl,by unfold cr;grind⟩
def PJ {a b d:V2}(h:¬iB b a<0)(h':iB b d<0):iB a d<0:=by by_cases q:iB a d<0;{exact q};exact Å h' (BM _ _ _ h q)
def eP (u v:V2):Bool:=decide (iB u v=0)
def KG:∀{r:zA V2} {p:V2},(p::r).Pairwise (λx y=>¬iB y x<0) ->(pO eP p r).Pairwise (λx y=>iB x y<0)/\(∀x∈pO eP p r,iB p x<0)/\∀x∈p::r,∃y∈p::pO eP p r,iB y x=0
 | [],p,_=>⟨List.Pairwise.nil,(λx h=>by cases h),λx h=>⟨x,h,BL x⟩⟩
 | a::r,p,h=>by
  have ⟨u,z⟩:=į.1 h;have ⟨i1,i2,i3⟩:=KG z;have f:¬iB a p<0:=u a (ą ..);unfold pO;by_cases e:iB a p=0
  ·have:eP a p=true:=Ç e;rw [Ä this]
   have i:¬iB p a<0:=λg=>by
    rcases fL.1 e with ⟨j,k⟩;rw [uL] at g;have:=cJ a p;rcases g with g|⟨_,g⟩
    ·omega
    ·grind
   refine ⟨i1,λx c=>PJ f (i2 x c),λx c=>?_⟩;rcases ç.1 c with rfl|c
   ·exact ⟨x,ą ..,BL x⟩
   ·have ⟨y,d,g⟩:=i3 x c;rcases ç.1 d with rfl|d
    ·refine ⟨p,ą ..,XR (b:=y) ?_ g⟩;rcases HN p y with q|q|q
     ·exact Å q i
     ·exact q
     ·exact Å q f
    ·exact ⟨y,ø _ d,g⟩
  ·have:eP a p=false:=È e;rw [this]
   have lt:iB p a<0:=by
    rcases HN p a with q|q|q
    ·exact q
    ·exfalso;apply e;rw [fL] at *;have:=cJ a p;exact ⟨q.1.symm,χ⟩
    ·exact Å q f
   refine ⟨į.2 ⟨i2,i1⟩,λx c=>?_,λx c=>?_⟩
   ·rcases ç.1 c with rfl|c;{exact lt};exact PJ (b:=a) f (i2 x c)
   ·rcases ç.1 c with rfl|c;{exact ⟨x,ą ..,BL x⟩};have ⟨y,d,g⟩:=i3 x c;exact ⟨y,ø _ d,g⟩
def Ul {m:zA V2}(h:m.Pairwise (λx y=>¬iB y x<0)):(fh eP m).Pairwise (λx y=>iB x y<0)/\∀x∈m,∃y∈fh eP m,iB y x=0:=by (cases m with|nil=>{exact ⟨List.Pairwise.nil,λx h=>by cases h⟩}|cons p r=>{have ⟨a,b,c⟩:=KG h;exact ⟨į.2 ⟨b,a⟩,c⟩})
def ray_of {m:zA V2}(h:m.Pairwise (λx y=>¬iB y x<0))(z:∀r∈m,nz r)(F:∀r∈m,∃s∈m,opp s r):HH (fh eP m)/\∀x∈m,∃y∈fh eP m,∃c:Rat,c>0/\y=(c*x.1,c*x.2):=by have ⟨i,j⟩:=Ul h;have sub:∀x∈fh eP m,x∈m:=Un;have mem:∀x∈m,∃y∈fh eP m,∃c:Rat,c>0/\y=(c*x.1,c*x.2):=λx l=>by{have ⟨y,d,e⟩:=j x l;exact ⟨y,d,TM (z y (sub y d)) e⟩};refine ⟨⟨λr f=>z r (sub r f),λr f=>?_,?_⟩,mem⟩;{have ⟨s,n,k,o,p,q⟩:=F r (sub r f);have ⟨y,d,c,t,e⟩:=mem s n;refine ⟨y,d,c*k,mp t o,?_,?_⟩;{rw [e];show c*s.1=_;rw [p];grind};rw [e];show c*s.2=_;rw [q];grind};refine Wk0 ?_ i;intro a b u v g;exact (HM (z a (sub a u)) (z b (sub b v))).1 g
def Zn {m:zA V2}(h:m.Pairwise (λx y=>¬iB y x<0))(u:∀r∈m,nz r)(z:∀r∈m,∃s∈m,opp s r)(F:m.Pairwise (λx y=>¬iB x y=0)):HH m:=by refine ⟨u,z,?_⟩;have:=h.and F;refine Wk0 ?_ this;intro a b c d ⟨g,e⟩;refine (HM (u a c) (u b d)).1 ?_;rcases HN a b with q|q|q;{exact q};{exact Å q e};exact Å q g
section
variable{D:List V2}(h:HH D)
include h
theorem nxt_ge {i:Nat}{u w:V2}(hi:D[i]?=some u)(hw:D[(i+1)%D.length]?=some w):cr u w≥0:=by by_cases q:cr u w≥0;{exact q};exfalso;have a:w∈D:=Ď hw;have hu:u∈D:=Ď hi;have ⟨s,c,d⟩:=h.cl w a;have ⟨k,f,_,g⟩:=nJ d u;have p:cr u s>0:=by{rw [g];have:=mp f (show -(cr u w)>0 by grind);grind};have ⟨j,b⟩:=Qf3 c;refine anti2 (h.nz u hu) (h.nz w a) (h.nz s c) (cyc h hi hw b (λe=>?_) (λe=>?_)) p χ;{rw [e,hi] at b;cases b;unfold cr at p;grind};rw [e,hw] at b;cases b;grind
omit h in
def WB (f:V2->V2->V2)(D:List V2):List V2:=(List.range D.length).map λi=>f (D.getD i (0,0)) (D.getD ((i+1)%D.length) (0,0))
theorem ZD {f:V2->V2->V2}(F:∀u∈D,∀w∈D,cr u w≥0->J7 u w (f u w))(z:D≠[]):Xn D (WB f D):=by
 have j:0<D.length:=Qm4.2 z
 have key:∀i u w,D[i]?=some u->D[(i+1)%D.length]?=some w->D.getD i (0,0)=u/\D.getD ((i+1)%D.length) (0,0)=w/\J7 u w (f u w):=λi u w a hw=>
  ⟨by rw [Ę,a];rfl,by rw [Ę,hw];rfl,F u (Ď a) w (Ď hw) (nxt_ge h a hw)⟩
 refine .inr ⟨z,λx k=>?_,λi u w a hw=>?_⟩
 ·obtain ⟨i,a,rfl⟩:=þ.1 k;have a:=Wq0.1 a;have e:D[i]?=some D[i]:=ñ a;have g:D[(i+1)%D.length]?=some (D[(i+1)%D.length]'(ę _ j)):=ñ _;have ⟨b,c,d⟩:=key i _ _ e g;exact ⟨i,_,_,e,g,by rw [b,c];exact d⟩
 ·have ⟨b,c,d⟩:=key i u w a hw;refine ⟨_,þ.2 ⟨i,Wq0.2 (đ.1 a).1,rfl⟩,?_⟩;rw [b,c];exact d
end
def Bh {a b c x y z:Int}(u:a*y=b*x)(F:a*z=c*x)(g:Nat.gcd (Nat.gcd x.natAbs y.natAbs) z.natAbs=1):x.natAbs∣a.natAbs:=by have d:a.natAbs*y.natAbs=b.natAbs*x.natAbs:=by{rw [<-Ń,<-Ń,u]};have e:a.natAbs*z.natAbs=c.natAbs*x.natAbs:=by{rw [<-Ń,<-Ń,F]};have d1:x.natAbs∣a.natAbs*Nat.gcd (Nat.gcd x.natAbs y.natAbs) z.natAbs:=by{rw [<-Nat.gcd_mul_left,<-Nat.gcd_mul_left];exact Nat.dvd_gcd (Nat.dvd_gcd ⟨a.natAbs,by rw [ļ]⟩ ⟨b.natAbs,by rw [d,ļ]⟩) ⟨c.natAbs,by rw [e,ļ]⟩};rwa [g,Ģ] at d1
theorem Ho {l m:L3}(ol:bY l=true)(F:bY m=true)(cl:bF l=l)(u:bF m=m){x y:Rat}(M:aw l x y=0)(hm:aw m x y=0)(N:cr (aD l) (aD m)=0):l=m:=by unfold bY at ol F;rw [Č,decide_eq_true_iff,decide_eq_true_iff] at ol F;have d:l.1*m.2.1=l.2.1*m.1:=by{unfold cr aD at N;have:(l.1:Rat)*(m.2.1:Rat)=(l.2.1:Rat)*(m.1:Rat):=χ;exact_mod_cast this};unfold aw at M hm;have o:(l.1:Rat)*(m.2.1:Rat)=(l.2.1:Rat)*(m.1:Rat):=by{exact_mod_cast d};have e:l.1*m.2.2=l.2.2*m.1:=by{have:(l.1:Rat)*(m.2.2:Rat)=(l.2.2:Rat)*(m.1:Rat):=χ;exact_mod_cast this};have f:l.2.1*m.2.2=l.2.2*m.2.1:=by{have:(l.2.1:Rat)*(m.2.2:Rat)=(l.2.2:Rat)*(m.2.1:Rat):=χ;exact_mod_cast this};obtain ⟨p,g⟩:=ol;obtain ⟨q,i⟩:=F;have j:Nat.gcd (Nat.gcd l.2.1.natAbs l.1.natAbs) l.2.2.natAbs=1:=by{rw [ŧ l.2.1.natAbs];exact g};have k:Nat.gcd (Nat.gcd m.2.1.natAbs m.1.natAbs) m.2.2.natAbs=1:=by{rw [ŧ m.2.1.natAbs];exact i};have s:=Nat.dvd_antisymm (Bh (a:=m.1) (b:=m.2.1) (c:=m.2.2) (by rw [Qh6,<-d,Qh6]) (by rw [Qh6,<-e,Qh6]) g) (Bh d e i);have t:=Nat.dvd_antisymm (Bh (a:=m.2.1) (b:=m.1) (c:=m.2.2) (by rw [Qh6,d,Qh6]) (by rw [Qh6,<-f,Qh6]) j) (Bh (b:=l.1) (c:=l.2.2) d.symm f k);have sl:¬(l.1<0\/l.1=0/\l.2.1<0):=λh=>by{unfold bF at cl;rw [Ä h] at cl;have n:-l.1=l.1:=Æ (λx:L3=>x.1) cl;have r:-l.2.1=l.2.1:=Æ (λx:L3=>x.2.1) cl;omega};have sm:¬(m.1<0\/m.1=0/\m.2.1<0):=λh=>by{unfold bF at u;rw [Ä h] at u;have n:-m.1=m.1:=Æ (λx:L3=>x.1) u;have r:-m.2.1=m.2.1:=Æ (λx:L3=>x.2.1) u;omega};have n:l.1=m.1:=ω;by_cases z:l.1=0;{grind [Int.eq_of_mul_eq_mul_left]};grind [Int.eq_of_mul_eq_mul_left,Int.mul_comm]
end
section
def sd3 (l:L3)(p d n:V2):Int:=if (aw l p.1 p.2).num.sign≠0 then (aw l p.1 p.2).num.sign else if (nv l d).num.sign≠0 then (nv l d).num.sign else (nv l n).num.sign
def mG:Tr->V2->V2->V2->Bool×Bool
 | .leaf i,_,_,_=>(i,true)
 | .node l a b,p,d,n=>if sd3 l p d n=1 then mG a p d n else if sd3 l p d n=-1 then mG b p d n else (false,false)
def tI:∀{t:Tr} {p d n q:V2},(∀l∈t.cQ,(aw l p.1 p.2≠0->(aw l q.1 q.2).num.sign=(aw l p.1 p.2).num.sign)/\(aw l p.1 p.2=0->(aw l q.1 q.2).num.sign=(nv l d).num.sign))->gX t q n=mG t p d n
 | .leaf _,_,_,_,_,_=>rfl
 | .node l a b,p,d,n,q,h=>by
  have ⟨u,F⟩:=h l (ą ..)
  have e:tD l q n=sd3 l p d n:=by
   unfold tD sd3;by_cases z:aw l p.1 p.2=0
   ·rw [F z,Ã (c:=(aw l p.1 p.2).num.sign≠0) (by rw [bJ.2 z];simp)];by_cases c:(nv l d).num.sign=0;{rw [Ä c,Ã (by simpa using c)]};rw [Ã c,Ä c]
   ·have k:(aw l p.1 p.2).num.sign≠0:=λe=>z (bJ.1 e);rw [u z,Ã k,Ä k]
  unfold gX mG;rw [e,(tI (t:=a) (p:=p) (d:=d) (n:=n) (q:=q) λm hm=>h m (ø _ (Ĕ _ hm))),(tI (t:=b) (p:=p) (d:=d) (n:=n) (q:=q) λm hm=>h m (ø _ (ĝ _ hm)))]
def tJ:∀{t:Tr} {p d n x:V2},(∀l∈t.cQ,aw l p.1 p.2=0->(nv l x).num.sign=if (nv l d).num.sign≠0 then (nv l d).num.sign else (nv l n).num.sign)->gX t p x=mG t p d n
 | .leaf _,_,_,_,_,_=>rfl
 | .node l a b,p,d,n,x,h=>by
  have e:tD l p x=sd3 l p d n:=by
   unfold tD sd3;by_cases z:aw l p.1 p.2=0
   ·rw [Ä (bJ.2 z),(h l (ą ..)) z,Ã (c:=(aw l p.1 p.2).num.sign≠0) (by rw [bJ.2 z];simp)]
   ·have k:(aw l p.1 p.2).num.sign≠0:=λe=>z (bJ.1 e);rw [Ã k,Ä k]
  unfold gX mG;rw [e,(tJ (t:=a) (p:=p) (d:=d) (n:=n) (x:=x) λm hm=>h m (ø _ (Ĕ _ hm))),(tJ (t:=b) (p:=p) (d:=d) (n:=n) (x:=x) λm hm=>h m (ø _ (ĝ _ hm)))]
def XE (D:List V2)(u x:V2):Prop:=∀r∈D,(cr r u>0->cr r x>0)/\(cr r u<0->cr r x<0)/\(cr r u=0->(dt r u>0->cr r x>0)/\(dt r u<0->cr r x<0))/\cr r x≠0
def TrnR (D:List V2)(w y:V2):Prop:=∀r∈D,(cr r w>0->cr r y>0)/\(cr r w<0->cr r y<0)/\(cr r w=0->(dt r w>0->cr r y<0)/\(dt r w<0->cr r y>0))/\cr r y≠0
def O8 {D:zA V2}(F:∀r∈D,nz r){u:V2}(hu:nz u):∃x,XE D u x:=by have ⟨e,a,he⟩:=pert u hu D F;refine ⟨IC 1 u e (mw u),λr b=>?_⟩;have ⟨c,d,f⟩:=he e a χ r b;have k:cr r (IC 1 u e (mw u))=cr r u+e*dt r u:=by{rw [uY,uZ];grind};refine ⟨c,d,λz=>⟨λg=>?_,λg=>?_⟩,f⟩;{rw [k,z];have:=mp a g;grind};rw [k,z];have:=mp a (show -dt r u>0 by grind);grind
def W6 {D:zA V2}(u:∀r∈D,nz r){w:V2}(hw:nz w):∃y,TrnR D w y:=by have c:∀{r:V2},nz r->nz (Hc r):=λ{r} h=>by{unfold nz Hc at *;grind};have ⟨x,a⟩:=O8 (D:=D.map Hc) (λr b=>by obtain ⟨s,z,rfl⟩:=þ.1 b;exact c (u s z)) (c hw);refine ⟨Hc x,λr b=>?_⟩;have a:=a (Hc r) (þ.2 ⟨r,b,rfl⟩);have e:Hc (Hc x)=x:=by{unfold Hc;simp};have k:cr (Hc r) x=-cr r (Hc x):=by{rw [<-e,yy,e]};have d:dt (Hc r) (Hc w)=dt r w:=by{unfold dt Hc;grind};rw [yy,k,d] at a;grind
def P_ {u v:V2}(hu:nz u)(F:nz v)(z:cr u v=0)(d:dt u v>0):half u=half v:=by have c:u.1*dt v v=v.1*dt u v:=by{unfold cr dt at *;grind};have f:u.2*dt v v=v.2*dt u v:=by{unfold cr dt at *;grind};have s:∀{a b:Rat},a*dt v v=b*dt u v->(a>0↔b>0)/\(a<0↔b<0):=λ{a b} e=>by{have g:=wR (x:=a) (sq_pos F);have h:=wR (x:=b) d;grind};have i:=mr (q:=u.1);have j:=mr (q:=v.1);have k:=xy (q:=u.1);have l:=xy (q:=v.1);have m:=xy (q:=u.2);have n:=xy (q:=v.2);have o:=bJ (q:=u.2);have p:=bJ (q:=v.2);unfold half;grind
def KR {u v:V2}(hu:nz u)(F:nz v)(z:cr u v=0):dt u v≠0:=λe=>by
 have:cr u v*cr u v+dt u v*dt u v=dt u u*dt v v:=by unfold cr dt;grind
 have:=mp (sq_pos hu) (sq_pos F);grind
section
variable{D:List V2}(h:HH D)
include h
theorem QH {i j:Nat}{u v:V2}(hi:D[i]?=some u)(F:D[j]?=some v)(z:cr u v=0)(d:dt u v>0):i=j:=by have a:=h.nz u (Ď hi);have nv:=h.nz v (Ď F);have e:=fL.2 ⟨P_ a nv z d,z⟩;have b:=fL.2 ⟨(P_ a nv z d).symm,by rw [cJ,z];grind⟩;rcases Nat.lt_trichotomy i j with g|g|g;{have:=(HM a nv).2 (mU h hi F g);omega};{exact g};{have:=(HM nv a).2 (mU h F hi g);omega}
theorem adj {i:Nat}{u w x y:V2}(hi:D[i]?=some u)(hw:D[(i+1)%D.length]?=some w)(hx:XE D u x)(hy:TrnR D w y){r:V2}(Z:r∈D):(cr r x>0↔cr r y>0)/\(cr r x<0↔cr r y<0):=by have b:=Ď hi;have d:=Ď hw;have A:=h.nz u b;have B:=h.nz w d;have C:=List.ne_nil_of_mem b;have self:∀z:V2,cr z z=0:=λz=>by{unfold cr;grind};obtain ⟨j,o,Q,m,e,I,J,K,E,L⟩:=ZE h (v:=x) (λr Z=>(hx r Z).2.2.2) C;obtain ⟨k,R,n,p,a,b1,b2,b3,b4,F⟩:=ZE h (v:=y) (λr Z=>(hy r Z).2.2.2) C;have S:=(đ.1 m).1;have T:=(đ.1 p).1;have f:=Ď m;have l:=Ď a;have M:j=i:=by{have q:=(E u b (((hx u b).2.2.1 (self u)).1 (sq_pos A))).1;obtain ⟨N,O,P,-⟩:=hx o f;have z:cr o u=0:=χ;refine QH h m hi z ?_;have:=KR (h.nz o f) A z;grind};have s:(k+1)%D.length=(i+1)%D.length:=by{have q:=(F w d (((hy w d).2.2.1 (self w)).1 (sq_pos B))).1;obtain ⟨N,O,P,-⟩:=hy n l;have U:=cJ w n;have z:cr n w=0:=χ;refine QH h a hw z ?_;have:=KR (h.nz n l) B z;grind};have t:k=i:=by{rcases ē (k+1) D.length with g|g<;>rcases ē (i+1) D.length with g'|g';{rw [ė g,ė g'] at s;omega};{rw [ė g,show i+1=D.length by omega,Wy4] at s;omega};{rw [ė g',show k+1=D.length by omega,Wy4] at s;omega};omega};subst M t;rw [m] at hi p;cases hi;cases p;rw [hw] at e a;cases e;cases a;obtain ⟨G,H⟩:∃G,J7 u w G:=by{by_cases c:cr u w>0;{exact ⟨_,.inl ⟨c,1,1,χ,χ,rfl⟩⟩};exact ⟨_,.inr ⟨χ,1,χ,rfl⟩⟩};have s1:=Jg h b d I J K E L H Z;have s2:=Jg h b d b1 b2 b3 b4 F H Z;have V:=(hx r Z).2.2.2;have W:=(hy r Z).2.2.2;grind
end
def XB (D:List V2)(t:Tr)(p:V2):Prop:=∀l∈t.cQ,aw l p.1 p.2=0->∃r∈D,∃c:Rat,c>0/\r=(c*(aD l).1,c*(aD l).2)
def Jh {c:Rat}(u:c>0)(a:Rat):(c*a).num.sign=a.num.sign:=by have h:=wR (x:=a) u;by_cases p:a>0;{rw [dT.2 p,dT.2 (h.1.2 p)]};by_cases q:a<0;{rw [dR.2 q,dR.2 (h.2.1.2 q)]};have z:a=0:=χ;rw [bJ.2 z,bJ.2 (h.2.2.2 z)]
def rQ {l:L3}{r:V2}{c:Rat}(u:c>0)(e:r=(c*(aD l).1,c*(aD l).2))(v:V2):(nv l v).num.sign=(cr r v).num.sign:=by rw [Ih u e,Jh u]
def xE {D:zA V2}(F:∀r∈D,nz r){t:Tr}{p:V2}(M:XB D t p){u x:V2}(N:nz u)(O:XE D u x):gX t p x=mG t p u (mw u):=tJ λl f z=>by
 have ⟨r,b,c,a,e⟩:=M l f z;rw [rQ a e,rQ a e,rQ a e,uZ];obtain ⟨h,i,d,-⟩:=O r b;by_cases k:cr r u=0
 ·rw [Ã (by simpa using bJ.2 k)];have:=KR (F r b) N k;by_cases g:dt r u>0
  ·rw [dT.2 g,dT.2 ((d k).1 g)]
  ·rw [dR.2 (show dt r u<0 by grind),dR.2 ((d k).2 χ)]
 ·rw [Ä λe=>k (bJ.1 e)];by_cases g:cr r u>0
  ·rw [dT.2 g,dT.2 (h g)]
  ·rw [dR.2 (show cr r u<0 by grind),dR.2 (i χ)]
def Mj {D:zA V2}(u:∀r∈D,nz r){t:Tr}{p:V2}(F:XB D t p){w y:V2}(M:nz w)(N:TrnR D w y):gX t p y=mG t p w (-(mw w).1,-(mw w).2):=tJ λl f z=>by
 have ⟨r,b,c,a,e⟩:=F l f z;rw [rQ a e,rQ a e,rQ a e,show cr r (-(mw w).1,-(mw w).2)=-dt r w by unfold cr mw dt;grind];obtain ⟨h,i,d,-⟩:=N r b;by_cases k:cr r w=0
 ·rw [Ã (by simpa using bJ.2 k)];have:=KR (u r b) M k;by_cases g:dt r w>0
  ·rw [dR.2 (show -dt r w<0 by grind),dR.2 ((d k).1 g)]
  ·rw [dT.2 (show -dt r w>0 by grind),dT.2 ((d k).2 χ)]
 ·rw [Ä λe=>k (bJ.1 e)];by_cases g:cr r w>0
  ·rw [dT.2 g,dT.2 (h g)]
  ·rw [dR.2 (show cr r w<0 by grind),dR.2 (i χ)]
def Uo {D:zA V2}(h:HH D){t:Tr}{p:V2}(F:XB D t p){i:Nat}{u w:V2}(hi:D[i]?=some u)(hw:D[(i+1)%D.length]?=some w):mG t p u (mw u)=mG t p w (-(mw w).1,-(mw w).2):=by
 have j:=h.nz u (Ď hi);have n:=h.nz w (Ď hw);have ⟨x,d⟩:=O8 h.nz j;have ⟨y,o⟩:=W6 h.nz n;have v:=xE h.nz F j d;have A:=Mj h.nz F n o;rw [<-v,<-A]
 have same:∀{t:Tr},(∀l∈t.cQ,aw l p.1 p.2=0->(nv l x).num.sign=(nv l y).num.sign)->gX t p x=gX t p y:=λ{t} f=>by
  induction t with
  | leaf=>rfl
  | node l a b M N=>
   have e:tD l p x=tD l p y:=by unfold tD;split;{rename_i z;exact f l (ą ..) (bJ.1 z)};rfl
   unfold gX;rw [e,(M λm hm=>f m (ø _ (Ĕ _ hm))),(N λm hm=>f m (ø _ (ĝ _ hm)))]
 refine same λl B z=>?_;have ⟨r,q,c,s,e⟩:=F l B z;rw [rQ s e,rQ s e];have k:=adj h hi hw d o q;have C:=(d r q).2.2.2;by_cases g:cr r x>0
 ·rw [dT.2 g,dT.2 (k.1.1 g)]
 ·rw [dR.2 (show cr r x<0 by grind),dR.2 (k.2.1 χ)]
end
end Go.Proofs.Tryz.ao
namespace Go.Proofs.Tryz
section
def Sp.inn (s:Sp)(t:Rat):Prop:=(s.a=true\/s.lo<t)/\(s.b=true\/t<s.hi)
def At (ss:List Sp)(t:Rat):Prop:=∃s∈ss,s.inn t
def Sp.good (s:Sp):Prop:=s.can/\s.emp=false
def Sp.Nu (s t:Sp):Prop:=s.b=false/\t.a=false/\s.hi<t.lo
def vr (ss:List Sp):Prop:=(∀s∈ss,s.good)/\ss.Pairwise Sp.Nu
def pick (E:zA Rat):∀l u:Rat,l<u->∃t,l<t/\t<u/\t∉E:=by
 induction E with
 | nil=>exact λl u h=>⟨(l+u)/2,χ,χ,ψ⟩
 | cons e r z=>grind
def maxL:∀l:zA Rat,l=[]\/∃m∈l,∀x∈l,x<=m:=by
 intro l
 induction l with
 | nil=>exact .inl rfl
 | cons y r u=>
  rcases u with rfl|⟨m,hm,h⟩
  ·exact .inr ⟨y,ψ,by intro x a;simp at a;grind⟩
  grind
def minL:∀l:zA Rat,l=[]\/∃m∈l,∀x∈l,m<=x:=by
 intro l
 induction l with
 | nil=>exact .inl rfl
 | cons y r u=>
  rcases u with rfl|⟨m,hm,h⟩
  ·exact .inr ⟨y,ψ,by intro x a;simp at a;grind⟩
  grind
def LC (E F z:zA Rat)(h:∀l∈F,∀u∈z,l<u):∃t,(∀l∈F,l<t)/\(∀u∈z,t<u)/\t∉E:=by have key:∃a b:Rat,a<b/\(∀l∈F,l<=a)/\∀u∈z,b<=u:=by{rcases maxL F with rfl|⟨m,hm,e⟩;{rcases minL z with rfl|⟨n,f,c⟩;{exact ⟨0,1,φ,Ŭ,Ŭ⟩};exact ⟨n-1,n,χ,Ŭ,c⟩};rcases minL z with rfl|⟨n,f,c⟩;{exact ⟨m,m+1,χ,e,Ŭ⟩};grind};obtain ⟨a,b,d,e,c⟩:=key;have ⟨t,t1,t2,t3⟩:=pick E a b d;grind
def Sp.JY (s:Sp):List Rat:=if s.a then [] else [s.lo]
def Sp.Iv (s:Sp):List Rat:=if s.b then [] else [s.hi]
variable{s:Sp}{t:Rat}{r:List Sp}
def Bm:s.inn t↔(∀l∈s.JY,l<t)/\∀u∈s.Iv,t<u:=by unfold Sp.inn Sp.JY Sp.Iv;cases s.a<;>cases s.b<;>simp
def mT {l:Rat}(h:l∈s.JY):s.a=false/\l=s.lo:=by unfold Sp.JY at h;cases u:s.a<;>simp [u] at h;exact ⟨rfl,h⟩
theorem pU {l:Rat}(h:l∈s.Iv):s.b=false/\l=s.hi:=by unfold Sp.Iv at h;cases u:s.b<;>simp [u] at h;exact ⟨rfl,h⟩
theorem oH (h:s.emp=false)(u:s.a=false)(z:s.b=false):s.lo<s.hi:=by grind [Sp.im.1]
theorem QC (h:s.emp=false)(E:zA Rat):∃t,s.inn t/\t∉E:=by
 have ⟨t,c,d,e⟩:=LC E s.JY s.Iv (λl a u hu=>by
  obtain ⟨b,rfl⟩:=mT a;obtain ⟨z,rfl⟩:=pU hu;exact oH h b z)
 grind [Bm.2]
def vr.tail (h:vr (s::r)):vr r:=⟨λx a=>h.1 x (by simp [a]),(į.1 h.2).2⟩
def vr.Nu (h:vr (s::r)){x:Sp}(u:x∈r):s.Nu x:=(į.1 h.2).1 x u
theorem IL (h:vr (s::r))(u:s.a=false)(z:t<=s.lo):¬At (s::r) t:=by rintro ⟨x,b,c,d⟩;rcases ç.1 b with rfl|b;{grind};obtain ⟨b1,b2,b3⟩:=h.Nu b;have:=oH (h.1 s ψ).2 u b1;grind
def nl:List Sp->List Rat
 | []=>[]
 | x::_=>[x.lo]
theorem Qt (h:vr (s::r))(z:s.b=false)(F:s.hi<=t)(u:∀x∈nl r,t<=x):¬At (s::r) t:=by rintro ⟨x,a,c,d⟩;rcases ç.1 a with rfl|a;{grind};(cases r with|nil=>{cases a}|cons y r=>{exact IL h.tail (h.Nu ψ).2.1 (u y.lo (by simp [nl])) ⟨x,a,c,d⟩})
section
variable{s s':Sp}{r r':List Sp}{E:List Rat}(h:vr (s :: r))(h':vr (s' :: r'))(e:∀t,t ∉ E->At (s :: r) t->At (s' :: r') t)
include h h' e
theorem un_a (F:s.a=true):s'.a=true:=by (cases z:s'.a with|true=>rfl|false=>{obtain ⟨t,-,c,d⟩:=LC E [] (s'.lo::s.Iv) (λl b=>by cases b);have:=e t d ⟨s,ψ,.inl F,(Bm.2 ⟨(λl b=>by unfold Sp.JY at b;rw [Ä F] at b;cases b),λu hu=>c u (by simp [hu])⟩).2⟩;exact Å this (IL h' z (by have:=c s'.lo ψ;grind))})
theorem un_lo (F:s.a=false)(z:s'.a=false):¬s.lo<s'.lo:=by
 intro b
 have ⟨t,f,d,g⟩:=LC E [s.lo] (s'.lo::s.Iv) (λl c u hu=>by
  obtain rfl:l=s.lo:=by simpa using c
  rcases ç.1 hu with rfl|hu
  ·exact b
  ·obtain ⟨i,rfl⟩:=pU hu;exact oH (h.1 s ψ).2 F i)
 have:=e t g ⟨s,ψ,Bm.2 ⟨(λl c=>by obtain ⟨-,rfl⟩:=mT c;exact f _ ψ),λu hu=>d u (by simp [hu])⟩⟩;exact Å this (IL h' z (by have:=d s'.lo ψ;grind))
theorem un_b (F : s.a=false → s'.a=false ∧ s.lo=s'.lo)(M : s.b=true) : s'.b=true := by
  cases z : s'.b with
  | true => rfl
  | false =>
    have g : ∀ u∈nl r', s'.hi<u := λu hu => by
      cases r' with
      | nil => cases hu
      | cons y r' => obtain rfl : u=y.lo := by simpa [nl] using hu
                     exact (h'.Nu ψ).2.2
    obtain ⟨t, d, h, i⟩ := LC E (s'.hi::s.JY) (nl r') (λl c u hu => by
      rcases ç.1 c with rfl|c
      · exact g u hu
      · obtain ⟨f, rfl⟩ := mT c;have := oH (h'.1 s' ψ).2 (F f).1 z;rw [(F f).2];grind)
    have := e t i ⟨s, by simp, (Bm.2 ⟨(λl c => d l (by simp [c])), (λu hu => by unfold Sp.Iv at hu;rw [Ä M] at hu;cases hu)⟩ : s.inn t)⟩;exact Å this (Qt h' z (by have := d s'.hi ψ;grind) (λx j => by have := h x j;grind))
theorem un_hi (F : s.a=false → s'.a=false ∧ s.lo=s'.lo)(N : s.b=false)(z : s'.b=false) : ¬s'.hi<s.hi := by
  intro c
  have g : ∀ u∈nl r', s'.hi<u := λu hu => by
    cases r' with
    | nil => cases hu
    | cons y r' => obtain rfl : u=y.lo := by simpa [nl] using hu
                   exact (h'.Nu ψ).2.2
  obtain ⟨t, h, f, i⟩ := LC E [s'.hi] (s.hi::nl r') (λl j u hu => by
    obtain rfl : l=s'.hi := by simpa using j
    rcases ç.1 hu with rfl|hu
    · exact c
    · exact g u hu)
  have m := h s'.hi ψ
  have d : s.inn t := by
    refine ⟨?_, .inr (f s.hi ψ)⟩
    cases M : s.a with
    | true => exact .inl rfl
    | false =>
      have := oH (h'.1 s' ψ).2 (F M).1 z;exact .inr χ
  exact Å (e t i ⟨s, by simp, d⟩) (Qt h' z χ (λx k => by have := f x (by simp [k]);grind))
end
def Sp.ext' {s t:Sp}(u:s.a=t.a)(z:s.b=t.b)(F:s.lo=t.lo)(M:s.hi=t.hi):s=t:=by cases s;cases t;simp at *;exact ⟨F,M,u,z⟩
theorem OS {E:zA Rat}:∀{xs ys:zA Sp},vr xs->vr ys->(∀t,t∉E->(At xs t↔At ys t))->xs=ys:=by
 intro xs
 induction xs with
 | nil=>
  intro ys _ f e
  cases ys with
  | nil=>rfl
  | cons s r=>
   have ⟨t,c,i⟩:=QC (f.1 s ψ).2 E;obtain ⟨x,d,-⟩:=(e t i).2 ⟨s,ψ,c⟩;cases d
 | cons s r F=>
  intro ys d f e
  cases ys with
  | nil=>
   have ⟨t,c,i⟩:=QC (d.1 s ψ).2 E;obtain ⟨x,d,-⟩:=(e t i).1 ⟨s,ψ,c⟩;cases d
  | cons s' r'=>
   have k:=λt j=>(e t j).1;have l:=λt j=>(e t j).2
   have beq:∀{a b:ut},(a=true->b=true)->(b=true->a=true)->a=b:=λ{a b} c i=>by cases a<;>cases b<;>simp at c i ⊢
   have g:=beq (un_a d f k) (un_a f d l)
   have y:s.a=false->s.lo=s'.lo:=λc=>by have A:=un_lo d f k c (g▸c);have B:=un_lo f d l (g▸c) c;grind
   have z:s.a=false->s'.a=false/\s.lo=s'.lo:=λh=>⟨g▸h,y h⟩;have n:s'.a=false->s.a=false/\s'.lo=s.lo:=λh=>⟨g.symm▸h,(y (g.symm▸h)).symm⟩;have u:=beq (un_b d f k z) (un_b f d l n)
   have C:s.b=false->s.hi=s'.hi:=λc=>by have A:=un_hi d f k z c (u▸c);have B:=un_hi f d l n (u▸c) c;grind
   have gs:=(d.1 s ψ).1;have o:=(f.1 s' ψ).1
   have es:s=s':=by refine Sp.ext' g u ?_ ?_;{(cases c:s.a with|false=>exact y c|true=>{rw [gs.1 c,o.1 (g▸c)]})};(cases c:s.b with|false=>exact C c|true=>{rw [gs.2 c,o.2 (u▸c)]})
   subst es
   have p:∀{q:zA Sp} {t:Rat},vr (s::q)->At q t->¬s.inn t:=by rintro q t D ⟨x,d,c,i⟩ ⟨v,w⟩;obtain ⟨b1,b2,b3⟩:=D.Nu d;grind
   rw [F d.tail f.tail (λt j=>⟨λm=>?_,λm=>?_⟩)]
   ·have ⟨x,hm,hi⟩:=k t j (by obtain ⟨x,v,w⟩:=m;exact ⟨x,by simp [v],w⟩);rcases ç.1 hm with rfl|hm;{exact Å hi (p d m)};exact ⟨x,hm,hi⟩
   ·have ⟨x,hm,hi⟩:=l t j (by obtain ⟨x,v,w⟩:=m;exact ⟨x,by simp [v],w⟩);rcases ç.1 hm with rfl|hm;{exact Å hi (p f m)};exact ⟨x,hm,hi⟩
end
section
variable{c i k n sz y:Nat}{V:Ó}{vs:List Value}{p:OA}{v:Value}{q x:Rat}{s:Sp}{ss:List Sp}
theorem row_one {α:Type}{R:un->um->α->Prop}{xs:zA um}{a:α}(u:xs.length=sz)(z:R V (.agg xs.toArray) a):è sz R V xs [a]:=by refine ⟨λi b=>?_⟩<;>grind
def OX {α:Type}{R:un->um->α->Prop}{ls:zA α}(h:è sz R V vs ls)(F:k<=ls.length){xs sp:zA um}{a:α}(z:xs.length=sz)(M:R V (.agg xs.toArray) a)(N:0<sz):è sz R V (vs.take (k*sz)++(xs++(vs.take (ls.length*sz)).drop (k*sz))++sp) (ls.take k++a::ls.drop k):=by have v:=h.eH N;have q:k*sz<=ls.length*sz:=Ă _ F;have t1:(vs.take (k*sz)).length=k*sz:=by{rw [ë];omega};have t2:((vs.take (ls.length*sz)).drop (k*sz)).length=ls.length*sz-k*sz:=by{rw [Ĵ,ë];omega};have g:(ls.take k).length=k:=by{rw [ë];omega};refine ⟨λi r=>?_⟩;rw [Ĝ];by_cases s:i<k;{have c:i<ls.length:=ω;have ⟨l,n,o,p⟩:=h.at_ i c;have e:(ls.take k++a::ls.drop k)[i]=ls[i]:=by{rw [Qs5 ω,Qt9]};refine ⟨l,n,by rw [e];exact o,λj x b=>?_⟩;have d:=(đ.1 b).1;have f:i*sz+j<k*sz:=by{have:(i+1)*sz<=k*sz:=Ă _ s;rw [Ş] at this;omega};rw [ĳ ω,Ĳ,Ä f];exact p j x b};by_cases t:i=k;{subst t;have e:(ls.take i++a::ls.drop i)[i]=a:=by{simp [g]};refine ⟨xs,z,by rw [e];exact M,λj x b=>?_⟩;have d:=(đ.1 b).1;rw [ň ω,t1,Qn2,Ĝ,ĳ d];exact b};have c:i-1<ls.length:=by{rw [í,g,Ċ,Ĵ] at r;omega};have ⟨l,n,o,p⟩:=h.at_ (i-1) c;have e:(ls.take k++a::ls.drop k)[i]=ls[i-1]:=by{rw [Wz4 ω];obtain ⟨m,hm⟩:∃m,i=k+(m+1):=⟨i-k-1,ω⟩;subst hm;simp only [g,Qn2,List.getElem_cons_succ,Qr1];congr 1};refine ⟨l,n,by rw [e];exact o,λj x b=>?_⟩;have d:=(đ.1 b).1;obtain ⟨m,hm⟩:∃m,i=k+1+m:=⟨i-k-1,ω⟩;subst hm;have w:(k+1+m)*sz=k*sz+sz+m*sz:=by{rw [Đ,Đ,Ō]};have u:(k+1+m-1)*sz=k*sz+m*sz:=by{rw [show k+1+m-1=k+m by omega,Đ]};have:=p j x b;rw [u] at this;have f:k*sz+m*sz+j<ls.length*sz:=by{have:(k+m+1)*sz<=ls.length*sz:=Ă _ ω;rw [Đ,Đ,Ō] at this;omega};rw [ň ω,t1,Ĝ,ň ω,z,ĳ ω,Qn9,Ĳ,Ä ω];rw [show k*sz+((k+1+m)*sz+j-k*sz-sz)=k*sz+m*sz+j by omega];exact this
theorem cW {α:Type}{R:un->um->α->Prop}{ls:zA α}(h:bP sz R V p n ls)(u:0<sz):∃xs:zA um,V.sl p xs/\xs.length=ls.length*sz/\è sz R V xs ls:=by
 have step:∀k,k<=ls.length->∃xs:zA um,V.sl p xs/\xs.length=k*sz/\è sz R V xs (ls.take k):=by
  intro k
  induction k with
  | zero=>exact λ_=>⟨[],λi v b=>by simp at b,ψ,by rw [Qf6];exact è.nil⟩
  | succ k z=>
   intro r;have ⟨xs,d,e,f⟩:=z ω;have ⟨l,g,m,j,o,s⟩:=h.at_ k ω;have q:(ls.take k).length=k:=by rw [ë];omega
   refine ⟨xs++m,λi v b=>?_,by rw [í,e,j,Ş],?_⟩
   ·by_cases c:i<xs.length;{rw [ĳ c] at b;exact d i v b};rw [ň ω] at b;(cases p with|none=>{cases g}|some a=>{obtain rfl:=ő (show some (a.add (k*sz))=some l from g);grind [BK]})
   ·have:=f.snoc (sp:=[]) j o u;rw [q,ć,ŋ ω] at this;rw [ł,ñ ω];exact this
 have ⟨xs,d,e,f⟩:=step ls.length (Ù _);grind
def eI {α:Type}{R:un->um->α->Prop}{V:un}{vs xs sp:zA um}{ls ms:zA α}(h:è sz R V vs ls)(h':è sz R V xs ms)(u:0<sz):è sz R V (vs.take (ls.length*sz)++xs++sp) (ls++ms):=by have q:=h.eH u;have o:=h'.eH u;have n:(vs.take (ls.length*sz)).length=ls.length*sz:=by{rw [ë];omega};refine ⟨λi p=>?_⟩;by_cases c:i<ls.length;{have ⟨d,f,g,k⟩:=h.at_ i c;refine ⟨d,f,by rw [Qs5 c];exact g,λj x a=>?_⟩;have l:=(đ.1 a).1;have b:i*sz+j<ls.length*sz:=by{have:(i+1)*sz<=ls.length*sz:=Ă _ c;rw [Ş] at this;omega};rw [Ĝ,ĳ ω,Ĳ,Ä b];exact k j x a};rw [í] at p;obtain ⟨m,rfl⟩:∃m,i=ls.length+m:=⟨i-ls.length,ω⟩;have hm:m<ms.length:=ω;have ⟨d,f,g,k⟩:=h'.at_ m hm;refine ⟨d,f,?_,λj x a=>?_⟩;{have e:(ls++ms)[ls.length+m]=ms[m]:=by{rw [Wz4 ω];simp};rw [e];exact g};have l:=(đ.1 a).1;have b:m*sz+j<xs.length:=by{have:(m+1)*sz<=ms.length*sz:=Ă _ hm;rw [Ş] at this;omega};rw [Ĝ,ň (by rw [n,Đ];omega),n,Đ,ĳ ω];rw [show ls.length*sz+m*sz+j-ls.length*sz=m*sz+j by omega];exact k j x a
theorem gK {α:Type}{R:un->um->α->Prop}{al:zA α}(h:è sz R V vs al)(u:0<sz)(z:∀xs a,R V (.agg (List.toArray xs)) a->∀v∈xs,v.oneCell'=true){m:Nat}(hm:m<al.length*sz)(F:vs[m]?=some v):v.oneCell'=true:=by have ⟨xs,b,e,c⟩:=h.at_ (m/sz) (Nat.div_lt_of_lt_mul (by rw [ļ];exact hm));have d:m%sz<xs.length:=by{rw [b];exact ę _ u};grind [Nat.mul_comm,Nat.div_add_mod,List.getElem_mem]
def YL {α:Type}{R:un->um->α->Prop}{O:zA α}(h:bP sz R V p n O)(N:n<=c)(z:0<sz)(one:∀xs a,R V (.agg (List.toArray xs)) a->∀v∈xs,v.oneCell'=true){es:zA um}{x:α}(he:es.length=sz)(F:R V (.agg es.toArray) x){j:Nat}(M:j<=n):∃xs ys:zA um,V.sl (kq p c j sz) xs/\xs.length=(n-j)*sz/\(∀v∈xs,v.oneCell'=true)/\V.sl p ys/\ys.length=j*sz/\(p.isNone=true->j=0)/\(∀sp:zA um,aO (es.take (1*sz)++xs++sp) 0 ((1+(n-j))*sz)=es++xs)/\(es++xs).length/sz=1+(n-j)/\(es++xs).length=(1+(n-j))*sz/\(∀v∈es++xs,v.oneCell'=true)/\∀sp:zA um,è sz R V (ys++(es++xs)++sp) (O.take j++x::O.drop j):=by obtain rfl:=h.len;have ⟨us,i,o,l⟩:=cW h z;have t:j*sz<=O.length*sz:=Ă _ M;have u:(O.length-j)*sz=O.length*sz-j*sz:=Nat.sub_mul ..;have q:(1+(O.length-j))*sz=sz+(O.length-j)*sz:=by{rw [Đ,Ō]};have t2:(us.drop (j*sz)).length=(O.length-j)*sz:=by{rw [Ĵ];omega};have m:∀v∈us.drop (j*sz),v.oneCell'=true:=λv f=>by{have ⟨k,hm,e⟩:=Qb5.1 (Qg9 f);exact gK l z one (by rw [<-o];exact hm) (by rw [ñ hm,e])};have b:(es++us.drop (j*sz)).length=(1+(O.length-j))*sz:=by{rw [í,t2,he,q]};refine ⟨us.drop (j*sz),us.take (j*sz),λk v hm=>?_,t2,m,λk v hm=>?_,by rw [ë];omega,λr=>?_,λsp=>?_,by rw [b];exact Qg3 _ z,b,λv f=>(ü.1 f).elim ((one _ _ F) v) (m v),λsp=>?_⟩;{have d:=(đ.1 hm).1;rw [t2] at d;rw [Qn9] at hm;obtain ⟨a,rfl,g⟩:=i _ v hm;have:c≠j:=λe=>by{rw [show O.length-j=0 by omega,ŝ] at d;omega};refine ⟨a.add (j*sz),by unfold kq;rw [Ã this];rfl,by rw [BK];exact g⟩};{exact i k v (by rw [Ĳ] at hm;split at hm;exact hm;cases hm)};{rcases ĺ j with e|e;{exact e};obtain ⟨w,s,-⟩:=h.at_ 0 ω;(cases p with|none=>{cases s}|some a=>{cases r})};{rw [Ō,ŋ (by omega:es.length<=sz)];unfold aO;rw [Nat.ble_eq_true_of_le (by rw [í,b];omega),cond_true,Wz5,Wq9 (by rw [b];exact Ù _),ŋ (by rw [b];exact Ù _)]};{have:=OX (sp:=sp) l (by omega:j<=O.length) he F z;rwa [show us.take (O.length*sz)=us from ŋ ω] at this}
def Bo {α:Type}{R:un->um->α->Prop}{V:un}{u z:Nat}{us:zA um}{O:zA α}(Z:GR sz R V u z us O)(N:0<sz)(one:∀xs a,R V (.agg (List.toArray xs)) a->∀v∈xs,v.oneCell'=true){F:Nat}{ty:TypeId}{m:Nat×Nat}(hb:us≠[]->V.bo F (.cells us.toArray ty m)){es:zA um}{x:α}(he:es.length=sz)(hx:R V (.agg es.toArray) x){j:Nat}(yH:j<=u:=by omega):∃xs ys:zA um,V.sl (kq (mA F z) z j sz) xs/\xs.length=(u-j)*sz/\(∀v∈xs,v.oneCell'=true)/\V.sl (mA F z) ys/\ys.length=j*sz/\((mA F z).isNone=true->j=0)/\(∀sp:zA um,aO (es.take (1*sz)++xs++sp) 0 ((1+(u-j))*sz)=es++xs)/\(es++xs).length/sz=1+(u-j)/\(es++xs).length=(1+(u-j))*sz/\(∀v∈es++xs,v.oneCell'=true)/\∀(sp:zA um)(M:Nat),j+(1+(u-j))<=M->M*sz<=(j+(1+(u-j)))*sz+sp.length->GR sz R V (j+(1+(u-j))) M (ys++(es++xs)++sp) (O.take j++x::O.drop j):=by obtain ⟨e,b,t,f⟩:=Z;subst e;have ⟨xs,ys,g,h,i,k,c,l,n,o,d,p,q⟩:=YL (bP.bR hb f N b) b N one he hx yH;refine ⟨xs,ys,g,h,i,k,c,l,n,o,d,p,λsp M r s=>⟨by rw [í,ë,Ċ,Ĵ];omega,r,?_,q sp⟩⟩;rw [í,í,c,d,<-Đ];exact s
def Ra:Sz 2 ((2:Int):Rat):=⟨by show (2:Int).natAbs<_;decide,by show (1:Nat)<_;decide⟩
def jW:Sz 2 ((1:Int):Rat):=⟨by show (1:Int).natAbs<_;decide,by show (1:Nat)<_;decide⟩
def uT (h:RQ V v x)(u:Sz k x)(z:k+2<2^38:=by omega):À 52 #[v] V λr W=>RQ W r (x*((2:Int):Rat)⁻¹):=by obtain ⟨_,rfl⟩:=Ŷ h.shape;refine MI V _ λb c=>(dN 2 φ φ).s λr V2 d g=>RQ.ex g λ_ g=>λe f=>(jx ra ra (by show (2:Int)≠0;decide) u Ra z).s λr i j q=>RQ.ex q λ_ q=>λl a=>q.le a
def Gz {w:um}{y:Rat}(h:RQ V v x)(h':RQ V w y)(u:Sz k x)(z:Sz k y)(F:4*k+4<2^38:=by omega):À 41 #[v,w] V λr W=>RQ W r ((x+y)*((2:Int):Rat)⁻¹):=by obtain ⟨_,rfl⟩:=Ŷ h.shape;obtain ⟨_,rfl⟩:=Ŷ h'.shape;refine Pt V _ λb c=>(eF ra ra u z ω).s λr V2 d g=>RQ.ex g λ_ g=>λe f=>(uT ra (u.add z)).s λr i j q=>RQ.ex q λ_ q=>λl a=>q.le a
def Q_ (ss:s.sz k):Sz (2*k+10) s.oO:=by have z:Sz (2*k+10) (0:Rat):=⟨by show (0:Int).natAbs<_;exact Ľ φ (Nat.one_le_two_pow),Qf0 ω⟩;unfold Sp.oO;split;{split;{exact z};exact (ss.2.sub jW).s ω};split;{exact (ss.1.add jW).s ω};exact ((ss.1.add ss.2).mul (iG Ra)).s ω
def q_ (h:t_ V v s)(ss:s.sz k)(Z:4*k+4<2^38:=by omega):À 11 #[v] V λr W=>RQ W r s.oO:=by obtain ⟨b,p,n,c,u,w,z,d,q,m,e,A,B,C,rfl,M,N⟩:=h;have D:s.a=true->s.b=true->s.oO=0:=λx y=>by{simp [Sp.oO,x,y]};have E:s.a=true->s.b=false->s.oO=s.hi-((1:Int):Rat):=λx y=>by{simp [Sp.oO,x,y]};have F:s.a=false->s.b=true->s.oO=s.lo+((1:Int):Rat):=λx y=>by{simp [Sp.oO,x,y]};have G:s.a=false->s.b=false->s.oO=(s.lo+s.hi)*((2:Int):Rat)⁻¹:=λx y=>by{simp [Sp.oO,x,y]};have no:∀{P:Prop},s.a=true->s.a=false->P:=λx y=>by{rw [x] at y;cases y};refine AW V _ ⟨λf=>⟨λi H O=>?_,λi=>⟨λ_ V2 Q=>(dN 1 φ φ).s ?_,λe=>no f e⟩⟩,λf=>⟨λe=>no e f,λ_=>⟨λi R S=>(dN 1 φ φ).s ?_,λi T U=>(Gz ra ra ss.1 ss.2 Z).s ?_⟩⟩⟩;{rw [D f i];have:=RQ.zero (V:=H);simpa using this};{rw [E f i];rintro r I J g;obtain ⟨_,rfl⟩:=Ŷ g.shape;refine qxQ ⟨rfl,λK L=>(iH ra ra ss.2 jW).s λr l o q=>RQ.ex q λ_ q=>λt j=>q.le j⟩};{rw [F f i];rintro r I J g;obtain ⟨_,rfl⟩:=Ŷ g.shape;refine qxQ ⟨rfl,λK L=>(eF ra ra ss.1 jW ω).s λr l o q=>RQ.ex q λ_ q=>λt j=>q.le j⟩};rw [G f i];rintro r l o q;obtain ⟨_,rfl⟩:=Ŷ q.shape;exact qxQ ⟨rfl,λt j=>q.le j⟩
def jM {w:um}{y F M:Rat}(h:RP V v x y)(h':RP V w F M){k:Nat}(s1:Sz k x)(s2:Sz k y)(s3:Sz k F)(s4:Sz k M)(N:4*k+4<2^38:=by omega):À 121 #[v,w] V λr W=>RQ W r (x*M-y*F):=by obtain ⟨_,rfl,c,d⟩:=Ÿ h;obtain ⟨_,rfl,e,f⟩:=Ÿ h';refine El V _ λi j=>(bK ra ra s1 s4 ω).s λr V2 l g=>RQ.ex g λ_ g=>λm n=>(bK ra ra s2 s3 ω).s ?_;rintro r o p a;obtain ⟨_,rfl⟩:=Ŷ a.shape;refine qxQ ⟨rfl,λs t=>(iH ra ra (s1.mul s4) (s2.mul s3)).s λr u z q=>RQ.ex q λ_ q=>λA b=>q.le b⟩
def Ds {qs:zA Rat}(h:bP 3 RQ V p n qs)(hi:i<qs.length):∃ad b u z c1 F M N,af p (i*3)=some ad/\RQ V (hF #[dB b,yG u z c1,yG F M N]) qs[i]/\V.at (ad.add 0) (dB b)/\V.at (ad.add 1) (yG u z c1)/\V.at (ad.add 2) (yG F M N):=by obtain ⟨ad,d,xs,-,c,a⟩:=h.at_ i hi;obtain ⟨u,z,c1,F,M,N,e⟩:=c.shape;have e:=Æ Array.toList (Value.agg.inj e);dsimp only at e;subst e;exact ⟨ad,_,u,z,c1,F,M,N,d,c,a 0 _ rfl,a 1 _ rfl,a 2 _ rfl⟩
def Ce {t:Rat}(N:PH V p n ss)(u:RQ V v t)(z:∀s∈ss,s.sz k)(st:Sz k t)(F:2*k<2^38)(M:ss.length<2^62:=by omega):À 276 #[yG p n c,v] V λr W=>r=dB (tN ss t==2):=by obtain ⟨_,rfl⟩:=Ŷ u.shape;refine MZ V _ λa b=>(E2 ra ra z st F M).s ?_;rintro r V2 d rfl;exact ⟨_,rfl,λe f=>rfl⟩
def Fg (c:List Rat)(i:Nat):List Rat:=(c.getD 0 0-((1:Int):Rat))::(List.range (i-1)).map λk=>(c.getD k 0+c.getD (k+1) 0)*((2:Int):Rat)⁻¹
def dY (c:List Rat):List Rat:=if c.length=0 then [0] else Fg c c.length++[c.getD (c.length-1) 0+((1:Int):Rat)]
theorem Dc (c:zA Rat)(h:1<=i):(Fg c i).length=i:=by unfold Fg;simp;omega
def SU (c:zA Rat)(h:1<=i):Fg c (i+1)=Fg c i++[(c.getD (i-1) 0+c.getD i 0)*((2:Int):Rat)⁻¹]:=by obtain ⟨m,rfl⟩:∃m,i=m+1:=⟨i-1,ω⟩;unfold Fg;rw [Qc9,Qc9,List.range_succ,ś];rfl
def jQ {c:zA Rat}(h:i<c.length:=by omega):c.getD i 0=c[i]:=by rw [Ę,ñ h];rfl
def Cd {cs:zA Rat}(h:bP 3 RQ V p n cs)(hn:cs.length<1000000000)(hs:∀q∈cs,Sz k q)(hk:4*k+8<2^38:=by omega):À 275 #[yG p n c] V λr W=>∃q m e,r=yG q m e/\bP 3 RQ W q m (dY cs):=by
 obtain rfl:=h.len;refine AV V _ ⟨λl S l1 T w=>?_,λl=>?_⟩
 ·have l:cs.length=0:=by{simpa using l};have e:dY cs=[0]:=Ä l;rw [e];refine ⟨_,_,_,rfl,bP.fX w (row_one rfl ?_)⟩;have:=RQ.zero (V:=S);simpa using this
 ·have l:¬cs.length=0:=by simpa using l
  have e:dY cs=Fg cs cs.length++[cs.getD (cs.length-1) 0+((1:Int):Rat)]:=Ã l;rw [e];have i0:0<cs.length:=ω
  have ⟨U,b,p1,n1,c1,p2,n2,c2,N,hq,W,X,Y⟩:=Ds h i0;refine ⟨bf N,ų,_,_,_,_,_,_,_,U,N,W,X,Y,λV2 Z=>(dN 1 φ φ).s λr V3 l3 g=>RQ.ex g λ_ g=>λV4 l4=>(iH ra ra (hs _ (ú i0)) jW).s ?_⟩;rintro r V5 l5 O;obtain ⟨_,rfl⟩:=Ŷ O.shape;have x:=Z.m (l3.m (l4.m l5))
  refine qxQ ⟨rfl,λz V'=>∃i:Nat,z.2.2.2=(i:Int)/\1<=i/\i<=cs.length/\z.1=i/\i<=z.2.1/\z.2.1*3<=z.2.2.1.length/\è 3 RQ V' z.2.2.1 (Fg cs i),λz=>cs.length-z.2.2.2.toNat,
   ⟨(1,1,_,1),by and_intros<;>first|rfl|decide,1,rfl,Ù _,i0,rfl,Ù _,Ù _,row_one rfl (by rw [jQ i0];exact O)⟩,?_⟩
  rintro ⟨a,z2,vs,z4⟩ V6 y ⟨i,P,i1,Xu,Q,A,B,C⟩;dsimp only at P Q A B C;subst P Q;have hlen:=Dc cs i1;refine ⟨rfl,λd=>?_,λd=>?_⟩
  ·have d:(a:Int)<cs.length:=Á d;have j:a<cs.length:=ω;have o:a-1<cs.length:=ω;have D:Ŵ.wrap ((a:Int)-1)=((a-1:Nat):Int):=ŵ;have w2:Ŵ.wrap ((a:Int)+1)=(a:Int)+1:=ay ω;dsimp only;rw [D,w2,Ý,Ý];obtain ⟨E,b1,p3,n3,c3,p4,n4,c4,f,F,G,s,b2⟩:=Ds (h.le (x.m y)) o;have ⟨H,d1,p5,n5,c5,p6,n6,c6,u,a3,d0,I,d2⟩:=Ds (h.le (x.m y)) j;refine ⟨bf f,ų,_,_,_,_,_,_,_,E,f,G,s,b2,bf u,ų,_,_,_,_,_,_,_,H,u,d0,I,d2,λV7 l7=>(Gz ra ra (hs _ (ú o)) (hs _ (ú j))).s λr V8 l8 t=>RQ.ex t λ_ t=>⟨ω,A,B,rfl,?_,λsp J K h2=>⟨(a+1,J,_,(a:Int)+1),ω,σ,a+1,rfl,ω,j,rfl,K,?_,?_⟩⟩⟩;{intro v hm;simp only [ç,ě,Ì] at hm;rcases hm with rfl|rfl|rfl<;>rfl};{dsimp only;have ht:(vs.take (a*3)).length=a*3:=by{rw [ë];omega};rw [í,í,ht];simp only [Ċ,Ŀ];omega};dsimp only;rw [SU cs i1,jQ o,jQ j];have:=(C.le (V':=V8)).snoc (sp:=sp) rfl t φ;rw [hlen] at this;exact this
  ·have d:¬(a:Int)<cs.length:=Â d;obtain rfl:a=cs.length:=ω;have j:cs.length-1<cs.length:=ω;have D:Ŵ.wrap ((cs.length:Int)-1)=((cs.length-1:Nat):Int):=ŵ;dsimp only;rw [D,Ý];obtain ⟨E,b1,p3,n3,c3,p4,n4,c4,f,F,G,s,b2⟩:=Ds (h.le (x.m y)) j;refine ⟨bf f,ų,_,_,_,_,_,_,_,E,f,G,s,b2,λV9 l9=>(dN 1 φ φ).s λr fD M R=>RQ.ex R λ_ R=>λeX dq=>(eF ra ra (hs _ (ú j)) jW ω).s λr gQ eJ t=>RQ.ex t λ_ t=>⟨ω,A,B,rfl,?_,λsp J K h2 ji fk T w=>?_⟩⟩;{intro v hm;simp only [ç,ě,Ì] at hm;rcases hm with rfl|rfl|rfl<;>rfl};have L:=l9.m (M.m (dq.m (eJ.m fk)));have:=(C.le (V':=ji) λ_ _ g=>g.le L).snoc (sp:=sp) rfl ra φ;rw [hlen] at this;have k:=bP.bR (c:=J) w this φ (by rw [í,hlen];exact K);rw [í,hlen] at k;rw [jQ j];exact ⟨_,_,_,rfl,k⟩
def dJ (x:Rat):List Rat->List Rat
 | []=>[x]
 | y::r=>if y<x then y::dJ x r else if y=x then y::r else x::y::r
theorem YK:∀(o:zA Rat)(k:Nat),k<=o.length->(∀j (h:j<o.length),j<k->o[j]<x)->(∀h:k<o.length,¬o[k]<x) ->dJ x o=if (∃h:k<o.length,o[k]=x) then o else o.take k++x::o.drop k:=by
 intro o
 induction o with
 | nil=>grind [dJ]
 | cons y r u=>
  intro k g a b
  cases k with
  | zero=>
   have f:¬y<x:=b ψ;unfold dJ;rw [Ã f];by_cases e:y=x
   ·rw [Ä e,Ä ⟨ψ,e⟩]
   grind
  | succ k=>
   have f:y<x:=a 0 ψ ω;unfold dJ;rw [Ä f,u k (by simpa using g) (λj h i=>a (j+1) (by simpa using h) ω) (λh=>b (by simpa using h))];by_cases e:∃h:k<r.length,r[k]=x
   ·obtain ⟨c,d⟩:=e;rw [Ä ⟨c,d⟩,Ä ⟨by simpa using c,d⟩]
   ·rw [Ã e,Ã (by rintro ⟨c,d⟩;exact e ⟨by simpa using c,d⟩)];rfl
def fA (s:Sp)(o:List Rat):Nat->List Rat
 | 0=>o
 | 1=>if s.a then o else dJ s.lo o
 | _=>if s.b then (if s.a then o else dJ s.lo o) else dJ s.hi (if s.a then o else dJ s.lo o)
def à (ss:List Sp):List Rat:=ss.foldl (λo s=>fA s o 2) []
theorem NX (hi:i<ss.length):à (ss.take (i+1))=fA ss[i] (à (ss.take i)) 2:=by grind [à,List.take_add_one]
theorem K7:∀{o:zA Rat},q∈dJ x o->q=x\/q∈o:=by
 intro o
 induction o with
 | nil=>intro h;simp [dJ] at h;exact .inl h
 | cons y r u=>
  unfold dJ;grind
theorem oE:∀{o:zA Rat},(dJ x o).length<=o.length+1:=by
 intro o
 induction o with
 | nil=>simp [dJ]
 | cons y r u=>
  unfold dJ;grind
def O5 {s:Sp}{o:zA Rat}(u:y<2):fA s o (y+1)=if (if y=0 then s.a else s.b)=true then fA s o y else dJ (if y=0 then s.lo else s.hi) (fA s o y):=by have:y=0\/y=1:=ω;rcases this with rfl|rfl<;>rfl
theorem Hw {s:Sp}{o:zA Rat}(u:y<=2):(fA s o y).length<=o.length+y:=by have d:=@oE s.lo o;have e:=@oE s.hi (if s.a then o else dJ s.lo o);have c:(if s.a then o else dJ s.lo o).length<=o.length+1:=by{split<;>omega};have:y=0\/y=1\/y=2:=ω;rcases this with rfl|rfl|rfl;{exact Ù _};{exact c};show (if s.b=true then (if s.a=true then o else dJ s.lo o) else dJ s.hi (if s.a=true then o else dJ s.lo o)).length<=_;by_cases f:s.b=true<;>grind
theorem Hx {o:zA Rat}(u:y<=2)(h:q∈fA s o y):q=s.lo\/q=s.hi\/q∈o:=by have c:q∈(if s.a then o else dJ s.lo o)->q=s.lo\/q=s.hi\/q∈o:=by{grind [K7]};have:y=0\/y=1\/y=2:=ω;rcases this with rfl|rfl|rfl;{exact .inr (.inr h)};{exact c h};replace h:q∈(if s.b=true then (if s.a=true then o else dJ s.lo o) else dJ s.hi (if s.a=true then o else dJ s.lo o)):=h;by_cases d:s.b=true<;>grind [K7]
theorem GU (ss:zA Sp):(à ss).length<=2*ss.length:=by
 have:∀(ss:zA Sp)(o:zA Rat),(ss.foldl (λo s=>fA s o 2) o).length<=o.length+2*ss.length:=by
  intro ss
  induction ss<;>grind [Hw]
 grind [à]
theorem yB (h:q∈à ss):∃s∈ss,q=s.lo\/q=s.hi:=by
 have:∀(ss:zA Sp)(o:zA Rat),q∈(ss.foldl (λo s=>fA s o 2) o)->q∈o\/∃s∈ss,q=s.lo\/q=s.hi:=by
  intro ss
  induction ss with
  | nil=>exact λo h=>.inl h
  | cons s r u=>
   intro o h;rcases u _ h with h|⟨t,a,h⟩
   ·rcases Hx (Ù 2) h with h|h|h<;>grind
   grind
 rcases this ss [] h with h|h
 ·simp at h
 ·exact h
def Wx {qs:zA Rat}(h:è 3 RQ V vs qs)(hi:i<qs.length):∃b u z c1 F M N,i*3+3<=vs.length/\(vs.drop (i*3)).take 3=[dB b,yG u z c1,yG F M N]/\RQ V (hF #[dB b,yG u z c1,yG F M N]) qs[i]:=by obtain ⟨xs,-,c,a⟩:=h.at_ i hi;obtain ⟨u,z,c1,F,M,N,e⟩:=c.shape;have e:=Æ Array.toList (Value.agg.inj e);subst e;have d:=a 2 _ rfl;have g:=(đ.1 d).1;refine ⟨_,u,z,c1,F,M,N,ω,?_,c⟩;apply Qh1;intro j;rw [Ĳ];by_cases f:j<3;{rw [Ä f,Qn9];have:j=0\/j=1\/j=2:=ω;rcases this with rfl|rfl|rfl;{exact (a 0 _ rfl)};{exact (a 1 _ rfl)};exact d};rw [Ã f,Ŧ (by simp;omega)]
end
end Go.Proofs.Tryz
