import Derived.Laws.IdiomCopy
import Derived.Lib.Overlaps
import Derived.Lib.JoinLaws
import Derived.Lib.AppendZerosOnto
import Derived.Shelf.RegionOpenPlain
import Derived.Lib.Walk
import Derived.Lib.SliceRun
import Derived.Laws.NewBlocks
import Derived.Test.YtobpmgpnbbcgjaaGreatDoorG18
import Derived.Test.YtobpmgpnbbcgjaaGreatDoorG9
set_option linter.all false
open Go.IntKind (i64 u64 u32)
open Go.Value renaming slice→dB,agg→qvK,bool→Õ,pointer→qyQ,tuple→æ,int→Ô
namespace Go.Proofs.Tryz
open Go.Eng Go.Big
section
variable{l:L3}
theorem cross_dot (l m:L3):Ý l m=-Û m l:=by unfold Ý Û;grind
theorem Ru (m l:L3):aV.cr (aV.cG m) (aV.cG l)=Û m l:=by unfold aV.cr aV.cG Û;grind
def oP (l m:L3):Rat:=ig l (PD l m) (PE l m)
theorem BX {m:L3}(u:Nz l)(h:Ý l m≠0):oP l m=Ø m l:=by have ⟨v1,v2⟩:=T9 h;have ⟨t,a,b⟩:=NU u v1;have c:oP l m=t:=by{unfold oP;rw [a,b];exact (wO u t).2};rw [a,b,jY] at v2;have d:Û m l≠0:=λe=>h (by rw [cross_dot,e];grind);unfold Ø;grind
def vh (l m:L3)(s:Sp):Option Sp:=
 if Ý l m=0 then (if (aC m (cg l 0) (cj l 0)).num.sign<=0 then none else some s)
 else
  let s':Sp:=if 0<(Û m l).num.sign then (if s.a=true\/s.lo<oP l m then ⟨oP l m,s.hi,false,s.b⟩ else s) else (if s.b=true\/oP l m<s.hi then ⟨s.lo,oP l m,s.a,false⟩ else s)
  if s'.a=false/\s'.b=false/\s'.hi<=s'.lo then none else some s'
theorem RK {s:Sp}:s.emp=true↔s.a=false/\s.b=false/\s.hi<=s.lo:=by cases h:s.emp;{grind [Sp.iu.1]};{refine ⟨λ_=>?_,λ_=>rfl⟩;have d:¬(s.a=true\/s.b=true\/s.lo<s.hi):=λg=>by{rw [<-Sp.iu] at g;rw [h] at g;cases g};refine ⟨?_,?_,?_⟩;{cases e:s.a;{rfl};grind};{cases e:s.b;{rfl};grind};{by_cases c:s.lo<s.hi<;>grind}}
theorem Bf {m:L3}{s:Sp}(u:Nz l)(z:s.good):vh l m s=if cS l s m=true then some (bC l s m) else none:=by unfold vh;by_cases hc:Ý l m=0;{have c:Û m l=0:=by{rw [cross_dot] at hc;grind};have f:bC l s m=s:=by{unfold bC;rw [c];rfl};have d:cS l s m=decide ((jB m l).num.sign>0):=by{unfold cS;rw [c];rfl};rw [Ä hc,f,d];show (if (jB m l).num.sign<=0 then none else some s)=_;grind};{have c:Û m l≠0:=λe=>hc (by rw [cross_dot,e];grind);rw [Ã hc,BX u hc];have es:(if 0<(Û m l).num.sign then (if s.a=true\/s.lo<Ø m l then (⟨Ø m l,s.hi,false,s.b⟩:Sp) else s) else (if s.b=true\/Ø m l<s.hi then ⟨s.lo,Ø m l,s.a,false⟩ else s))=bC l s m:=by{obtain ⟨g,i⟩:=z.1;obtain ⟨lo,hi,a,b⟩:=s;unfold bC;rcases bW (Û m l) with ⟨h,e⟩|⟨h,e⟩|⟨h,e⟩;{exact Å h c};{rw [e,Ä φ];unfold Sp.meet tX;grind [ct]};{rw [e,Ã φ];unfold Sp.meet tY;grind [ct]}};have d:cS l s m=!(bC l s m).emp:=by{unfold cS;grind [bW]};grind [RK.2,RK.1]}
def eF (l:L3):List L3->Sp->Option Sp
 | [],s=>some s
 | m::r,s=>if m=l then eF l r s else match vh l m s with
  | some s'=>eF l r s'
  | none=>none
theorem xh (u:Nz l):∀{c:zA L3} {s w:Sp},s.good->eF l c s=some w->w.good/\∀t,w.inn t↔s.inn t/\∀m∈c,m≠l->0<aC m (cg l t) (cj l t)
 | [],s,w,h,e=>by cases e;exact ⟨h,λt=>⟨λg=>⟨g,λm hm=>by cases hm⟩,λg=>g.1⟩⟩
 | m::c,s,w,h,e=>by
  unfold eF at e;by_cases hm:m=l
  ·rw [Ä hm] at e;have ⟨g1,g2⟩:=xh u h e;grind
  ·rw [Ã hm,Bf u h] at e;by_cases z:cS l s m=true
   ·rw [Ä z] at e;have ⟨g1,g2⟩:=xh u (kY h z) e;grind [oD.1]
   grind
theorem xg (z:Nz l):∀{c:zA L3} {s:Sp},s.good->eF l c s=none->∀t,s.inn t->¬∀m∈c,m≠l->0<aC m (cg l t) (cj l t)
 | [],s,h,e=>by cases e
 | m::c,s,h,e=>by
  intro t D hall;have ⟨E,F⟩:=List.forall_mem_cons.1 hall;unfold eF at e;by_cases hm:m=l
  ·rw [Ä hm] at e;exact xg z h e t D F
  ·rw [Ã hm,Bf z h] at e;by_cases u:cS l s m=true
   ·rw [Ä u] at e;exact xg z (kY h u) e t ((oD.1 u t).2 ⟨D,E hm⟩) F
   ·exact oD.2 h.2 (by simpa using u) t D (E hm)
theorem Nw (u:Nz l){c:zA L3}:(eF l c ã).isSome=true↔aV.Es c l:=by constructor;{intro h;have ⟨w,hw⟩:=Qd5.1 h;have ⟨b,d⟩:=xh u gZ hw;have ⟨t,e⟩:=Gy.1 b.2;exact ⟨(cg l t,cj l t),(wO u t).1,((d t).1 e).2⟩};{rintro ⟨p,f,a⟩;have ⟨t,g,i⟩:=NU u f;(cases h:eF l c ã with|some w=>rfl|none=>{rw [g,i] at a;exact Å a (xg u gZ h t (full_inn t))})}
def qt (l:L3):List L3->List L3
 | []=>[l]
 | u::r=>if aV.OH (aV.cG u) (aV.cG l)<0 then u::qt l r else if u=l then u::r else l::u::r
def qL (c:List L3):List L3->List L3->List L3
 | [],out=>out
 | l::r,out=>qL c r (if (eF l c ã).isSome=true then qt l out else out)
theorem vt {x:L3}:∀{r:zA L3},x∈qt l r↔x=l\/x∈r
 | []=>by simp [qt]
 | u::r=>by
  unfold qt;split
  ·rw [ê,vt,ê];exact or_left_comm
  split
  ·rename_i e;subst e;rw [ê];exact ⟨.inr,λh=>h.elim .inl id⟩
  ·rw [ê]
theorem xD (h:ch l=true):ch (Ö l)=true:=by unfold ch Ö bZ at *;grind
end
section
theorem dot_rev (l m:L3):Û (Ö l) m=-Û l m:=by unfold Û Ö;simp only [Qs5];grind
theorem Ni (l m:L3):jB (Ö l) m=-jB l m:=by unfold jB;exact val_rev ..
theorem cutP_rev {l m:L3}(h:Û l m≠0):Ø (Ö l) m=Ø l m:=by unfold Ø;rw [dot_rev,Ni];grind
end
section
variable{l:L3}{q x y:Rat}
theorem ZN (h:ch l=true):Ö l≠l:=λe=>by
 have b:=nz_d h;rw [<-e,zY] at b;have a:=Æ aV.cG e;rw [zY] at a;have c:=Æ Prod.fst a;have d:=Æ Prod.snd a;dsimp only at c d b;grind
theorem QN:∀(L:zA Rat) {lo hi:Rat},lo<hi->∃t,lo<t/\t<hi/\∀r∈L,t≠r
 | [],lo,hi,h=>⟨(lo+hi)/2,χ,χ,(λr u=>by cases u)⟩
 | r::L,lo,hi,h=>by
  by_cases c:lo<r/\r<hi
  ·have ⟨t,z,D,E⟩:=QN L c.1;grind
  ·have ⟨t,z,D,E⟩:=QN L h;grind
theorem R8 {s:Sp}(h:s.good):∃lo hi,lo<hi/\∀t,lo<t->t<hi->s.inn t:=by have ⟨t,e⟩:=Gy.1 h.2;obtain ⟨lo,hi,a,b⟩:=s;unfold Sp.inn at *;cases a<;>cases b<;>simp at e ⊢;{exact ⟨lo,hi,χ,λt c d=>⟨c,d⟩⟩};{exact ⟨lo,lo+1,χ,λt c d=>c⟩};{exact ⟨hi-1,hi,χ,λt c d=>d⟩};{exact ⟨0,1,φ⟩}
theorem GZ {m:L3}(hm:ch m=true)(u:ch l=true){t:Rat}(z:t≠Ø m l):m=l\/m=Ö l\/aC m (cg l t) (cj l t)≠0:=by by_cases b:Û m l=0;{by_cases a:aC m (cg l t) (cj l t)=0;{have c:=(wO (XQ u) t).1;have hc:aV.cr (aV.cG m) (aV.cG l)=0:=by{rw [Ru];exact b};rcases XW (p:=(cg l t,cj l t)) hm u a c hc with g|g<;>grind};{exact .inr (.inr a)}};{refine .inr (.inr λa=>z ?_);rw [jY] at a;unfold Ø;grind}
theorem Tr.nf {P:L3->Prop}:∀{t:Tr},(∀l∈t.di,P l)->t.dJ P
 | .leaf _,_=>trivial
 | .node l x y,h=>⟨h l (č ..),nf λm hm=>h m (Ă _ (Ļ _ hm)),nf λm hm=>h m (Ă _ (Œ _ hm))⟩
theorem GA {a b:md}:fe [⟨x,y,a,b⟩]=(if a then 0 else 1)+(if b then 0 else 1):=by unfold fe yo Sp.H9 Sp.GJ;cases a<;>cases b<;>rfl
theorem SH (h:y<=x):tX x y=x:=by unfold tX;rcases ct y x with ⟨g,e⟩|⟨g,e⟩|⟨g,e⟩<;>rw [e]<;>simp<;>grind
theorem Zw (h:x<=y):tX x y=y:=by unfold tX;rcases ct y x with ⟨g,e⟩|⟨g,e⟩|⟨g,e⟩<;>rw [e]<;>simp<;>grind
theorem SJ (h:x<=y):tY x y=x:=by unfold tY;rcases ct y x with ⟨g,e⟩|⟨g,e⟩|⟨g,e⟩<;>rw [e]<;>simp<;>grind
theorem Zy (h:y<=x):tY x y=y:=by unfold tY;rcases ct y x with ⟨g,e⟩|⟨g,e⟩|⟨g,e⟩<;>rw [e]<;>simp<;>grind
theorem RJ:(⟨x,y,false,false⟩:Sp).emp=decide (y<=x):=by unfold Sp.emp;rcases ct x y with ⟨g,e⟩|⟨g,e⟩|⟨g,e⟩<;>simp only<;>simp<;>grind
theorem Xg {b:md}:(⟨x,y,true,b⟩:Sp).emp=false:=rfl
theorem Xi {a:md}:(⟨x,y,a,true⟩:Sp).emp=false:=by cases a<;>rfl
theorem Y3 {v:Sp}(h:v.good)(p:Rat):(v.innB p=true/\(v.meet ⟨p,0,false,true⟩).emp=false/\(v.meet ⟨0,p,true,false⟩).emp=false/\fe [v.meet ⟨p,0,false,true⟩]+fe [v.meet ⟨0,p,true,false⟩]<=fe [v]+2) \/ (v.meet ⟨p,0,false,true⟩=v/\(v.meet ⟨0,p,true,false⟩).emp=true)\/(v.meet ⟨0,p,true,false⟩=v/\(v.meet ⟨p,0,false,true⟩).emp=true):=by obtain ⟨⟨c,d⟩,he⟩:=h;obtain ⟨e,f,a,b⟩:=v;unfold Sp.meet Sp.innB;cases a<;>cases b;{grind [RJ,SH,Zy,SJ,Zw,GA]};{grind [RJ,SH,GA,Xi]};{grind [RJ,SJ,GA,Xg]};{left;simp [GA,Xg,Xi]}
def bh (l:L3)(e:Bool):Tr->Sp->List Sp
 | .leaf i,v=>if i=true then [v] else []
 | .node m x y,v=>
  if m=l/\e=true\/m=Ö l/\e=false then bh l e x v
  else if m=l\/m=Ö l then bh l e y v
  else (if cS l v m=true then bh l e x (bC l v m) else [])++(if cS l v (Ö m)=true then bh l e y (bC l v (Ö m)) else [])
def Yc (l:L3)(P:List Rat)(t:Tr):Prop:=t.dJ λm=>Û m l≠0->Ø m l∈P
theorem Jt {s w:Sp}(h:(s.meet w).cQ q):s.cQ q\/w.cQ q:=by unfold Sp.cQ Sp.meet at *;have mx:∀x y,tX x y=x\/tX x y=y:=λx y=>by{unfold tX;split<;>simp};have mn:∀x y,tY x y=x\/tY x y=y:=λx y=>by{unfold tY;split<;>simp};have a:=mx s.lo w.lo;have b:=mn s.hi w.hi;obtain ⟨s1,s2,s3,s4⟩:=s;obtain ⟨e,f,c,d⟩:=w;cases s3<;>cases c<;>cases s4<;>cases d<;>simp at h a b⊢<;>grind
theorem Vb {m:L3}{s:Sp}(h:(bC l s m).cQ q):s.cQ q\/Û m l≠0/\q=Ø m l:=by unfold bC at h;rcases bW (Û m l) with ⟨g,e⟩|⟨g,e⟩|⟨g,e⟩<;>rw [e] at h;{exact .inl h};{rcases Jt h with h|⟨_,h⟩|⟨h,_⟩;{exact .inl h};{exact .inr ⟨χ,h⟩};{cases h}};{rcases Jt h with h|⟨h,_⟩|⟨_,h⟩;{exact .inl h};{cases h};{exact .inr ⟨χ,h⟩}}
theorem Yy {f g h k:Rat->md}(H:∀c,(f c).toNat+(g c).toNat+(h c).toNat<=(k c).toNat):∀l:zA Rat,l.countP f+l.countP g+l.countP h<=l.countP k
 | []=>ψ
 | c::l=>by
  have u:=Yy H l;have a:=H c;have e:∀b:md,(if b=true then 1 else 0)=b.toNat:=λb=>by cases b<;>rfl
  grind
theorem Va {m:L3}{s:Sp}(h:Û m l=0):bC l s m=s:=by unfold bC;rw [h];rfl
theorem Rx {m:L3}{s:Sp}(h:Û m l=0):cS l s m=decide ((jB m l).num.sign>0):=by unfold cS;rw [h];rfl
theorem T7 {l m:L3}{v:Sp}(u:v.good):(cS l v m=true/\cS l v (Ö m)=true/\Û m l≠0/\v.innB (Ø m l)=true/\fe [bC l v m]+fe [bC l v (Ö m)]<=fe [v]+2)\/(bC l v m=v/\cS l v (Ö m)=false)\/(bC l v (Ö m)=v/\cS l v m=false):=by
 have key:Û m l≠0->∀s,cS l s m=!(bC l s m).emp:=λf s=>by unfold cS;grind [bW]
 have g:Û (Ö m) l≠0->∀s,cS l s (Ö m)=!(bC l s (Ö m)).emp:=λf s=>by unfold cS;grind [bW]
 by_cases f:Û m l=0
 ·grind [dot_rev,bW,Va,Rx,Ni]
 ·have k:Û (Ö m) l≠0:=by rw [dot_rev];grind
  rw [key f,g k];have H:=Y3 u (Ø m l);have j:=cutP_rev f
  have mk:∀{x y:Sp},bC l v m=x->bC l v (Ö m)=y->(v.innB (Ø m l)=true/\x.emp=false/\y.emp=false/\fe [x]+fe [y]<=fe [v]+2)\/(x=v/\y.emp=true)\/(y=v/\x.emp=true) ->
    ((!(bC l v m).emp)=true/\(!(bC l v (Ö m)).emp)=true/\Û m l≠0/\v.innB (Ø m l)=true/\fe [bC l v m]+fe [bC l v (Ö m)]<=fe [v]+2)\/(bC l v m=v/\(!(bC l v (Ö m)).emp)=false)\/(bC l v (Ö m)=v/\(!(bC l v m).emp)=false):=by
   rintro x y rfl rfl (⟨a,b,c,d⟩|⟨a,b⟩|⟨a,b⟩)
   ·exact .inl ⟨by rw [b];rfl,by rw [c];rfl,f,a,d⟩
   ·exact .inr (.inl ⟨a,by rw [b];rfl⟩)
   ·exact .inr (.inr ⟨a,by rw [b];rfl⟩)
  rcases bW (Û m l) with ⟨h,e⟩|⟨h,e⟩|⟨h,e⟩
  ·exact Å h f
  ·have i:(Û (Ö m) l).num.sign=-1:=by{grind [bW,dot_rev]};exact mk (by unfold bC;rw [e];rfl) (by unfold bC;rw [j,i];rfl) H
  ·have i:(Û (Ö m) l).num.sign=1:=by{grind [bW,dot_rev]};refine mk (x:=v.meet ⟨0,Ø m l,true,false⟩) (y:=v.meet ⟨Ø m l,0,false,true⟩) (by unfold bC;rw [e];rfl) (by unfold bC;rw [j,i];rfl) ?_<;>grind
theorem vE {P:zA Rat}{e:md}:∀{t:Tr} {v:Sp},v.good->Yc l P t->(∀q,v.cQ q->q∈P) ->(∀s∈bh l e t v,s.good/\∀q,s.cQ q->q∈P)/\fe (bh l e t v)<=fe [v]+2*P.countP v.innB/\(bh l e t v).length<=1+P.countP v.innB
 | .leaf i,v,z,_,D=>by
  cases i
  ·exact ⟨λs h=>(nomatch h),á _,á _⟩
  ·exact ⟨λs h=>by rw [ö.1 h];exact ⟨z,D⟩,Qp9 ..,Qp9 ..⟩
 | .node m x y,v,z,hc,D=>by
  obtain ⟨M,E,F⟩:=hc;unfold bh;split
  ·exact vE z E D
  ·split
   ·exact vE z F D
   ·have ends:∀{k:L3},(k=m\/k=Ö m)->∀q,(bC l v k).cQ q->q∈P:=λ{k} N q h=>by rcases Vb h with g|⟨g,eq⟩<;>grind [dot_rev,cutP_rev]
    have A:(cS l v m=true->(∀s∈bh l e x (bC l v m),s.good/\∀q,s.cQ q->q∈P)/\fe (bh l e x (bC l v m))<=fe [bC l v m]+2*P.countP (bC l v m).innB/\(bh l e x (bC l v m)).length<=1+P.countP (bC l v m).innB):=λh=>vE (kY z h) E (ends (.inl rfl));have B:(cS l v (Ö m)=true->(∀s∈bh l e y (bC l v (Ö m)),s.good/\∀q,s.cQ q->q∈P)/\fe (bh l e y (bC l v (Ö m)))<=fe [bC l v (Ö m)]+2*P.countP (bC l v (Ö m)).innB/\(bh l e y (bC l v (Ö m))).length<=1+P.countP (bC l v (Ö m)).innB):=λh=>vE (kY z h) F (ends (.inr rfl));refine ⟨λs h=>?_,?_⟩
    ·rcases ø.1 h with h|h<;>grind
    ·rw [Ly,ë];rcases T7 (l:=l) (m:=m) z with ⟨a,b,j,n,r⟩|⟨d,b⟩|⟨d,a⟩
     ·rw [Ä a,Ä b];have o:=(A a).2;have p:=(B b).2;have u:0<P.countP λc=>decide (c=Ø m l):=Qr4.2 ⟨_,M j,ψ⟩
      have H:=Yy (f:=(bC l v m).innB) (g:=(bC l v (Ö m)).innB) (h:=λc=>decide (c=Ø m l)) (k:=v.innB) (λc=>by
       have i1:=(oD (l:=l) (s:=v) (m:=m)).1 a c;have i2:=(oD (l:=l) (s:=v) (m:=Ö m)).1 b c;rw [val_rev] at i2;rw [<-innB_iff,<-innB_iff] at i1 i2
       have i3:c=Ø m l->v.innB c=true/\aC m (cg l c) (cj l c)=0:=by
        rintro rfl;refine ⟨n,?_⟩;rw [jY];unfold Ø;grind
       cases o:(bC l v m).innB c<;>cases p:(bC l v (Ö m)).innB c<;>cases O:v.innB c<;>by_cases w:c=Ø m l<;>simp at i1 i2 i3⊢<;>grind) P
      omega
     ·rw [Ã (c:=cS l v (Ö m)=true) (by rw [b];simp)];split;{rename_i g;have:=(A g).2;rw [d] at this ⊢;exact this};{exact ⟨á _,á _⟩}
     ·rw [Ã (c:=cS l v m=true) (by rw [a];simp)];split;{rename_i g;have:=(B g).2;rw [d] at this ⊢;exact ⟨by show 0+_<=_;omega,by show 0+_<=_;omega⟩};{exact ⟨á _,á _⟩}
def dY (l:L3)(e:Bool):Rat×Rat:=if e=true then ((l.1:Rat),(l.2.1:Rat)) else (-(l.1:Rat),-(l.2.1:Rat))
theorem vD (ol:ch l=true){e:md}:∀{t:Tr} {v:Sp},v.good->(t.dJ λm=>ch m=true/\(Û m l≠0->Ø m l≠q)) ->í (bh l e t v) q=(v.innB q&&(aV.oV t (cg l q,cj l q) (dY l e)).1)
 | .leaf i,v,_,_=>by cases i<;>simp [bh,aV.oV,í]
 | .node m x y,v,D,hc=>by
  obtain ⟨⟨M,N⟩,E,F⟩:=hc
  have nl:(l.1:Rat)*l.1+(l.2.1:Rat)*l.2.1>0:=by
   have h:=iV ol
   have n:∀z:Rat,z≠0->z*z>0:=λz c=>by rcases bW z with ⟨g,_⟩|⟨g,_⟩|⟨g,_⟩;{exact Å g c};{exact ĩ g g};{have:=ĩ (show -z>0 by grind) (show -z>0 by grind);grind}
   have d:∀z:Rat,z*z≥0:=λz=>by by_cases c:z=0;{rw [c];grind};{have:=n z c;grind}
   have f:=d l.1;have j:=d l.2.1;by_cases p:l.1=0
   ·have o:l.2.1≠0:=λo=>h ⟨p,o⟩;have:=n l.2.1 (by exact_mod_cast o);grind
   ·have:=n l.1 (by exact_mod_cast p);grind
  have v0:=(wO (iV ol) q).1
  have r:∀{z:Rat} ,0<z->z.num.sign=1:=λ{z} c=>by rcases bW z with ⟨h,_⟩|⟨h,e⟩|⟨h,_⟩;{grind};{exact e};{grind}
  have u:∀{z:Rat} ,z<0->z.num.sign=-1:=λ{z} c=>by rcases bW z with ⟨h,_⟩|⟨h,_⟩|⟨h,e⟩;{grind};{grind};{exact e}
  unfold bh aV.oV;have sd:∀z,aV.J3 m (cg l q,cj l q) (dY l e)=z↔(if (aC m (cg l q) (cj l q)).num.sign=0 then (aV.nv m (dY l e)).num.sign else (aC m (cg l q) (cj l q)).num.sign)=z:=λz=>Wk0;split
  ·rename_i h;have:aV.J3 m (cg l q,cj l q) (dY l e)=1:=by{rw [sd];rcases h with ⟨rfl,rfl⟩|⟨rfl,rfl⟩;{rw [v0];exact r (by unfold aV.nv dY;simpa using nl)};{rw [val_rev,v0];exact r (by unfold aV.nv dY Ö;simp;grind)}};rw [Ä this];exact vD ol D E
  ·split;{rename_i f h;have:aV.J3 m (cg l q,cj l q) (dY l e)=-1:=by{rw [sd];cases e;{rcases h with rfl|rfl;{rw [v0];exact u (by unfold aV.nv dY;simp;grind)};{exact Å (.inr ⟨rfl,rfl⟩) f}};{rcases h with rfl|rfl;{exact Å (.inl ⟨rfl,rfl⟩) f};{rw [val_rev,v0];exact u (by unfold aV.nv dY Ö;simp;grind)}}};rw [this,Ã φ,Ä rfl];exact vD ol D F};{rename_i f h;have A:aC m (cg l q) (cj l q)≠0:=by{by_cases w:Û m l=0;{rcases GZ M ol (t:=Ø m l+1) χ with g|g|g;{exact Å (.inl g) h};{exact Å (.inr g) h};{rw [jY,w] at *;grind}};grind [GZ]};have app:∀a b:zA Sp,í (a++b) q=(í a q||í b q):=λa b=>by{unfold í;rw [List.any_append]};have one:∀{k:L3} {z:Tr},(∀{v:Sp},v.good->í (bh l e z v) q=(v.innB q&&(aV.oV z (cg l q,cj l q) (dY l e)).1))->í (if cS l v k=true then bh l e z (bC l v k) else []) q=(v.innB q&&decide (0<aC k (cg l q) (cj l q))&&(aV.oV z (cg l q,cj l q) (dY l e)).1):=λ{k z} c=>by{split;{rename_i g;rw [c (kY D g)];congr 1;have:=(oD (l:=l) (s:=v) (m:=k)).1 g q;rw [<-innB_iff,<-innB_iff] at this;(cases f:(bC l v k).innB q<;>cases j:v.innB q<;>simp [j] at this⊢<;>first|exact this|grind)};{rename_i g;have:=(oD (l:=l) (s:=v) (m:=k)).2 D.2 (by simpa using g) q;rw [<-innB_iff] at this;cases j:v.innB q;{simp [í]};{simp [í,this j]}}};rw [app,one λD=>vD ol D E,one λD=>vD ol D F,val_rev];grind [aV.J3]}
def kd (l:L3)(t:Tr):List Sp:=Ú 3 (Ú 1 (bh l true t bT) []) (Ú 1 (bh l false t bT) [])
theorem lf:bT.good:=⟨⟨λ_=>rfl,λ_=>rfl⟩,rfl⟩
theorem Pm (q:Rat):bT.innB q=true:=rfl
theorem R0 (q:Rat):¬bT.cQ q:=by rintro (⟨h,_⟩|⟨h,_⟩)<;>cases h
section
variable {l:L3} {P:List Rat} {e:Bool} {t:Tr} (hc:Yc l P t)
include hc
theorem N5:(∀s∈bh l e t bT,s.good/\∀q,s.cQ q->q∈P)/\fe (bh l e t bT)<=2*P.length/\(bh l e t bT).length<=1+P.length:=by have ⟨a,b,c⟩:=vE (e:=e) lf hc λq h=>Å h (R0 q);have:P.countP bT.innB<=P.length:=List.countP_le_length ..;have:fe [bT]=0:=rfl;grind
theorem nN:∀q∈à (Ú 1 (bh l e t bT) []),q∈P:=λq b=>by
 have ⟨s,c,h⟩:=eU.1 b;have ⟨d,f⟩:=ny s c;have:q∈à (bh l e t bT++[]):=by rcases h with ⟨a,rfl⟩|⟨a,rfl⟩;exact d a;exact f a
 have ⟨u,hu,h⟩:=eU.1 this;rw [þ] at hu;exact ((N5 hc).1 u hu).2 q h
theorem Ts (u:asc P):fe (Ú 1 (bh l e t bT) [])<=P.length:=by refine zV (Hc (comb_reg 1 _ _)) u λx a=>nN hc (e:=e) x (eU.2 ?_);have ⟨s,b,a⟩:=ĕ.1 a;rcases ø.1 a with a|a;{exact ⟨s,b,.inl (mw a)⟩};{exact ⟨s,b,.inr (oI a)⟩}
theorem ZC:∀s∈kd l t,∀q,s.cQ q->q∈P:=λs b q h=>by
 have ⟨c,d⟩:=ny s b;have:q∈à (Ú 1 (bh l true t bT) []++Ú 1 (bh l false t bT) []):=by rcases h with ⟨a,rfl⟩|⟨a,rfl⟩;exact c a;exact d a
 have ⟨u,hu,h⟩:=eU.1 this;rcases ø.1 hu with hu|hu<;>grind [nN,eU.2]
theorem XR (ol:ch l=true)(D:t.dJ λm=>ch m=true){q:Rat}(z:q∉P):í (kd l t) q=((aV.oV t (cg l q,cj l q) (dY l true)).1&&!(aV.oV t (cg l q,cj l q) (dY l false)).1):=by
 have a:t.dJ λm=>ch m=true/\(Û m l≠0->Ø m l≠q):=by
  induction t with
  | leaf=>trivial
  | node m x y E F=>exact ⟨⟨D.1,λh g=>z (g▸hc.1 h)⟩,E hc.2.1 D.2.1,F hc.2.2 D.2.2⟩
 have one:∀e,í (Ú 1 (bh l e t bT) []) q=(aV.oV t (cg l q,cj l q) (dY l e)).1:=λe=>by
  rw [comb_inB 1 _ _ (λh=>by
   have ⟨u,hu,h⟩:=eU.1 h;rw [þ] at hu;exact z (((N5 hc).1 u hu).2 q h)),vD ol lf a]
  simp [Ğ,í,Pm]
 unfold kd
 rw [comb_inB 3 _ _ (λh=>by
  have ⟨u,hu,h⟩:=eU.1 h;rcases ø.1 hu with hu|hu
  ·exact z (nN hc (e:=true) q (eU.2 ⟨u,hu,h⟩))
  ·exact z (nN hc (e:=false) q (eU.2 ⟨u,hu,h⟩))),one,one]
 rfl
theorem WR {q r:Rat}(h:∀x∈P,(x<q↔x<r)/\(q<x↔r<x))(v:Rat×Rat):aV.oV t (cg l q,cj l q) v=aV.oV t (cg l r,cj l r) v:=by
 induction t with
 | leaf=>rfl
 | node m x y D E=>
  have i:(aC m (cg l q) (cj l q)).num.sign=(aC m (cg l r) (cj l r)).num.sign:=by rw [jY,jY];by_cases f:Û m l=0;{rw [f];congr 2;grind};{have ⟨j,n⟩:=h _ (hc.1 f);have g:∀z,jB m l+Û m l*z=Û m l*(z-Ø m l):=λz=>by{unfold Ø;grind};rw [g,g];generalize Ø m l=p at *;have key:∀k z:Rat,k≠0->((k*z).num.sign=if 0<k then z.num.sign else -z.num.sign):=λk z F=>by{rcases bW k with ⟨a,_⟩|⟨a,_⟩|⟨a,_⟩;{exact Å a F};{rw [Ä a];rcases bW z with ⟨b,d⟩|⟨b,d⟩|⟨b,d⟩<;>rcases bW (k*z) with ⟨c,u⟩|⟨c,u⟩|⟨c,u⟩<;>rw [d,u]<;>exfalso;{rw [b] at c;grind};{rw [b] at c;grind};{have:=ĩ a b;grind};{have:=ĩ a b;grind};{have:=ĩ a (show 0< -z by grind);grind};{have:=ĩ a (show 0< -z by grind);grind}};{rw [Ã χ];have e:0< -k:=χ;(rcases bW z with ⟨b,d⟩|⟨b,d⟩|⟨b,d⟩<;>rcases bW (k*z) with ⟨c,u⟩|⟨c,u⟩|⟨c,u⟩<;>rw [d,u]<;>first|rfl|exfalso);{rw [b] at c;grind};{rw [b] at c;grind};{have:=ĩ e b;grind};{have:=ĩ e b;grind};{have:=ĩ e (show 0< -z by grind);grind};{have:=ĩ e (show 0< -z by grind);grind}}};grind [bW]}
  unfold aV.oV aV.J3;rw [i,D hc.2.1,E hc.2.2]
theorem VX (ol:ch l=true)(z:t.dJ λm=>ch m=true)(u:asc P){ms:zA md}(hm:ms=(aX P).map λx=>(aV.oV t (cg l x,cj l x) (dY l true)).1&&!(aV.oV t (cg l x,cj l x) (dY l false)).1):qm P ms=kd l t:=by have f:ms.length=P.length+1:=by{rw [hm,ĉ,dZ]};have F:=fi (ms:=ms) u (Ù (P.length+1));have rg:tu (qm P ms):=by{unfold qm;rw [f];exact F.r};refine reg_eq P rg (comb_reg _ _ _) λq c=>?_;rw [XR hc ol z c];have mk:∀j,j<=P.length->(dF P j).inn q->ms.getD j false=((aV.oV t (cg l q,cj l q) (dY l true)).1&&!(aV.oV t (cg l q,cj l q) (dY l false)).1):=λj b a=>by{have g:=JL u b;rw [hm,Ė,Qt0,ñ (by rw [dZ];omega)];have e:(aX P)[j]'(by rw [dZ];omega)=(aX P).getD j 0:=by{rw [Ė,ñ (by rw [dZ];omega)];rfl};simp only [Ww2,Qf6,e];have T:=λv=>WR hc (λx h=>⟨(lg u b g a h).1,(lg u b g a h).2.1⟩) v;rw [T,T]};refine zW ?_;unfold qm;rw [f,kq,F.mem q c];constructor;{rintro ⟨j,b,d,k⟩;rw [<-mk j ω k];exact d};{intro d;have ⟨i,n,a⟩:=R4 u c;exact ⟨i,ω,by rw [mk i n a];exact d,a⟩}
end
end
section
variable{v:Value}{V:Ó}{c k n:Nat}{vs:List Value}{A B l ss:List Sp}{p q:OA}{x1 x2 y1 y2:Int}
theorem Sw (V:ut):V.Le V.shut:=λ_ _ h=>h
def dC:oZ:=(0,0,0)
def cC (a b:oZ):Int:=cY a.1 b.1
theorem ordC:Ō cC:=⟨λa b h=>by unfold cC at *;rcases ct a.1 b.1 with ⟨c,e⟩|⟨c,e⟩|⟨c,e⟩<;>rcases ct b.1 a.1 with ⟨z,u⟩|⟨z,u⟩|⟨z,u⟩<;>rw [e] at h<;>rw [u]<;>grind,
 λa b d h f=>by unfold cC at *;rcases ct a.1 b.1 with ⟨c,e⟩|⟨c,e⟩|⟨c,e⟩<;>rcases ct b.1 d.1 with ⟨z,u⟩|⟨z,u⟩|⟨z,u⟩<;>rcases ct a.1 d.1 with ⟨E,D⟩|⟨E,D⟩|⟨E,D⟩<;>rw [e] at h<;>rw [u] at f<;>rw [D]<;>grind⟩
def RC (V:Ó)(v:Value)(c:oZ):Prop:=∃(x y:Int)(p:OA),v=.agg #[.int .i64 x,.int .i64 y,.pointer p,.int .i64 c.2.1,.int .i64 c.2.2]/\RR V (.agg #[.int .i64 x,.int .i64 y,.pointer p]) c.1/\Sz 1000000 c.1
theorem RC.le {V V':ut}{c:oZ}(h:RC V v c)(l:V.Le V'):RC V' v c:=by obtain ⟨x,y,p,e,b,a⟩:=h;exact ⟨x,y,p,e,ra,a⟩
theorem RC.shape {c:oZ}(h:RC V v c):∃(x y:Int)(p:OA)(a b:Int),v=qvK #[Ô .i64 x,Ô .i64 y,qyQ p,Ô .i64 a,Ô .i64 b]:=by obtain ⟨x,y,p,e,-⟩:=h;exact ⟨x,y,p,_,_,e⟩
theorem OU {w:un}{a b:oZ}(h:RC V v a)(u:RC V w b):À 280 #[v,w] V λr W=>r=Ô .i64 (cC a b):=by obtain ⟨x,y,p,rfl,f,d⟩:=h;obtain ⟨g,i,j,rfl,e,c⟩:=u;refine CO V _ λk l=>(jg ra ra d c).s ?_;rintro r V2 m rfl;exact ⟨_,rfl,λn o=>rfl⟩
structure SR (V:Ó) (n:Nat) (vs:List Value) (l:List oZ):Prop where
 row:é 5 RC V vs l
 len:n=l.length
 kj:l.length<4000
theorem SR.le {V V':ut}{l:zA oZ}(h:SR V n vs l)(e:V.Le V'):SR V' n vs l:=⟨h.row.le λ_ _ g=>RC.le g e,h.len,h.kj⟩
theorem SR.get {l:zA oZ}(h:SR V n vs l){k:Nat}(u:k<l.length):∃(x y:Int)(p:OA)(a b:Int),((0+k*5)+5<=vs.length/\(vs.drop (0+k*5)).take 5=[Ô .i64 x,Ô .i64 y,qyQ p,Ô .i64 a,Ô .i64 b])/\RC V (qvK #[Ô .i64 x,Ô .i64 y,qyQ p,Ô .i64 a,Ô .i64 b]) (l.getD k dC):=by obtain ⟨xs,-,c,f,g⟩:=h.row.get (d:=dC) u φ;obtain ⟨x,y,p,a,b,e⟩:=c.shape;have e:=Æ Array.toList (Value.agg.inj e);subst e;rw [Ĉ];exact ⟨x,y,p,a,b,⟨f,g⟩,c⟩
theorem RC.cells {c:oZ}(h:RC V v c):∃xs:zA un,v=.agg xs.toArray/\xs.length=5/\∀x∈xs,x.oneCell'=true:=by obtain ⟨_,_,_,_,_,rfl⟩:=h.shape;exact ⟨_,rfl,rfl,ĥ.1 rfl⟩
theorem Lb {lb:Nat}{l:zA oZ}(hw:V.w.heap[lb]?=some (.cells vs.toArray 360 (0,0)))(z:V.X lb)(h:SR V n vs l):À 279 #[dB (some ⟨lb,0,none⟩) n c,.func (.func 280) #[] #[]] V λr W=>r=æ #[]/\∃u l',W.w.heap[lb]?=some (.cells u.toArray 360 (0,0))/\SR W n u l'/\l'.Perm l/\l'.Pairwise λx y=>x.1<=y.1:=by have kj:=h.kj;refine (Cp (R:=RC) (cf:=cC) FH aggC sizC RC.le RC.cells ordC OU φ hw z h.row h.len).s λr V' i ⟨rfl,u,l',e,row,pm,g⟩=>⟨rfl,u,l',e,⟨row,h.len.m pm.length_eq.symm,by rw [pm.length_eq];exact kj⟩,pm,g.imp λ{a b} d=>?_⟩;unfold cC at d;rcases ct b.1 a.1 with ⟨f,e⟩|⟨f,e⟩|⟨f,e⟩<;>rw [e] at d<;>grind
theorem AG:À 279 #[dB none 0 0,.func (.func 280) #[] #[]] V λr W=>r=æ #[]:=
 (rZ FH).s λ_ _ _ h=>h.1
def pR (m:Nat):Prop:=∀(V:Ó)(lb n c:Nat)(vs:List Value)(l:List oZ),l.length=m->V.w.heap[lb]?=some (.cells vs.toArray 360 (0,0))->V.X lb->SR V n vs l ->
 À 279 #[.slice (some ⟨lb,0,none⟩) n c,.func (.func 280) #[] #[]] V λr W=>r=.tuple #[]/\∃u l',W.w.heap[lb]?=some (.cells u.toArray 360 (0,0))/\SR W n u l'/\l'.Perm l/\l'.Pairwise λx y=>x.1<=y.1
theorem xJ (m:Nat):pR m:=λ_ _ _ _ _ _ _ hw a h=>Lb hw a h
theorem E6 {V:ut}{u z D:Nat}{x y:Int}{acc:md->md->md}(hw:V.w.heap[u]?=some (.cells #[.func (.func D) #[] #[]] 318 (0,0)))(M:V.X u)(E:V.w.heap[z]?=some (.cells #[Ô .i64 x,Ô .i64 y] 358 (0,0)))(F:V.X z)(hne:u≠z)(N:∀a b (W:ut),À D #[Õ a,Õ b] W λr _=>r=Õ (acc a b)):À 281 #[qyQ (some ⟨u,0,none⟩),qyQ (some ⟨z,0,none⟩)] V λr W=>r=Õ (acc (decide ((0:Int)<x)) (decide ((0:Int)<y)))/\W.w.heap[u]?=some (.cells #[.func (.func D) #[] #[]] 318 (0,0))/\W.w.heap[z]?=some (.cells #[Ô .i64 x,Ô .i64 y] 358 (0,0)):=by refine CP u z D x y V _ hw M E F hne ⟨φ,φ,λc f=>(N _ _ c).s ?_⟩;rintro r V2 g rfl;exact ⟨_,rfl,λh i d e=>⟨rfl,d,e⟩⟩
def NY (A:List Sp)(k:Nat)(m:Int):List Value:=if k=0 then [.int .i64 m,.int .i64 0] else if k=1 then [.int .i64 (mY A),.int .i64 m] else []
theorem Wa {m:Int}(u:k<2):(NY A k m)[0+k*1]?=some (Ô .i64 m):=by obtain rfl|rfl:k=0\/k=1:=ω;{rfl};{rfl}
theorem Wb {m:Int}(u:k<2):(NY A k m).length=2:=by obtain rfl|rfl:k=0\/k=1:=ω;{rfl};{rfl}
theorem Wc {m u:Int}(z:k<2):(NY A k m).set (0+k*1) (Ô .i64 u)=NY A k u:=by obtain rfl|rfl:k=0\/k=1:=ω;{rfl};{rfl}
theorem VY {a b:zA Sp}:mY (a++b)=mY a+mY b:=by
 induction a with
 | nil=>simp [mY]
 | cons s r u=>simp only [Qc2,mY];omega
theorem G1:∀{a:zA Sp},0<=mY a/\mY a<=a.length
 | []=>⟨Wx3 _,Wx3 _⟩
 | s::r=>by
  have ⟨u,z⟩:=G1 (a:=r);simp only [mY,Ą];split<;>omega
theorem U4 {c:oZ}:c∈qg A B->(c.2.1=0\/c.2.1=1)/\(c.2.2=1\/c.2.2=-1):=by intro h;have one:∀{k:Int} {s:Sp},c∈jS k s->c.2.1=k/\(c.2.2=1\/c.2.2=-1):=λ{k s} h=>by{rcases ø.1 h with h|h;{split at h;{cases h};{rw [ö.1 h];exact ⟨rfl,.inl rfl⟩}};{split at h;{cases h};{rw [ö.1 h];exact ⟨rfl,.inr rfl⟩}}};rcases ø.1 h with h|h<;>grind
theorem Hp {k:Int}:∀{l:zA oZ},(∀c∈l,c.2.2=1\/c.2.2=-1)->-(l.length:Int)<=iD k l/\iD k l<=l.length
 | [],_=>⟨Wx3 _,Wx3 _⟩
 | c::r,h=>by
  have ⟨u,z⟩:=Hp (k:=k) (l:=r) λx a=>h x (by simp [a]);have:=h c ψ;simp only [iD,Ą];split<;>omega
def JF (A B:List Sp)(l:List oZ):List Value:=[.int .i64 (mY A+iD 0 l),.int .i64 (mY B+iD 1 l)]
def ZH (A B:List Sp)(l:List oZ)(k:Int):Int:=if k=0 then mY A+iD 0 l else mY B+iD 1 l
theorem We {l:zA oZ}{k:Int}(u:k=0\/k=1):(JF A B l)[0+k.toNat*1]?=some (Ô .i64 (ZH A B l k)):=by rcases u with rfl|rfl<;>rfl
theorem Wf {l:zA oZ}{c:oZ}(u:c.2.1=0\/c.2.1=1):(JF A B l).set (0+c.2.1.toNat*1) (Ô .i64 (ZH A B l c.2.1+c.2.2))=JF A B (l++[c]):=by unfold JF ZH;rw [Cw,Cw];simp only [iD];rcases u with h|h<;>rw [h];{simp [Int.add_assoc]};{simp [Int.add_assoc]}
structure CR (V:Ó) (n c:Nat) (vs:List Value) (l:List oZ):Prop where
 len:n=l.length
 le:n<=c
 cap:c*5<=vs.length
 row:é 5 RC V vs l
 ne:vs≠[]->l≠[]
theorem CR.snoc {l:zA oZ}(h:CR V n c vs l){x y:Int}{q:Rat}(z:RR V (qvK #[Ô .i64 x,Ô .i64 y,qyQ p]) q)(D:Sz 1000000 q)(k d:Int){sp:zA un}{u:Nat}(E:n+1<=u)(F:u*5<=(n+1)*5+sp.length):CR V (n+1) u (vs.take (n*5)++([Ô .i64 x,Ô .i64 y,qyQ p,Ô .i64 k,Ô .i64 d]:zA un)++sp) (l++[(q,k,d)]):=by have b:=h.len;have hc:=h.cap;have e:=h.le;refine ⟨by rw [ë,b];rfl,E,?_,?_,λ_=>ψ⟩;{have f:(vs.take (n*5)).length=n*5:=by{rw [è];omega};grind};{have:=h.row.snoc (sp:=sp) (xs:=[Ô .i64 x,Ô .i64 y,qyQ p,Ô .i64 k,Ô .i64 d]) (a:=(q,k,d)) rfl ⟨x,y,p,rfl,z,D⟩ φ;grind}
structure IR (V:Ó) (n c:Nat) (vs:List Value) (l:List Sp):Prop where
 len:n=l.length
 le:n<=c
 cap:c*8<=vs.length
 row:é 8 f_ V vs l
theorem IR.s {V':ut}(h:IR V n c vs l)(e:V.Le V'):IR V' n c vs l:=⟨h.len,h.le,h.cap,h.row.le λ_ _ g=>f_.le g e⟩
theorem IR.nil {V:ut}:IR V 0 0 [] []:=⟨rfl,Ù _,Ù _,é.nil⟩
theorem IR.snoc (h:IR V n c vs l){s:Sp}(D:RR V (qvK #[Ô .i64 x1,Ô .i64 x2,qyQ p]) s.lo)(u:RR V (qvK #[Ô .i64 y1,Ô .i64 y2,qyQ q]) s.hi){sp:zA un}{z:Nat}(E:n+1<=z)(F:z*8<=(n+1)*8+sp.length):IR V (n+1) z (vs.take (n*8)++([Ô .i64 x1,Ô .i64 x2,qyQ p,Ô .i64 y1,Ô .i64 y2,qyQ q,Õ s.a,Õ s.b]:zA un)++sp) (l++[s]):=by have d:=h.len;have hc:=h.cap;have e:=h.le;refine ⟨by rw [ë,d];rfl,E,?_,?_⟩;{have f:(vs.take (n*8)).length=n*8:=by{rw [è];omega};grind [List.length_cons]};{have:=h.row.snoc (sp:=sp) (xs:=[Ô .i64 x1,Ô .i64 x2,qyQ p,Ô .i64 y1,Ô .i64 y2,qyQ q,Õ s.a,Õ s.b]) (a:=s) rfl ⟨_,_,_,_,_,_,rfl,D,u⟩ φ;grind}
theorem one5 {x y:Int}{a b:Int}:∀v∈([Ô .i64 x,Ô .i64 y,qyQ p,Ô .i64 a,Ô .i64 b]:zA un),v.oneCell'=true:=by intro v hm;simp only [ê,ę,Ì] at hm;rcases hm with rfl|rfl|rfl|rfl|rfl<;>rfl
theorem one8 {a b:md}:∀v∈([Ô .i64 x1,Ô .i64 x2,qyQ p,Ô .i64 y1,Ô .i64 y2,qyQ q,Õ a,Õ b]:zA un),v.oneCell'=true:=by intro v hm;simp only [ê,ę,Ì] at hm;rcases hm with rfl|rfl|rfl|rfl|rfl|rfl|rfl|rfl<;>rfl
def LK (A B:List Sp)(k:Nat):List Sp:=if k=0 then A else B
def W_ (A B:List Sp)(k:Nat):List oZ:=if k=0 then [] else if k=1 then A.flatMap (jS 0) else qg A B
def osA (A B:List Sp)(k:Nat):List Value:=if k=2 then JF A B [] else NY A k 0
theorem Ir {A B:zA Sp}(u:k<2):W_ A B k++(LK A B k).flatMap (jS k)=W_ A B (k+1):=by obtain rfl|rfl:k=0\/k=1:=ω;{rfl};{rfl}
theorem Tf (u:k<2):NY A k (mY (LK A B k))=osA A B (k+1):=by obtain rfl|rfl:k=0\/k=1:=ω;{rfl};{simp [NY,osA,JF,LK,iD]}
theorem Zv {b:Nat}(h:0<c):mA b c=some ⟨b,0,none⟩:=by unfold mA;rw [Ã ω]
theorem Pk {f:Sp->zA oZ}{j:Nat}(h:j<l.length):(l.take (j+1)).flatMap f=(l.take j).flatMap f++f l[j]:=by rw [Ĭ,ñ h,ŧ];simp
theorem Ta {j:Nat}(h:j<l.length):mY (l.take (j+1))=mY (l.take j)+if l[j].a then 1 else 0:=by rw [Ĭ,ñ h,VY];simp [mY]
theorem UR {A B:zA Sp}{k j:Nat}(u:k<2):(W_ A B k++((LK A B k).take j).flatMap (jS k)).length<=fe A+fe B:=by have b:((LK A B k).flatMap (jS k)).length=(((LK A B k).take j).flatMap (jS k)).length+(((LK A B k).drop j).flatMap (jS k)).length:=by{grind [List.take_append_drop]};have a:=Æ List.length (Ir (A:=A) (B:=B) u);rw [ë] at a;have c:(W_ A B (k+1)).length<=(qg A B).length:=by{obtain rfl|rfl:k=0\/k=1:=ω;{unfold qg;rw [ë];exact Qp9 _ _};{exact Ù _}};grind [Gr]
theorem WE {acc:md->md->md}{cs:zA oZ}{was:md}{last:Sp}{out:zA Sp}(h:W0 acc A B cs cs.length was last out){op:Int}(u:∀t,acc (í A t) (í B t)=Ğ op (í A t) (í B t)):Cz was last out=Ú op A B:=by refine reg_eq (à (A++B)) h.rg (comb_reg _ _ _) λt a=>?_;rw [comb_inB _ _ _ a,h.inn t (λs b he=>a (eU.2 ⟨s,b,he⟩)) λh=>Å h (Wq9 _)];exact u t
theorem IK {p0 p1:OA}{n0 c0 n1 c1 fa:Nat}{op:Int}{acc:md->md->md}(hacc:∀t,acc (í A t) (í B t)=Ğ op (í A t) (í B t))(hA:bo 8 f_ V p0 n0 A)(hB:bo 8 f_ V p1 n1 B)(gA:∀s∈A,s.good)(gB:∀s∈B,s.good)(sA:∀s∈A,s.sz 1000000)(sB:∀s∈B,s.sz 1000000)(nA:A.length<=1000)(nB:B.length<=1000)(kj:fe A+fe B<200)(so:pR (fe A+fe B))(hf:∀a b (W:ut),À fa #[Õ a,Õ b] W λr _=>r=Õ (acc a b)):À 229 #[qvK #[dB p0 n0 c0,dB p1 n1 c1],.func (.func fa) #[] #[]] V λr W=>∃q m e,r=dB q m e/\bo 8 f_ W q m (Ú op A B):=by
 obtain rfl:=hA.len;obtain rfl:=hB.len
 refine HD p0 _ c0 p1 _ c1 fa V _ ⟨λz V'=>∃k:Nat,z.2.2.2.1=(k:Int)/\k<=2/\CR V' z.1 z.2.1 z.2.2.1 (W_ A B k)/\z.2.2.2.2=osA A B k,λz=>2-z.2.2.2.1.toNat,
  ⟨(0,0,[],0,[Ô .i64 0,Ô .i64 0]),σ,0,rfl,φ,⟨rfl,Ù _,Ù _,é.nil,λh=>Å rfl h⟩,rfl⟩,?_⟩
 rintro ⟨z1,z2,vs,z4,os⟩ V1 l1 ⟨k,e4,d2,hc,I⟩;dsimp only at e4 hc I;subst e4 I;dsimp only;refine ⟨rfl,λK=>?_,λK=>?_⟩
 ·have K:=Á K;have hk:k<2:=ω
  have S:i64.wrap ((k:Int)+1)=((k+1:Nat):Int):=by rw [ao ω];rfl
  rw [S,Ü]
  obtain ⟨p,n,c,el,hL⟩:∃p n c,([(p0,A.length,c0),(p1,B.length,c1)]:zA (OA×Nat×Nat)).getD k (none,0,0)=(p,n,c)/\bo 8 f_ V p n (LK A B k):=by obtain rfl|rfl:k=0\/k=1:=ω;{exact ⟨_,_,_,rfl,hA⟩};{exact ⟨_,_,_,rfl,hB⟩}
  rw [el];dsimp only
  have c2:(∀s∈LK A B k,s.sz 1000000)/\(LK A B k).length<=1000:=by obtain rfl|rfl:k=0\/k=1:=ω;{exact ⟨sA,nA⟩};{exact ⟨sB,nB⟩}
  obtain ⟨sL,nL⟩:=c2;obtain rfl:=hL.len
  refine ⟨⟨ω,ω⟩,λz V'=>∃j:Nat,z.2.2.2.1=(j:Int)/\j<=(LK A B k).length/\CR V' z.1 z.2.1 z.2.2.1 (W_ A B k++((LK A B k).take j).flatMap (jS k))/\z.2.2.2.2=NY A k (mY ((LK A B k).take j)),λz=>(LK A B k).length-z.2.2.2.1.toNat,
   ⟨(z1,z2,vs,0,osA A B k),σ,0,rfl,á _,by simpa using hc,by rw [Qd2];unfold osA;rw [Ã ω];rfl⟩,?_⟩
  rintro ⟨S,w2,us,w4,os⟩ V2 l2 ⟨j,e4,qA,E,I⟩;dsimp only at e4 E I;subst e4 I;dsimp only;refine ⟨rfl,λhj=>?_,λhj=>?_⟩
  ·have hj:=Á hj;have O:j<(LK A B k).length:=ω
   have w3:i64.wrap ((j:Int)+1)=((j+1:Nat):Int):=by rw [ao ω];rfl
   rw [Ü,w3];obtain ⟨ad,ha,xs,-,hv,D⟩:=(hL.le au λ_ _ g=>f_.le g (l1.m l2)).at_ j O;obtain ⟨x1,x2,q,y1,y2,q',ex,T,r2⟩:=hv;have ex:=Æ Array.toList (Value.agg.inj ex);dsimp only at ex;subst ex;have hs:=sL _ (ó O);have ft:=Pk (f:=jS (k:Int)) O;have ot:=Ta O;have ob:=G1 (a:=(LK A B k).take j);rw [è] at ob;have cn:=E.len;have bl:=UR (A:=A) (B:=B) (j:=j) hk;rw [<-cn] at bl;have c1:jS (k:Int) (LK A B k)[j]=(if (LK A B k)[j].a then [] else [((LK A B k)[j].lo,(k:Int),1)])++(if (LK A B k)[j].b then [] else [((LK A B k)[j].hi,(k:Int),-1)]):=rfl;rw [c1] at ft;generalize (LK A B k)[j]=s at *
   refine ⟨aK ha,⟨ω,ω⟩,_,_,_,_,_,_,_,_,ad,ha,D 0 _ rfl,D 1 _ rfl,D 2 _ rfl,D 3 _ rfl,D 4 _ rfl,D 5 _ rfl,D 6 _ rfl,D 7 _ rfl,
    λz V'=>CR V' z.1 z.2.1 z.2.2.1 (W_ A B k++((LK A B k).take j).flatMap (jS k)++(if s.a then [] else [(s.lo,(k:Int),1)]))/\z.2.2.2=NY A k (mY ((LK A B k).take (j+1))),⟨λhb=>?_,λhb=>?_⟩,?_⟩
   ·rw [hb,Ä rfl] at ot;rw [hb,Ä rfl,þ];refine ⟨⟨ω,ω⟩,_,Wa hk,⟨ω,ω⟩,by rw [Wb hk];omega,(S,w2,us,NY A k (mY ((LK A B k).take (j+1)))),?_,E,rfl⟩;have e:(NY A k (mY ((LK A B k).take j))).set (0+k*1) (Ô .i64 (i64.wrap (mY ((LK A B k).take j)+1)))=NY A k (mY ((LK A B k).take (j+1))):=by{rw [Wc hk,ao ω,ot]};(and_intros<;>first|rfl|exact e)
   ·rw [hb,Ã φ,Wy0] at ot;rw [hb,Ã φ];refine ⟨ω,E.le,E.cap,rfl,one5,λsp c' C P=>⟨(S+1,c',_,NY A k (mY ((LK A B k).take j))),σ,E.snoc T hs.1 _ _ C P,by dsimp only;rw [ot]⟩⟩
   ·rintro ⟨k1,k2,ks,os⟩ V3 l3 ⟨F,I⟩;dsimp only at F I;subst I;dsimp only;have d3:k1<=S+1:=by{rw [F.len,cn,ë];split<;>simp};refine ⟨rfl,λz V'=>CR V' z.1 z.2.1 z.2.2 (W_ A B k++((LK A B k).take (j+1)).flatMap (jS k)),⟨λhb=>?_,λhb=>?_⟩,?_⟩;{have hb:s.b=false:=by{simpa using hb};simp only [hb] at ft;rw [ft,<-Ĕ,<-Ĕ];refine ⟨ω,F.le,F.cap,rfl,one5,λsp c' C P=>⟨(k1+1,c',_),σ,F.snoc ra hs.2 _ _ C P⟩⟩};{have hb:s.b=true:=by{simpa using hb};simp only [hb,Ï,þ] at ft;rw [ft,<-Ĕ];exact ⟨(k1,k2,ks),σ,F⟩};{rintro ⟨N,U,ms⟩ V4 l4 a3;dsimp only at a3;exact ⟨rfl,(N,U,ms,((j+1:Nat):Int),_),by dsimp only;omega,σ,j+1,rfl,ω,a3,rfl⟩}
  ·have hj:=Â hj;obtain rfl:j=(LK A B k).length:=ω;rw [ď] at *;refine ⟨(S,w2,us,((k+1:Nat):Int),NY A k (mY (LK A B k))),by dsimp only;omega,σ,k+1,rfl,ω,?_,Tf hk⟩;rw [<-Ir hk];exact E
 have K:=Â K;obtain rfl:k=2:=ω
 have hc:CR V1 z1 z2 vs (qg A B):=hc;have cl:(qg A B).length<4000:=by rw [Gr];omega
 have c3:=hc.len;have d4:=hc.le;rw [show osA A B 2=JF A B [] from rfl];have J:∀l:zA oZ,JF A B l≠[]:=λl h=>by cases h
 refine ⟨λz V'=>∃cs:zA oZ,SR V' z1 z cs/\cs.Perm (qg A B)/\cs.Pairwise (λx y=>x.1<=y.1),⟨λh0=>?_,λh0 V7 l7 bk e7 h7=>?_⟩,?_⟩
 ·subst h0;have C:=hc.cap;rw [İ] at C;obtain rfl:z2=0:=ω;obtain rfl:z1=0:=ω;have a4:qg A B=[]:=List.eq_nil_of_length_eq_zero ω;exact ⟨rfl,λV5 l5=>AG.s λr V6 l6 hr=>⟨hr,[],σ,[],⟨é.nil,rfl,ψ⟩,by rw [a4],List.Pairwise.nil⟩⟩
 ·have d5:=Qh2.2 (hc.ne h0);rw [pC h0,Zv (show 0<z2 by omega)];refine (so (V7.ar [bk]) bk _ _ _ (qg A B) Gr (e7 h0) ⟨ψ,h7 h0⟩ ⟨hc.row.le λ_ _ g=>RC.le g λb o h=>l7 b o h,c3,cl⟩).s λr V8 l8 ⟨rfl,a5,cs,e8,a6,hp,M⟩=>⟨rfl,h0,a5,λe=>?_,e8,a5,σ,cs,a6.le (Sw _),hp,M⟩;have C:=a6.row.eM φ;rw [e,hp.length_eq,İ] at C;omega
 rintro d6 V9 l9 ⟨cs,a7,hp,M⟩;have zl:=a7.len;have a1:=λc (h:c∈cs)=>U4 (hp.mem_iff.1 h);refine ⟨rfl,λfo c4 ab ob ea ha I ho c5=>?_⟩;rw [pC (J [])];refine (E6 (V:=fo.ar [ab,ob]) (x:=mY A+iD 0 []) (y:=mY B+iD 1 []) (acc:=acc) ea ⟨ψ,ha⟩ (I (J _)) ⟨ψ,ho (J _)⟩ (c5 (J _)) hf).s ?_;rintro r fg dy ⟨rfl,e1,e2⟩
 refine ⟨_,rfl,e1,J _,JF A B [],J _,e2,λz V'=>∃(i:Nat)(last:Sp)(out:zA Sp),z.2.2.2.2.1=(i:Int)/\i<=cs.length/\out.length<=i/\W0 acc A B cs i z.2.2.2.1 last out/\z.2.2.2.2.2.1=JF A B (cs.take i)/\IR V' z.1 z.2.1 z.2.2.1 out /\
   RR V' (qvK #[Ô .i64 z.2.2.2.2.2.2.1,Ô .i64 z.2.2.2.2.2.2.2.1,qyQ z.2.2.2.2.2.2.2.2.1]) last.lo/\RR V' (qvK #[Ô .i64 z.2.2.2.2.2.2.2.2.2.1,Ô .i64 z.2.2.2.2.2.2.2.2.2.2.1,qyQ z.2.2.2.2.2.2.2.2.2.2.2.1]) last.hi/\last.a=z.2.2.2.2.2.2.2.2.2.2.2.2.1/\last.b=z.2.2.2.2.2.2.2.2.2.2.2.2.2,
  λz=>cs.length-z.2.2.2.2.1.toNat,⟨(0,0,[],_,0,JF A B [],0,0,none,0,0,none,true,false),σ,0,⟨0,0,true,false⟩,[],rfl,á _,á _,T3 (acc:=acc) (by show acc (decide ((0:Int)<mY A+0)) (decide ((0:Int)<mY B+0))=_;rw [Wy0,Wy0]) hp gA gB M,rfl,IR.nil,RR.zero _,RR.zero _,rfl,rfl⟩,?_⟩
 rintro ⟨N,U,us,d,iz,ov,x1,x2,p,y1,y2,q,la,lb⟩ gT dX ⟨i,last,out,e5,NB,oi,hI,a8,v,T,r2,f1,f2⟩;dsimp only at e5 hI a8 v T r2 f1 f2;subst e5 a8 f1 f2;dsimp only;have ml:=v.len;refine ⟨rfl,λhi=>?_,λhi=>?_⟩
 ·have hi:=Á hi;have G:i<cs.length:=ω
  have X:=a7.le λb o h=>dX b o (dy b o (c4 b o h));have gd:∀j (h:j<cs.length),cs.getD j dC=cs[j]:=λj h=>by rw [Ė,ñ h];rfl
  have ⟨x,y,pp,a,b,g,x',y',p',ev,hr,a9⟩:=X.get G;rw [gd i G] at ev hr a9;rw [Ĉ] at g;have ev:=Æ Array.toList (Value.agg.inj ev);simp only [Í] at ev;obtain ⟨rfl,rfl,rfl,rfl,rfl⟩:=ev;have ⟨ck,cd⟩:=a1 _ (ó G);have S:i64.wrap ((i:Int)+1)=((i+1:Nat):Int):=by rw [ao ω];rfl
  have tk:cs.take (i+1)=cs.take i++[cs[i]]:=by rw [Ĭ,ñ G];rfl
  have b6:(JF A B (cs.take i)).set (0+cs[i].2.1.toNat*1) (Ô .i64 (i64.wrap (ZH A B (cs.take i) cs[i].2.1+cs[i].2.2)))=JF A B (cs.take (i+1)):=by have b1:=G1 (a:=A);have b2:=G1 (a:=B);have b3:=Hp (k:=0) (l:=cs.take i) λc hc=>(a1 c (Qb3 hc)).2;have b4:=Hp (k:=1) (l:=cs.take i) λc hc=>(a1 c (Qb3 hc)).2;rw [è] at b3 b4;have b5:-9000<=ZH A B (cs.take i) cs[i].2.1/\ZH A B (cs.take i) cs[i].2.1<=9000:=by{unfold ZH;split<;>omega};rw [ao ω,Wf ck,tk]
  rw [S,Ü,Ü];refine ⟨⟨ω,ω⟩,ω,x,y,pp,_,_,g,⟨ω,ω⟩,_,We ck,⟨ω,ω⟩,by rw [show (JF A B (cs.take i)).length=2 from rfl];omega,?_⟩;rw [b6];refine ⟨λt V'=>(t=true->∃h:i+1<cs.length,cs[i].1=cs[i+1].1)/\(t=false->∀h:i+1<cs.length,cs[i].1<cs[i+1].1),⟨λC=>?_,λC=>?_⟩,?_⟩
  ·have C:=Á C;have Q:i+1<cs.length:=ω;have ⟨u,w,pw,a',b',g',x',y',p',R,c6,Y⟩:=X.get Q;rw [gd _ Q] at c6 Y;rw [Ĉ] at g';have R:=Æ Array.toList (Value.agg.inj R);simp only [Î] at R;obtain ⟨rfl,rfl,rfl,-⟩:=R;refine ⟨⟨ω,ω⟩,ω,u,w,pw,⟨ω,?_⟩,λiL dS=>(ni ra ra Y a9 φ).s ?_⟩;{have:∀l:zA un,l.take 3=(l.take 5).take 3:=λl=>by{rw [Qt3];rfl};rw [this,ě,g'.2];rfl};{rintro r lR gj rfl;refine ⟨_,rfl,_,σ,λh=>⟨Q,Eq.symm (Á h)⟩,λh _=>?_⟩;have h:=Â h;have:=Qm2.1 M i (i+1) G Q ω;grind}
  ·have C:=Â C;exact ⟨false,σ,π,λ_ h=>Å h ω⟩
  rintro t lS gC ⟨ht,c7⟩;refine ⟨rfl,λe=>?_,λe kH fy c8 c9 ea ha I ho b7=>?_⟩
  ·obtain ⟨C,P⟩:=ht e;exact ⟨(N,U,us,d,((i+1:Nat):Int),JF A B (cs.take (i+1)),x1,x2,p,y1,y2,q,last.a,last.b),by dsimp only;omega,σ,i+1,last,out,rfl,ω,ω,WG hI C P,rfl,v.s gC,T.le gC,ra,rfl,rfl⟩
  rw [pC (J _)];refine (E6 (V:=kH.ar [c8,c9]) (x:=mY A+iD 0 (cs.take (i+1))) (y:=mY B+iD 1 (cs.take (i+1))) (acc:=acc) ea ⟨ψ,ha⟩ (I (J _)) ⟨ψ,ho (J _)⟩ (b7 (J _)) hf).s ?_;rintro r lT ij ⟨rfl,d0,d1⟩;have st:=WH hI G (c7 e) hp gA gB M rfl;generalize acc (decide ((0:Int)<mY A+iD 0 (cs.take (i+1)))) (decide ((0:Int)<mY B+iD 1 (cs.take (i+1))))=now at st ⊢;have L:gT.Le lT.shut:=λb o h=>ij b o (fy b o (gC b o h))
  have same:now=d->IR lT.shut N U us (Cy d now last cs[i].1 out)/\RR lT.shut (qvK #[Ô .i64 x1,Ô .i64 x2,qyQ p]) (lL d now last cs[i].1).lo/\RR lT.shut (qvK #[Ô .i64 y1,Ô .i64 y2,qyQ q]) (lL d now last cs[i].1).hi /\
    last.a=(lL d now last cs[i].1).a/\last.b=(lL d now last cs[i].1).b:=λh=>by
   subst h;unfold Cy lL;cases now<;>exact ⟨v.s L,T.le L,r2.le L,rfl,rfl⟩
  refine ⟨_,rfl,d0,J _,JF A B (cs.take (i+1)),J _,d1,λz V'=>IR V' z.1 z.2.1 z.2.2.1 (Cy d now last cs[i].1 out)/\RR V' (qvK #[Ô .i64 z.2.2.2.1,Ô .i64 z.2.2.2.2.1,qyQ z.2.2.2.2.2.1]) (lL d now last cs[i].1).lo /\
   RR V' (qvK #[Ô .i64 z.2.2.2.2.2.2.1,Ô .i64 z.2.2.2.2.2.2.2.1,qyQ z.2.2.2.2.2.2.2.2.1]) (lL d now last cs[i].1).hi/\z.2.2.2.2.2.2.2.2.2.1=(lL d now last cs[i].1).a/\z.2.2.2.2.2.2.2.2.2.2=(lL d now last cs[i].1).b,
   ⟨λhn=>⟨λhw=>?_,λhw=>⟨λa2=>⟨λH=>?_,λ_=>?_⟩,λa2=>?_⟩⟩,λhn=>⟨λhw=>⟨λH=>?_,λH=>?_⟩,λhw=>?_⟩⟩,?_⟩
  ·have hw:d=false:=by{simpa using hw};subst hn hw;exact ⟨(N,U,us,x,y,pp,0,0,none,false,false),σ,v.s L,hr.le L,RR.zero _,rfl,rfl⟩
  ·rw [hn] at H;cases H
  ·exact ⟨(N,U,us,x1,x2,p,y1,y2,q,last.a,last.b),σ,same (hn.m a2.symm)⟩
  ·rw [a2] at hw;cases hw
  ·subst hn hw;exact ⟨ω,v.le,v.cap,rfl,one8,λsp c' C P=>⟨(N+1,c',_,x1,x2,p,x,y,pp,last.a,last.b),σ,(v.s L).snoc (s:=⟨last.lo,cs[i].1,last.a,last.b⟩) (T.le L) (hr.le L) C P,T.le L,hr.le L,rfl,rfl⟩⟩
  ·rw [hn] at H;cases H
  ·exact ⟨(N,U,us,x1,x2,p,y1,y2,q,last.a,last.b),σ,same (hn.m hw.symm)⟩
  ·rintro ⟨k1,k2,ks,u1,u2,pu,t1,t2,pt,ua,ub⟩ mZ hU ⟨Z,b8,b9,g1,g2⟩;dsimp only at Z b8 b9 g1 g2;subst g1 g2;dsimp only;have ol:(Cy d now last cs[i].1 out).length<=i+1:=by{unfold Cy;split;{rw [ë];simp;omega};{omega}};exact ⟨rfl,(k1,k2,ks,now,((i+1:Nat):Int),JF A B (cs.take (i+1)),u1,u2,pu,t1,t2,pt,_,_),by dsimp only;omega,σ,i+1,_,_,rfl,ω,ol,st,rfl,Z,b8,b9,rfl,rfl⟩
 ·have hi:=Â hi;obtain rfl:i=cs.length:=ω;have fin:=WE hI hacc;refine ⟨λz V'=>IR V' z.1 z.2.1 z.2.2 (Ú op A B),⟨λhw=>?_,λhw=>?_⟩,?_⟩;{subst hw;refine ⟨ω,v.le,v.cap,rfl,one8,λsp c' C P=>⟨(N+1,c',_),σ,?_⟩⟩;rw [<-fin];have:=hI.fr rfl;rw [this.1] at r2;exact v.snoc (s:=nE last) T r2 C P};{subst hw;refine ⟨(N,U,us),σ,?_⟩;rw [<-fin];simpa [Cz] using v};{rintro ⟨k1,k2,ks⟩ pS jN h;dsimp only at h;obtain rfl:=h.len;exact ⟨rfl,λsC kt bk hb=>⟨_,_,_,rfl,bo.bq hb (h.row.le λ_ _ g=>f_.le g kt) φ h.le⟩⟩}
theorem c_J1 (a b:md)(W:ut):À 232 #[Õ a,Õ b] W λr _=>r=Õ ((λx _=>x:md->md->md) a b):=
 Ea W _ λV l=>rfl
theorem AJ (F:bo 8 f_ V p n A)(u:∀s∈A,s.good)(z:∀s∈A,s.sz 1000000)(D:A.length<=1000)(M:fe A<200)(E:pR (fe A)):À 168 #[dB p n c] V λr W=>∃q m e,r=dB q m e/\bo 8 f_ W q m (Ú 1 A []):=by refine Kr V _ λa b=>(IK (op:=1) (acc:=λx _=>x) (λt=>by simp [Ğ,í]) ra (bo.nil (p:=none)) u (λs h=>by cases h) z (λs h=>by cases h) D φ (by have:fe []=0:=rfl;omega) E c_J1).s ?_;rintro r V2 d ⟨q,m,e,rfl,g⟩;exact ⟨_,_,_,rfl,λf i=>⟨_,_,_,rfl,ra⟩⟩
theorem Na.lst (h:Na V p n ss):bo 8 mb V p n ss:=by refine ⟨h.len,λi b=>?_⟩;have ⟨c,d,xs,a,hc⟩:=h.at_ i b;obtain ⟨_,_,_,_,_,_,_,_,_,_,_,_,_,_,e,-,-⟩:=vN a;exact ⟨c,d,xs,by rw [e];rfl,a,hc⟩
theorem rQ (h:bo 8 mb V p n ss):Na V p n ss:=
 ⟨h.len,λi a=>by obtain ⟨b,c,xs,-,d,hc⟩:=h.at_ i a;exact ⟨b,c,xs,d,hc⟩⟩
theorem J1 (h:é 8 mb V vs ss){m:Nat}(hm:m<ss.length*8)(u:vs[m]?=some v):v.oneCell'=true:=by have c:m/8<ss.length:=ω;have ⟨xs,d,f,hc⟩:=h.at_ (m/8) c;obtain ⟨_,_,_,_,_,_,_,_,_,_,_,_,_,_,e,-,-⟩:=vN f;have b:m%8<xs.length:=by{rw [d];exact Ě _ φ};have g:m=m/8*8+m%8:=ω;have:=hc (m%8) _ (ñ b);rw [<-g,u] at this;obtain rfl:=ő this;have a:=ó b;generalize xs[m%8]=v at a;subst e;simp only [ê,ę,Ì] at a;rcases a with rfl|rfl|rfl|rfl|rfl|rfl|rfl|rfl<;>rfl
theorem ZX {x:Rat}(h:Sz k x):Sz (k+3) (x*((2:Int):Rat)⁻¹):=by have a:Sz 2 (((2:Int):Rat))⁻¹:=by{unfold Sz;decide +kernel};exact (h.mul a).s ω
theorem FA {c:zA Rat}(h:∀q∈c,Sz k q){q:Rat}(u:q∈aX c):Sz (2*k+4) q:=by have g:∀i,i<c.length->Sz k (c.getD i 0):=λi a=>by{rw [jt a];exact h _ (ó a)};have z:Sz (2*k+4) 0:=by{have b:(1:Nat)<2^(2*k+4):=Qd7 ω;exact ⟨ō (á _) b,b⟩};unfold aX at u;by_cases d:c.length=0;{rw [Ä d] at u;obtain rfl:q=0:=by{simpa using u};exact z};{rw [Ã d] at u;rcases ø.1 u with u|u;{unfold DY at u;rcases ê.1 u with rfl|u;{exact ((g 0 ω).sub jA).s ω};{obtain ⟨i,a,rfl⟩:=ă.1 u;rw [Wj1] at a;exact (ZX ((g i ω).add (g (i+1) ω))).s ω}};{obtain rfl:q=_:=by{simpa using u};exact ((g _ ω).add jA).s ω}}
theorem jR {op:Int}{ap bp:OA}{an ac bn bc:Nat}{la' lb':zA Sp}(ha:Na V ap an la')(hb:Na V bp bn lb')(hl:la'.length+lb'.length<10000000)(sa:∀s∈la',s.sz k)(sb:∀s∈lb',s.sz k)(hk:4*k+8<2^38):À 105 #[Ô .i64 op,dB ap an ac,dB bp bn bc] V λr W=>∃p n c,r=dB p n c/\Na W p n (Ú op la' lb'):=by
 have la:=ha.len;have lb:=hb.len;have ⟨xs,x1,x2,X⟩:=cV ha.lst φ;have ⟨Y,y1,y2,Z⟩:=cV hb.lst φ;refine xS V _ ⟨xs,x1,ω,ω,Ù _,á _,ω,?_,λQS J5 D c3 h1 u=>⟨Y,y1,ω,ω,ω,?_,ω,?_,λYt a4 I c8 w A V1 l1 E J=>?_⟩⟩
 ·intro v B;obtain ⟨m,hm,rfl⟩:=Qf4 B;exact J1 X ω (ñ hm)
 ·rw [List.take_nil,Ŏ,ë];omega
 ·intro v B;obtain ⟨m,hm,rfl⟩:=Qf4 B;exact J1 Z ω (ñ hm)
 have F:é 8 mb V1 ((([]:zA un).take (0*8)++xs++D).take ((0+an)*8)++Y++I) (la'++lb'):=by have e:(([]:zA un).take (0*8)++xs++D).take ((0+an)*8)=xs.take (la'.length*8):=by{rw [List.take_nil,Ŏ,la,Ĉ,Wq2 ω]};rw [e];exact (d_ X Z φ).le λ_ _ h=>h.le l1
 have hL:Na V1 (some ⟨E,0,none⟩) (0+an+bn) (la'++lb'):=by have:=rQ (bo.eN J F);rwa [show (la'++lb').length=0+an+bn by rw [ë];omega] at this
 have f:∀s∈la'++lb',s.sz k:=λs f=>by rcases ø.1 f with f|f;{exact sa s f};{exact sb s f}
 refine (Gp hL (by rw [ë];omega) f).s ?_;rintro r V2 l2 ⟨K,L,M,rfl,hc⟩;have cl:=Fe (la'++lb');rw [ë] at cl
 have cs:∀q∈à (la'++lb'),Sz k q:=λq hq=>by have ⟨s,G,e⟩:=xi hq;rcases e with rfl|rfl;{exact (f s G).1};{exact (f s G).2}
 have o:Ú op la' lb'=qm (à (la'++lb')) (iU op la' lb' (à (la'++lb'))):=rfl;rw [o];generalize à (la'++lb')=cuts at hc cl cs;refine ⟨K,L,M,rfl,λa5 V3 l3=>(qe (hc.le l3 λ_ _ h=>h.le l3) ω cs).s ?_⟩;rintro r V4 l4 ⟨N,t,O,rfl,hp⟩;have P:=hp.len;rw [dZ] at P;have ml:=kM op la' lb' cuts
 have Q:∀i (C:i<(aX cuts).length),(iU op la' lb' cuts).take (i+1)=(iU op la' lb' cuts).take i++[Ğ op (sF la' (aX cuts)[i]==2) (sF lb' (aX cuts)[i]==2)]:=λi C=>by rw [dZ] at C;rw [Ĭ,ñ ω];unfold iU;rw [Qr1];rfl
 refine ⟨N,t,O,rfl,λz V'=>∃i:Nat,z.2.2.2=(i:Int)/\i<=cuts.length+1/\z.1=i/\z.1<=z.2.1/\z.2.1*1<=z.2.2.1.length/\é 1 RBl V' z.2.2.1 ((iU op la' lb' cuts).take i),λz=>cuts.length+1-z.2.2.2.toNat,
  ⟨(0,0,[],0),σ,0,rfl,á _,rfl,Ù _,Ù _,é.nil⟩,?_⟩
 rintro ⟨g,z2,vs,z4⟩ V5 l5 ⟨i,e4,NB,e1,ic,B,d⟩;dsimp only at e4 e1 ic B d;subst e4 e1;refine ⟨rfl,λj=>?_,λj gT dX a3 l=>?_⟩
 ·have j:(g:Int)<t:=Á j;have C:g<(aX cuts).length:=by{rw [dZ];omega};dsimp only;rw [Ü];have ⟨ad,b,p1,n1,c1,p2,n2,c2,H,hq,a0,a1,a2⟩:=Cf (hp.le l5 λ_ _ h=>h.le l5) C;have sq:=FA cs (ó C);have R:∀s∈la',s.sz (2*k+4):=λs f=>⟨(sa s f).1.s ω,(sa s f).2.s ω⟩;have S:∀s∈lb',s.sz (2*k+4):=λs f=>⟨(sb s f).1.s ω,(sb s f).2.s ω⟩;refine ⟨aK H,⟨ω,ω⟩,b,p1,n1,c1,p2,n2,c2,ad,H,a0,a1,a2,λV6 l6=>(AW ra ra R sq ω).s ?_⟩;rintro r V7 l7 rfl;refine ⟨_,rfl,λV8 l8=>(AW ra ra S sq ω).s ?_⟩;rintro r V9 l9 rfl;have hm:=Q g C;generalize (sF la' (aX cuts)[g]==2)=x at hm;generalize (sF lb' (aX cuts)[g]==2)=y at hm;refine ⟨_,rfl,λz V'=>V9.Le V'/\z=(x||y),⟨λd=>⟨true,σ,Ó.Le.refl _,by rw [d];rfl⟩,λd=>⟨y,σ,Ó.Le.refl _,by rw [d];rfl⟩⟩,?_⟩;rintro a6 fo a7 ⟨a8,rfl⟩;refine ⟨rfl,λz V'=>fo.Le V'/\z=Ğ op x y,⟨λu=>?_,λu=>⟨λw=>?_,λw=>⟨λA=>?_,λA=>?_⟩⟩⟩,?_⟩;{obtain rfl:=Ê u;exact ⟨λd=>⟨y,σ,Ó.Le.refl _,by rw [d];rfl⟩,λd=>⟨false,σ,Ó.Le.refl _,by rw [d];rfl⟩⟩};{obtain rfl:=Ê w;exact ⟨λd=>⟨!y,σ,Ó.Le.refl _,by rw [d];rfl⟩,λd=>⟨false,σ,Ó.Le.refl _,by rw [d];rfl⟩⟩};{obtain rfl:=Ê A;exact ⟨_,σ,Ó.Le.refl _,rfl⟩};{refine ⟨_,σ,Ó.Le.refl _,?_⟩;have u:¬op=2:=λe=>by{subst e;cases u};have w:¬op=3:=λe=>by{subst e;cases w};have A:¬op=4:=λe=>by{subst e;cases A};unfold Ğ;rw [Ã u,Ã w,Ã A]};{rintro a9 fg dy ⟨b1,rfl⟩;(refine ⟨rfl,ω,ic,B,rfl,?_,λsp c' h5 h6=>⟨(g+1,c',_,(g:Int)+1),by dsimp only;omega,by and_intros<;>first|rfl|exact ao ω,g+1,rfl,ω,rfl,h5,?_,?_⟩⟩);{intro v hm;obtain rfl:v=_:=by{simpa using hm};rfl};{dsimp only;have ht:(vs.take (g*1)).length=g*1:=by{rw [è];omega};rw [ë,ë,ht];simp only [Ą,İ];omega};{dsimp only;have hlen:((iU op la' lb' cuts).take g).length=g:=by{rw [è];omega};rw [hm];have:=(d.le (V':=fg) λ_ _ h=>h).snoc (sp:=sp) (xs:=[Õ (Ğ op x y)]) (a:=Ğ op x y) rfl rfl φ;rw [hlen] at this;exact this}}
 ·have j:¬(g:Int)<t:=Â j;obtain rfl:g=cuts.length+1:=ω;(try dsimp only at l ⊢);rw [Ŕ ω] at d;have hM:=bo.bq (c:=z2) l (d.le (V':=gT) λ_ _ h=>h) φ ω;rw [ml] at hM;refine (uQ (hc.le au λ_ _ h=>h.le au) hM ml).s ?_;rintro r iL dS ⟨T,U,W,rfl,hr⟩;exact ⟨T,U,W,rfl,λb2 lR gj=>⟨_,_,_,rfl,rQ (hr.le gj λ_ _ h=>h.le gj)⟩⟩
theorem Xa:À 228 #[] V λr W=>r=qvK #[Ô .i64 0,Ô .i64 0,qyQ none,Ô .i64 0,Ô .i64 0,qyQ none,Õ true,Õ true]:=
 MH V _ λa b=>rfl
theorem c_D1 (a b:md)(W:ut):À 230 #[Õ a,Õ b] W λr _=>r=Õ (Ğ 3 a b):=
 pJ W _ ⟨λh V l=>by subst h;simp [Ğ],λh V l=>by subst h;simp [Ğ]⟩
theorem iJ.up {k K:Nat}{l:L3}(h:iJ k l)(u:k<=K):iJ K l:=⟨h.1.s u,h.2.1.s u,h.2.2.s u⟩
theorem Aj {L M:L3}{s:Sp}{K:Nat}(sl:iJ k L)(sm:iJ k M)(u:s.sz K)(D:60*k+60<=K):(bC L s M).sz K:=by have z:=CB K;have c:=(kv sl sm).s D;unfold bC;split;{exact u};{split;{exact Sp.GU u ⟨c,z⟩};{exact Sp.GU u ⟨z,c⟩}}
theorem Vj (u:0<k:=by omega):ã.sz k:=⟨CB k u,CB k u⟩
theorem one17 {u:Int}{z:Int}{r:OA}{u1:Int}{u2:Int}{t:OA}{D:Int}{E:Int}{o:OA}{c d:md}:∀v∈([Ô .i64 x1,Ô .i64 x2,qyQ p,Ô .i64 y1,Ô .i64 y2,qyQ q,Ô .i64 u,Ô .i64 z,qyQ r,Ô .i64 u1,Ô .i64 u2,qyQ t,Ô .i64 D,Ô .i64 E,qyQ o,Õ c,Õ d]:zA un),v.oneCell'=true:=by intro v hm;simp only [ê,ę,Ì] at hm;rcases hm with rfl|rfl|rfl|rfl|rfl|rfl|rfl|rfl|rfl|rfl|rfl|rfl|rfl|rfl|rfl|rfl|rfl<;>rfl
end
section
variable{L l:L3}{V:Ó}{lv v:Value}{p q:OA}{P:List Rat}
def DR:Rat×Rat:=(0,0)
theorem CA (u:Bd l):Sz 1000 (aV.cG l).1/\Sz 1000 (aV.cG l).2:=⟨u.e_.2.1,u.e_.1.neg⟩
theorem Sv {V V':ut}{P:Prop}{b:Nat}(l:V.Le V')(h:P->V.w.heap.size<=b\/V.H b):V.Le (V'.shut.bz P b):=λx o a=>by
 have c:=l x o a;refine ⟨λd=>d.elim c.1 ?_,c.2⟩;rintro ⟨e,rfl,-⟩;rcases h e with h|h
 ·have:=(Qp7.1 a.2).1;omega
 ·exact a.1 h
theorem OQ {w:un}{M:L3}(D:wJ V v L)(hm:wJ V w M)(E:Bd L)(z:Bd M):À 277 #[v,w] V λr W=>r=Õ (decide (L=M\/L=Ö M)):=by have a:=D;have b:=hm;obtain ⟨_,_,_,_,_,_,_,_,_,rfl,-,-,-⟩:=D;obtain ⟨_,_,_,_,_,_,_,_,_,rfl,-,-,-⟩:=hm;refine CN V _ λd f=>(rN ra ra E.e_ z.e_).s ?_;rintro r V2 g rfl;refine ⟨_,rfl,λe i j=>?_,λe k l=>(kK ra z.e_).s ?_⟩;{rw [Ç (.inl (Á e))]};{have e:=Â e;rintro r m n c;obtain ⟨_,_,_,_,_,_,_,_,_,rfl,-,-,-⟩:=id c;refine ⟨_,_,_,_,_,_,_,_,_,rfl,λo p=>(rN ra ra E.e_ z.e_.rev).s λr q s rfl=>⟨_,rfl,λt u=>Æ Value.bool (É.2 ⟨.inr,λh=>h.resolve_left e⟩)⟩⟩}
theorem one8i {x1 x2:Int}{y1 y2:Int}{a b:md}:∀v∈([Ô .i64 x1,Ô .i64 x2,qyQ p,Ô .i64 y1,Ô .i64 y2,qyQ q,Õ a,Õ b]:zA un),v.oneCell'=true:=λv c=>by
 simp only [ê,ę,Ì] at c;rcases c with rfl|rfl|rfl|rfl|rfl|rfl|rfl|rfl<;>rfl
theorem Lg {e:md}{k:Int}(h1:decide (k>0)=e)(h2:decide (k<0)=!e)(hb:Bd L):∀(t:Tr) {V:ut} {q:OA} {lv v:un} {s:Sp} {lb n m:Nat} {vs:zA un} {o:zA Sp},RT V q t->t.dJ Bd->wJ V lv L->f_ V v s->s.sz 100000 ->(vs≠[]->V.w.heap[lb]?=some (.cells vs.toArray 97 (0,0)))->(vs≠[]->V.X lb)->GR 8 f_ V n m vs o->n+(bh L e t s).length<=1000000 ->À 227 #[qyQ q,lv,v,Ô .i64 k,dB (mA lb m) n m] V λr V'=>∃(bm:Nat)(vm:zA un)(n' c':Nat),(vm≠[]->V'.w.heap[bm]?=some (.cells vm.toArray 97 (0,0)))/\(vm≠[]->V.w.heap.size<=bm\/(vs≠[]/\bm=lb))/\r=dB (mA bm c') n' c'/\GR 8 f_ (V'.bz (vm≠[]) bm) n' c' vm (o++bh L e t s):=by
 intro t;have V_:∀{A B:Prop},A\/B\/False->A\/B:=λh=>h.imp id λh=>h.elim id False.elim
 induction t with
 | leaf i=>
  intro V q lv v s lb n m vs o h ha hl Z sz hw hx J C;have D:=Z;obtain ⟨_,_,_,_,_,_,_,_,_,rfl,-,-,-⟩:=hl;obtain ⟨_,_,_,_,_,_,rfl,-,-⟩:=Z;refine tB q _ _ _ _ _ _ _ _ _ _ _ _ _ _ _ _ _ k lb n m vs V _ hw hx ⟨λz _=>z=i,λV1 l1=>(dN (h.le l1)).s ?_,?_⟩
  ·rintro r V2 l2 rfl;obtain ⟨b,c0,c1,c2,c3,c4,c5,c6,c7,c8,r,rfl,hb⟩:=h.le (l1.m l2);exact ⟨_,rfl,λ_=>⟨rfl,rfl,i,yY hb 11 rfl,_,σ,rfl⟩,π⟩
  rintro z V3 l3 rfl;refine ⟨rfl,λhz=>?_,λhz V5 l5=>(dN (h.le au)).s ?_⟩
  ·subst hz;refine ⟨ω,J.le,J.cap,rfl,one8i,λsp c k1 k2 V4 f hle E F=>⟨f,_,n+1,c,E,λh=>V_ (F h),rfl,?_⟩⟩;exact (J.s λ_ _ g=>f_.le g au).snoc rfl ra φ k1 k2
  ·rintro r V6 l6 rfl;subst hz;refine ⟨_,rfl,λ_ V7 f hle E F=>⟨f,vs,n,m,E,λh=>V_ (F h),rfl,?_⟩,π⟩;show GR 8 f_ _ n m vs (o++[]);rw [þ];exact J.s λ_ _ g=>f_.le g au
 | node ln a b iha ihb=>
  intro V q lv v s lb n m vs o h ha hl Z sz hw hx J C;have l:=hl;have D:=Z;obtain ⟨_,_,_,_,_,_,_,_,_,rfl,-,-,-⟩:=hl;obtain ⟨_,_,_,_,_,_,rfl,-,-⟩:=Z;obtain ⟨p,a7,a8⟩:=ha;refine tB q _ _ _ _ _ _ _ _ _ _ _ _ _ _ _ _ _ k lb n m vs V _ hw hx ⟨λz _=>z=false,λV1 l1=>(dN (h.le l1)).s ?_,?_⟩
  ·rintro r V2 l2 rfl;exact ⟨_,rfl,π,λ_=>⟨_,σ,rfl⟩⟩
  rintro z V3 l3 rfl;refine ⟨rfl,π,λ_ V5 l5=>(dN (h.le au)).s ?_⟩;rintro r V6 l6 rfl;have a9:=l3.m (l5.m l6);obtain ⟨K,u1,u2,u3,v1,v2,v3,w1,w2,w3,pl,pr,i,rfl,a5,y,b3,b4⟩:=h.le a9
  have d:∀{W:ut},V6.Le W->∀j v,([Ô .i64 u1,Ô .i64 u2,qyQ u3,Ô .i64 v1,Ô .i64 v2,qyQ v3,Ô .i64 w1,Ô .i64 w2,qyQ w3,qyQ pl,qyQ pr,Õ i]:zA un)[j]?=some v->W.at ((⟨K,0,none⟩:Addr).add j) v:=by intro W hW j v Z;rw [add_zero'];exact dD (xs:=[_,_,_,_,_,_,_,_,_,_,_,_]) (hW _ _ a5) Z
  have M:=Ó.Le.refl V6;have hp:∀{W:ut},V6.Le W->(∃a,ae (some ⟨K,0,none⟩) 9=some a/\W.at a (qyQ pl))/\∃a,ae (some ⟨K,0,none⟩) 10=some a/\W.at a (qyQ pr):=λhW=>⟨yY (hW _ _ a5) 9 rfl,yY (hW _ _ a5) 10 rfl⟩;refine ⟨_,rfl,π,λ_=>⟨λz _=>z=decide (ln=L/\e=true\/ln=Ö L/\e=false),⟨rfl,rfl,_,_,_,_,_,_,_,_,_,⟨K,0,none⟩,rfl,d M 0 _ rfl,d M 1 _ rfl,d M 2 _ rfl,d M 3 _ rfl,d M 4 _ rfl,d M 5 _ rfl,d M 6 _ rfl,d M 7 _ rfl,d M 8 _ rfl,λV8 l8=>(rN (y.le l8) (l.le au) p.e_ hb.e_).s ?_⟩,?_⟩⟩
  ·rintro r V9 l9 rfl;have u:=l8.m l9;have rv:∀{P:md->Prop},(decide (ln=Ö L)=true->P (decide (k<0)))->(decide (ln=Ö L)=false->P false)->P (decide (ln=Ö L)&&!e):=λa b=>by{cases g:decide (ln=Ö L);{exact b g};{rw [h2] at a;exact a g}};have eqv:∀{c:md},(c=true->(ln=L/\e=true\/ln=Ö L/\e=false))->((ln=L/\e=true\/ln=Ö L/\e=false)->c=true)->c=decide (ln=L/\e=true\/ln=Ö L/\e=false):=λ{c} a b=>by{cases c;{exact (È λh=>by have:=b h;cases this).symm};{exact (Ç (a rfl)).symm}};refine ⟨_,rfl,λg=>⟨λgk=>⟨_,σ,?_⟩,λgk=>?_⟩,λg=>?_⟩;{rw [h1] at gk;exact eqv (λ_=>.inl ⟨Á g,gk⟩) λ_=>rfl};{rw [h1] at gk;refine ⟨rfl,rfl,_,_,_,_,_,_,_,_,_,⟨K,0,none⟩,rfl,d u 0 _ rfl,d u 1 _ rfl,d u 2 _ rfl,d u 3 _ rfl,d u 4 _ rfl,d u 5 _ rfl,d u 6 _ rfl,d u 7 _ rfl,d u 8 _ rfl,λfo b9=>(kK (l.le au) hb.e_).s ?_⟩;rintro r fg dy S;have H3:=S;obtain ⟨_,_,_,_,_,_,_,_,_,rfl,-,-,-⟩:=S;refine ⟨_,_,_,_,_,_,_,_,_,rfl,λgT dX=>(rN (y.le au) (H3.le dX) p.e_ hb.e_.rev).s ?_⟩;rintro r iL dS rfl;refine ⟨_,rfl,λg2=>⟨_,σ,?_⟩,λg2=>⟨_,σ,?_⟩⟩;{rw [h2,show (!e)=true by rw [gk];rfl];exact eqv (λ_=>.inr ⟨Á g2,gk⟩) λ_=>rfl};{exact eqv π λh=>(Â g2 (h.elim (λh=>by rw [gk] at h;exact nomatch h.2) λh=>h.1)).elim}};{refine ⟨rfl,rfl,_,_,_,_,_,_,_,_,_,⟨K,0,none⟩,rfl,d u 0 _ rfl,d u 1 _ rfl,d u 2 _ rfl,d u 3 _ rfl,d u 4 _ rfl,d u 5 _ rfl,d u 6 _ rfl,d u 7 _ rfl,d u 8 _ rfl,λlR gj=>(kK (l.le au) hb.e_).s ?_⟩;rintro r lS gC S;have H3:=S;obtain ⟨_,_,_,_,_,_,_,_,_,rfl,-,-,-⟩:=S;refine ⟨_,_,_,_,_,_,_,_,_,rfl,λkH fy=>(rN (y.le au) (H3.le fy) p.e_ hb.e_.rev).s ?_⟩;rintro r lT ij rfl;refine ⟨_,rfl,λg2=>⟨_,σ,?_⟩,λg2=>⟨_,σ,?_⟩⟩;{rw [h2];exact eqv (λh=>.inr ⟨Á g2,by simpa using h⟩) λh=>by{rcases h with h|h;exact Å h.1 (Â g);rw [h.2];rfl}};{exact eqv π λh=>(h.elim (λh=>Â g h.1) λh=>Â g2 h.1).elim}}
  rintro z mZ x rfl;have VF:=a9.m x;have Y7:=J.s λ_ _ g=>f_.le g VF
  have go:∀{lw:un},wJ V lw L->∀{N:Tr} {q':OA} {W:ut} (f:Nat),mZ.Le W->RT V6 q' N->(∀{V:ut} {q:OA} {lv v:un} {s:Sp} {lb n m:Nat} {vs:zA un} {o:zA Sp},RT V q N->N.dJ Bd->wJ V lv L->f_ V v s->s.sz 100000 ->
    (vs≠[]->V.w.heap[lb]?=some (.cells vs.toArray 97 (0,0)))->(vs≠[]->V.X lb)->GR 8 f_ V n m vs o->n+(bh L e N s).length<=1000000 ->
    À 227 #[qyQ q,lv,v,Ô .i64 k,dB (mA lb m) n m] V λr V'=>∃(bm:Nat)(vm:zA un)(n' c':Nat),(vm≠[]->V'.w.heap[bm]?=some (.cells vm.toArray 97 (0,0)))/\(vm≠[]->V.w.heap.size<=bm\/(vs≠[]/\bm=lb)) /\
     r=dB (mA bm c') n' c'/\GR 8 f_ (V'.bz (vm≠[]) bm) n' c' vm (o++bh L e N s))->N.dJ Bd->∀{v':un} {s':Sp},f_ W v' s'->s'.sz 100000->∀{n m:Nat} {vs:zA un} {o:zA Sp},(vs≠[]->W.w.heap[f]?=some (.cells vs.toArray 97 (0,0)))->(vs≠[]->W.H f)->GR 8 f_ W n m vs o->n+(bh L e N s').length<=1000000 ->
    À 227 #[qyQ q',lw,v',Ô .i64 k,dB (mA f m) n m] (W.ar [vb vs W.w.heap.size f]) λr V'=>∃(bm:Nat)(vm:zA un)(n' c':Nat),(vm≠[]->V'.w.heap[bm]?=some (.cells vm.toArray 97 (0,0)))/\(vm≠[]->W.w.heap.size<=bm\/(vs≠[]/\bm=f)) /\
     r=dB (mA bm c') n' c'/\W.Le (V'.shut.bz (vm≠[]) bm)/\GR 8 f_ (V'.shut.bz (vm≠[]) bm) n' c' vm (o++bh L e N s'):=by
   intro lw b5 N q' W f lW hq ih ha v' s' xr b6 n m vs o f1 f2 J C;refine (ih (V:=W.ar [vb vs W.w.heap.size f]) (lb:=f) (RT.le (V:=V6) (V':=W.ar _) (λb o h=>(x.m lW) b o h) hq) ha (wJ.le (V:=V) (V':=W.ar _) b5 λb o h=>(VF.m lW) b o h) (f_.le (V:=W) (V':=W.ar _) xr λb o h=>h) b6 f1 (λh=>⟨by simp [pC h],f2 h⟩) (J.s (V':=W.ar _) λ_ _ g=>f_.le (V:=W) g λb o h=>h) C).s ?_;rintro r V' l' ⟨bm,vm,n',c',O,G,a3,Q⟩;exact ⟨bm,vm,n',c',O,G,a3,Sv (V:=W) (V':=V') (λb o h=>l' b o h) λh=>(G h).imp id λ(g:vs≠[]/\bm=f)=>by rw [g.2];exact f2 g.1,Q.s λ_ _ g=>f_.le g λb o h=>h⟩
  refine ⟨rfl,λc=>?_,λc=>?_⟩
  ·have c:=Á c;have eP:bh L e (.node ln a b) s=bh L e a s:=by{rw [bh,Ä c]};rw [eP] at C ⊢;refine ⟨rfl,rfl,pl,(hp x).1,λpS jN f f1 f2=>(go l f jN b3 iha a7 (D.le au) sz f1 f2 (Y7.s λ_ _ g=>f_.le g jN) C).s ?_⟩;rintro r sC kt ⟨bm,vm,n',c',O,G,rfl,a3,Q⟩;exact ⟨bm,vm,O,G,none,n',c',rfl,λsE W9 hle E F=>⟨W9,vm,n',c',E,λh=>V_ (F h),rfl,Q.s λ_ _ g=>f_.le g hle⟩⟩
  have c:=Â c;refine ⟨rfl,rfl,_,_,_,_,_,_,_,_,_,⟨K,0,none⟩,rfl,d x 0 _ rfl,d x 1 _ rfl,d x 2 _ rfl,d x 3 _ rfl,d x 4 _ rfl,d x 5 _ rfl,d x 6 _ rfl,d x 7 _ rfl,d x 8 _ rfl,λsN nH=>(OQ (y.le au) (l.le au) p hb).s ?_⟩;rintro r uF pk rfl;have XB:=nH.m pk;have I:=x.m XB;refine ⟨_,rfl,λc2=>?_,λc2=>?_⟩
  ·have c2:=Á c2;have eP:bh L e (.node ln a b) s=bh L e b s:=by{rw [bh,Ã c,Ä c2]};rw [eP] at C ⊢;refine ⟨rfl,rfl,pr,(hp I).2,λDx pM f f1 f2=>(go l f au b4 ihb a8 (D.le au) sz f1 f2 (Y7.s λ_ _ g=>f_.le g au) C).s ?_⟩;rintro r HZ Bz ⟨bm,vm,n',c',O,G,rfl,a3,Q⟩;exact ⟨bm,vm,O,G,none,n',c',rfl,λNb W9 hle E F=>⟨W9,vm,n',c',E,λh=>V_ (F h),rfl,Q.s λ_ _ g=>f_.le g hle⟩⟩
  have eP:bh L e (.node ln a b) s=(if cS L s ln=true then bh L e a (bC L s ln) else [])++(if cS L s (Ö ln)=true then bh L e b (bC L s (Ö ln)) else []):=by rw [bh,Ã c,Ã (Â c2)]
  rw [eP] at C ⊢;rw [ë] at C;have sK:iJ 100000 L:=hb.e_.up ω;refine ⟨rfl,rfl,_,_,_,_,_,_,_,_,_,⟨K,0,none⟩,rfl,d I 0 _ rfl,d I 1 _ rfl,d I 2 _ rfl,d I 3 _ rfl,d I 4 _ rfl,d I 5 _ rfl,d I 6 _ rfl,d I 7 _ rfl,d I 8 _ rfl,λUB GN=>(It (l.le au) (D.le au) (y.le au) (k:=100000) sK sz (p.e_.up ω)).s ?_⟩;rintro r UC H4 ⟨w,rfl,gw⟩;have b7:=gw;obtain ⟨_,_,_,_,_,_,rfl,-,-⟩:=gw;have Sn:=XB.m (GN.m H4);have T:=x.m Sn;have U:=Y7.s λ_ _ g=>f_.le g Sn;refine ⟨_,_,_,_,_,_,_,_,_,rfl,λz V'=>GR 8 f_ V' z.1 z.2.1 z.2.2 (o++(if cS L s ln=true then bh L e a (bC L s ln) else [])),⟨λb1=>?_,λb1=>?_⟩,?_⟩
  ·rw [Ä b1] at C ⊢;refine ⟨rfl,rfl,pl,(hp T).1,λW3 NI f f1 f2=>(go l f au b3 iha a7 (b7.le NI) (Aj hb.e_ p.e_ sz ω) f1 f2 (U.s λ_ _ g=>f_.le g NI) ω).s ?_⟩;rintro r QF H5 ⟨bm,vm,n',c',O,G,rfl,a3,Q⟩;exact ⟨bm,vm,O,G,none,n',c',rfl,(n',c',vm),σ,Q⟩
  ·rw [Ã (by rw [b1];simp)];refine ⟨(n,m,vs),σ,?_⟩;rw [þ];exact U
  rintro ⟨z1,z2,us⟩ Yi GO hz;have zl:=hz.len;have ol:=J.len;rw [ë] at zl;have R:=T.m GO;refine ⟨rfl,rfl,rfl,_,_,_,_,_,_,_,_,_,⟨K,0,none⟩,rfl,d R 0 _ rfl,d R 1 _ rfl,d R 2 _ rfl,d R 3 _ rfl,d R 4 _ rfl,d R 5 _ rfl,d R 6 _ rfl,d R 7 _ rfl,d R 8 _ rfl,λYj H6=>(kK (y.le au) p.e_).s ?_⟩;rintro r UD Ds S;have H3:=S;obtain ⟨_,_,_,_,_,_,_,_,_,rfl,-,-,-⟩:=S;have a6:=(Sn.m GO).m (H6.m Ds);refine ⟨_,_,_,_,_,_,_,_,_,rfl,λc9 LU=>(It (l.le au) (D.le au) (H3.le LU) (k:=100000) sK sz (p.e_.rev.up ω)).s ?_⟩;rintro r d0 H7 ⟨w,rfl,gw⟩;obtain ⟨_,_,_,_,_,_,rfl,-,-⟩:=id gw;have b8:=a6.m (LU.m H7);have Y:=hz.s λ_ _ g=>f_.le g (H6.m (Ds.m (LU.m H7)));refine ⟨_,_,_,_,_,_,_,_,_,rfl,λb2=>?_,λb2 d1 W9 hle E F=>⟨W9,us,z1,z2,E,λh=>V_ (F h),rfl,?_⟩⟩
  ·rw [Ä b2] at C ⊢;refine ⟨rfl,rfl,pr,(hp au).2,λd2 Py f f1 f2=>(go l f au b4 ihb a8 (gw.le Py) (Aj hb.e_ p.e_.rev sz ω) f1 f2 (Y.s λ_ _ g=>f_.le g Py) ω).s ?_⟩;rintro r d3 Sq ⟨bm,vm,n',c',O,G,rfl,a3,Q⟩;refine ⟨bm,vm,O,G,none,n',c',rfl,λd4 W9 hle E F=>⟨W9,vm,n',c',E,λh=>V_ (F h),rfl,?_⟩⟩;rw [<-Ĕ];exact Q.s λ_ _ g=>f_.le g hle
  ·rw [Ã (c:=cS L s (Ö ln)=true) (by rw [b2];simp),þ];exact Y.s λ_ _ g=>f_.le g hle
theorem Np {e:md}{k:Int}(N:decide (k>0)=e)(O:decide (k<0)=!e)(M:Bd L){t:Tr}{s:Sp}(h:RT V q t)(Z:t.dJ Bd)(hl:wJ V lv L)(hv:f_ V v s)(hs:s.sz 100000)(hn:(bh L e t s).length<=1000000):À 227 #[qyQ q,lv,v,Ô .i64 k,dB none 0 0] V λr W=>∃p n c,r=dB p n c/\bo 8 f_ W p n (bh L e t s):=by
 have own:∀{f:FuncId} {args:Array un} {V:ut} {R:un->ut->Prop},À f args V R->À f args V λr W=>R r W/\∀b,V.w.heap.size<=b->¬W.H b:=λ{f args V R} h=>
  ⟨h.1,h.2.s λ_ C ⟨r,he,a,u⟩=>⟨r,he,a,u,λb M d=>Å (V.hH b d) ω⟩⟩
 refine (own (Lg N O M t (lb:=0) (n:=0) (m:=0) (vs:=[]) (o:=[]) h Z hl hv hs (λh=>Å rfl h) (λh=>Å rfl h) GR.nil ω)).s ?_;rintro r V' l ⟨⟨y,D,E,F,z,A,rfl,i⟩,B⟩;have j:=i.len;rw [j];exact ⟨_,_,_,rfl,bo.bq (λh=>⟨B y ((A h).elim id λg=>Å rfl g.1),z h⟩) (i.row.le λ_ _ g=>f_.le g λx o a=>⟨λd=>a.1 (.inl d),a.2⟩) φ (by rw [<-j];exact i.le)⟩
theorem Ba (u:∀x∈P,Sz 1000000 x){l:zA Sp}(E:∀s∈l,s.good/\∀q,s.cQ q->q∈P):∀s∈l,s.sz 1000000:=λs h=>by
 have ⟨g,e⟩:=E s h;refine ⟨?_,?_⟩
 ·cases z:s.a
  ·exact u _ (e _ (.inl ⟨z,rfl⟩))
  ·rw [g.1.1 z];exact CB _
 ·cases D:s.b
  ·exact u _ (e _ (.inr ⟨D,rfl⟩))
  ·rw [g.1.2 D];exact CB _
structure M8 (L:L3) (P:List Rat) (t:Tr):Prop where
 crs:Yc L P t
 asc:asc P
 len:P.length<=30
 sz:∀x∈P,Sz 1000000 x
def nG (L:L3)(e:Bool)(t:Tr):List Sp:=Ú 1 (bh L e t bT) []
theorem Ge {t:Tr}(h:RT V q t)(ha:t.dJ Bd)(hl:wJ V lv L)(hb:Bd L)(hc:M8 L P t)(so:∀i,i<=60->pR i):À 163 #[qyQ q,lv] V λr W=>∃p n c p' n' c',r=æ #[dB p n c,dB p' n' c']/\bo 8 f_ W p n (nG L true t)/\bo 8 f_ W p' n' (nG L false t):=by obtain ⟨_,_,_,_,_,_,_,_,_,rfl,-,-,-⟩:=id hl;have o:∀W:ut,f_ W (qvK #[Ô .i64 0,Ô .i64 0,qyQ none,Ô .i64 0,Ô .i64 0,qyQ none,Õ true,Õ true]) bT:=λW=>⟨0,0,none,0,0,none,rfl,RR.zero W,RR.zero W⟩;have v:=hc.len;have go:∀e:md,(∀s∈bh L e t bT,s.good)/\(∀s∈bh L e t bT,s.sz 1000000)/\fe (bh L e t bT)<=60/\(bh L e t bT).length<=1000:=λe=>by{have ⟨a,b,c⟩:=N5 (e:=e) hc.crs;exact ⟨λs h=>(a s h).1,Ba hc.sz a,ω,ω⟩};have join:∀(e:md) {W:ut} {p:OA} {n c:Nat},bo 8 f_ W p n (bh L e t bT)->À 168 #[dB p n c] W λr W=>∃q m e',r=dB q m e'/\bo 8 f_ W q m (nG L e t):=λe W p n c g=>by{have ⟨a,b,c,d⟩:=go e;exact AJ g a b d ω (so _ c)};refine zg V _ λM N=>Xa.s ?_;rintro r V2 O rfl;refine ⟨_,_,_,_,_,_,_,_,rfl,λQ R=>(Np (e:=true) rfl rfl hb (RT.le au h) ha ra (o _) ⟨CB _,CB _⟩ (by have:=(go true).2.2.2;omega)).s ?_⟩;rintro r S T ⟨p,n,c,rfl,U⟩;refine ⟨p,n,c,rfl,λX Y=>(join true ra).s ?_⟩;rintro r w Z ⟨x,y,z,rfl,A⟩;refine ⟨x,y,z,rfl,λV7 B=>Xa.s ?_⟩;rintro r V8 C rfl;have j:=B.m C;refine ⟨_,_,_,_,_,_,_,_,rfl,λV9 l9=>(Np (e:=false) rfl rfl hb (RT.le au h) ha ra (o _) ⟨CB _,CB _⟩ (by have:=(go false).2.2.2;omega)).s ?_⟩;rintro r fo D ⟨E,F,G,rfl,g3⟩;refine ⟨E,F,G,rfl,λfg dy=>(join false ra).s ?_⟩;rintro r H dX ⟨I,J,K,rfl,g4⟩;have f:∀{k:ut},H.Le k->w.Le k:=λl=>j.m au;exact ⟨I,J,K,rfl,λk u=>⟨_,_,_,_,_,_,rfl,A.le (f u) λ_ _ g=>f_.le g (f u),ra⟩⟩
theorem vy {t:Tr}(hc:M8 L P t)(e:md):tu (nG L e t)/\(∀s∈nG L e t,s.sz 1000000)/\fe (nG L e t)<=30/\(nG L e t).length<=1000:=by have f:=hc.len;have ⟨a,b,c⟩:=N5 (e:=e) hc.crs;have r:tu (nG L e t):=comb_reg _ _ _;refine ⟨r,Ba hc.sz λs d=>⟨r.1 s d,λq g=>nN hc.crs q (eU.2 ⟨s,d,g⟩)⟩,ü (Ts hc.crs hc.asc) hc.len,?_⟩;have:=A9 1 (bh L e t bT) [];have h:fe ([]:zA Sp)=0:=rfl;unfold nG;omega
theorem Rl {t:Tr}(h:RT V q t)(O:t.dJ Bd)(M:wJ V lv L)(Z:Bd L)(hc:M8 L P t)(N:∀i,i<=60->pR i):À 88 #[qyQ q,lv] V λr W=>∃p n c,r=dB p n c/\bo 8 f_ W p n (kd L t):=by obtain ⟨_,_,_,_,_,_,_,_,_,rfl,-,-,-⟩:=id M;refine Kl V _ λB d=>(Ge (h.le d) O (M.le d) Z hc N).s ?_;rintro r V2 C ⟨p,n,c,j,k,l,rfl,D,E⟩;have ⟨o,s1,f1,s⟩:=vy hc true;have ⟨u,s2,f2,v⟩:=vy hc false;refine ⟨_,_,_,_,_,_,rfl,λw F=>?_⟩;refine aa.s (R:=λr W=>∃q m e,r=dB q m e/\bo 8 f_ W q m (kd L t)) ?_ ?_;{refine sM w _ λG H=>(IK (op:=3) (acc:=λx y=>x&&!y) (λt=>by simp [Ğ]) ra ra o.1 u.1 s1 s2 s v ω (N _ ω) λa b W=>(c_D1 a b W).s λr _ _ e=>by rw [e];simp [Ğ]).s ?_;rintro r z A ⟨q,m,e,rfl,g⟩;exact ⟨_,_,_,rfl,λI f=>⟨_,_,_,rfl,g.le f λ_ _ g=>f_.le g f⟩⟩};{rintro r z A ⟨q,m,e,rfl,g⟩;grind [g.le,f_.le]}
def RPk (k:Nat)(V:Ó)(v:Value)(c:Rat×Rat):Prop:=pP V v c.1 c.2/\Sz k c.1/\Sz k c.2
theorem XS {a b:Int}{c d:Int}:∀v∈([Ô .i64 a,Ô .i64 b,qyQ p,Ô .i64 c,Ô .i64 d,qyQ q]:zA un),v.oneCell'=true:=by intro v hm;simp only [ê,ę,Ì] at hm;rcases hm with rfl|rfl|rfl|rfl|rfl|rfl<;>rfl
theorem VN {k:Nat}{n:Nat}{al:zA (Rat×Rat)}(h:bo 6 (RPk k) V p n al){i:Nat}(hi:i<al.length):p.isSome=true/\∃(x y:Int)(q:OA)(u z:Int)(D:OA)(a:Addr),ae p (i*6)=some a/\V.at (a.add 0) (Ô .i64 x)/\V.at (a.add 1) (Ô .i64 y)/\V.at (a.add 2) (qyQ q)/\V.at (a.add 3) (Ô .i64 u)/\V.at (a.add 4) (Ô .i64 z)/\V.at (a.add 5) (qyQ D)/\RPk k V (qvK #[Ô .i64 x,Ô .i64 y,qyQ q,Ô .i64 u,Ô .i64 z,qyQ D]) al[i]:=by have ⟨g,d,xs,j,f,b⟩:=h.at_ i hi;have c:=f;obtain ⟨⟨x,y,q,u,z,D,e,-⟩,-⟩:=f;have e:=Æ Array.toList (Value.agg.inj e);dsimp only at e;subst e;refine ⟨?_,x,y,q,u,z,D,g,d,b 0 _ rfl,b 1 _ rfl,b 2 _ rfl,b 3 _ rfl,b 4 _ rfl,b 5 _ rfl,c⟩;(cases p with|none=>{cases d}|some a=>rfl)
def bP (V:Ó)(v:Value)(l:L3):Prop:=RL V v l.1 l.2.1 l.2.2
theorem bP.le {V V':ut}(h:bP V v l)(e:V.Le V'):bP V' v l:=RL.le h e
theorem bG (h:bP V v l):∃(b1:md)(u:OA)(z c1:Nat)(D:md)(E:OA)(F M:Nat)(N:md)(O:OA)(Z c3:Nat),v=qvK #[Õ b1,dB u z c1,Õ D,dB E F M,Õ N,dB O Z c3]:=by obtain ⟨_,_,_,_,_,_,_,_,_,e,-⟩:=h;exact wqQ e
theorem rX {xs:zA un}(h:bP V (.agg (List.toArray xs)) l):∀v∈xs,v.oneCell'=true:=by have ⟨_,_,_,_,_,_,_,_,_,_,_,_,e⟩:=bG h;have e:=Æ Array.toList (Value.agg.inj e);dsimp only at e;subst e;intro v hm;simp only [ê,ę,Ì] at hm;rcases hm with rfl|rfl|rfl|rfl|rfl|rfl<;>rfl
theorem PM {b:md}{n c:Nat}{b':md}{F:OA}{M N:Nat}{u:md}{z:OA}{D E:Nat}:∀v∈([Õ b,dB p n c,Õ b',dB F M N,Õ u,dB z D E]:zA un),v.oneCell'=true:=by intro v hm;simp only [ê,ę,Ì] at hm;rcases hm with rfl|rfl|rfl|rfl|rfl|rfl<;>rfl
theorem mJ:∀(t:Tr) {V:ut} {p:OA},RW V p t->t.size<=1000000->À 97 #[qyQ p] V λr W=>∃q n c,r=dB q n c/\bo 6 bP W q n t.di
 | .leaf i,V,p,h,hs=>by
  obtain ⟨s,e0,-⟩:=ku h;exact rC V _ ⟨s,s,_,e0,λ_ V1 l1=>⟨_,_,_,rfl,bo.nil⟩,π⟩
 | .node ln a b,V,p,h,hs=>by
  have h0:=h;obtain ⟨k,i,l,o,u,w,x,y,z,A,B,C,D,E,pl,Q,rfl,hb,hl,ha,F⟩:=h
  have G:∀j v,([Õ false,Õ i,Õ l,dB o u w,Õ x,dB y z A,Õ B,dB C D E,qyQ pl,qyQ Q]:zA un)[j]?=some v->V.at ((⟨k,0,none⟩:Addr).add j) v:=by
   intro j v e;rw [add_zero'];exact dD (xs:=[_,_,_,_,_,_,_,_,_,_]) hb e
  have d:∀j v,([Õ l,dB o u w,Õ x,dB y z A,Õ B,dB C D E]:zA un)[j]?=some v->V.at (((⟨k,0,none⟩:Addr).add 2).add j) v:=by
   intro j v e;rw [Au];refine G (2+j) v ?_;have hj:j<6:=(Ġ.1 e).1
   match j,hj,e with
   | 0,_,h=>exact h
   | 1,_,h=>exact h
   | 2,_,h=>exact h
   | 3,_,h=>exact h
   | 4,_,h=>exact h
   | 5,_,h=>exact h
  simp only [Tr.size] at hs;have la:=jv a;have lb:=jv b;refine rC V _ ⟨rfl,rfl,false,yY hb 0 rfl,π,λ_=>⟨rfl,rfl,_,_,_,_,_,_,_,_,_,_,_,_,(⟨k,0,none⟩:Addr).add 2,rfl,d 0 _ rfl,d 1 _ rfl,d 2 _ rfl,d 3 _ rfl,d 4 _ rfl,d 5 _ rfl,rfl,rfl,pl,yY hb 8 rfl,rfl,rfl,Q,yY hb 9 rfl,λV2 H=>(mJ a (ha.le H) ω).s ?_⟩⟩;rintro r V3 R ⟨q,n,c,rfl,g⟩;obtain rfl:=g.len;have ⟨xs,x1,I,S⟩:=cV g φ
  have oc:∀v∈xs,v.oneCell'=true:=λv e=>by obtain ⟨m,hm,rfl⟩:=Qb5.1 e;exact eO S φ (λ_ _=>rX) ω (ñ hm)
  have r1:é 6 bP V3 ([Õ l,dB o u w,Õ x,dB y z A,Õ B,dB C D E]:zA un) [ln]:=row_one rfl (hl.le (H.m R));refine ⟨_,_,_,rfl,xs,x1,I,ω,Ù _,Ù 6,I,oc,λbk J sp c' h1 h2 V4 K=>(mJ b (F.le (H.m (R.m K))) ω).s ?_⟩;rintro r V5 T ⟨q',n',a1,rfl,U⟩;obtain rfl:=U.len;have ⟨W,y1,X,L⟩:=cV U φ
  have M:∀v∈W,v.oneCell'=true:=λv e=>by obtain ⟨m,hm,rfl⟩:=Qb5.1 e;exact eO L φ (λ_ _=>rX) ω (ñ hm)
  have Y:=d_ (sp:=sp) r1 S φ;have f:([ln]++a.di).length=1+a.di.length:=by simp;omega
  have r3:=d_ (sp:=[]) (Y.le λ_ _ g=>bP.le g (K.m T)) L φ;rw [f] at r3;refine ⟨_,_,_,rfl,W,y1,X,ω,h1,?_,X,M,λa2 J2 N a3 h3 h4 V6 l6 UN O=>⟨_,_,_,rfl,?_⟩⟩
  ·simp only [ë,è,Ą,İ,I];omega
  ·have Z:=d_ (sp:=N) (Y.le λ_ _ g=>bP.le g (K.m T)) L φ;rw [f] at Z;have:=bo.eN O (Z.le λ_ _ g=>bP.le g l6);have P:([ln]++a.di++b.di).length=1+a.di.length+b.di.length:=by{rw [ë,f]};rw [P] at this;exact this
end
end Go.Proofs.Tryz
