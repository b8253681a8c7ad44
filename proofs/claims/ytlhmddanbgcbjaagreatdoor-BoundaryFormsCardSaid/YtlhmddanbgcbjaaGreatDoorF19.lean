import Derived.Laws.IdiomCopy
import Derived.Lib.Overlaps
import Derived.Lib.JoinLaws
import Derived.Lib.AppendZerosOnto
import Derived.Shelf.RegionOpenPlain
import Derived.Lib.Walk
import Derived.Lib.SliceRun
import Derived.Laws.NewBlocks
import Derived.Test.YtlhmddanbgcbjaaGreatDoorF18
import Derived.Test.YtlhmddanbgcbjaaGreatDoorF9
set_option linter.all false
open Go.IntKind (i64 u64 u32)
open Go.Value renaming slice→zF,agg→hF,bool→dB,pointer→dS,tuple→tN,int→Ô
open Go.Eng Go.Big
namespace Go.Proofs.Tryz
section
variable{l:L3}{q x y:Rat}
theorem RH:∀(L:pz Rat) {lo hi:Rat},lo<hi->∃t,lo<t/\t<hi/\∀r∈L,t≠r
 | [],lo,hi,h=>⟨(lo+hi)/2,χ,χ,(λr hr=>by cases hr)⟩
 | r::L,lo,hi,h=>by
  by_cases c:lo<r/\r<hi
  ·have ⟨t,h1,h2,h3⟩:=RH L c.1;grind
  ·have ⟨t,h1,h2,h3⟩:=RH L h;grind
theorem SN {s:Sp}(h:s.good):∃lo hi,lo<hi/\∀t,lo<t->t<hi->s.inn t:=by have ⟨t,e⟩:=rA.1 h.2;obtain ⟨lo,hi,a,b⟩:=s;unfold Sp.inn at *;cases a<;>cases b<;>simp at e ⊢;{exact ⟨lo,hi,χ,λt c d=>⟨c,d⟩⟩};{exact ⟨lo,lo+1,χ,λt c d=>c⟩};{exact ⟨hi-1,hi,χ,λt c d=>d⟩};{exact ⟨0,1,φ⟩}
theorem AE {m:L3}(hm:bX m=true)(hl:bX l=true){t:Rat}(ht:t≠Ø m l):m=l\/m=Õ l\/ar m (cT l t) (cW l t)≠0:=by by_cases b:Ú m l=0;{by_cases a:ar m (cT l t) (cW l t)=0;{have c:=(j7 (qF hl) t).1;have hc:aw.cr (aw.aR m) (aw.aR l)=0:=by{rw [Sn];exact b};rcases UA (p:=(cT l t,cW l t)) hm hl a c hc with g|g<;>grind};{exact .inr (.inr a)}};{refine .inr (.inr λa=>ht ?_);rw [pg] at a;unfold Ø;grind}
theorem Tr.iq {P:L3->Prop}:∀{t:Tr},(∀l∈t.eU,P l)->t.dV P
 | .leaf _,_=>trivial
 | .node l x y,h=>⟨h l (þ ..),iq λm hm=>h m (ó _ (ĭ _ hm)),iq λm hm=>h m (ó _ (Ľ _ hm))⟩
theorem Ha {a b:md}:fe [⟨x,y,a,b⟩]=(if a then 0 else 1)+(if b then 0 else 1):=by unfold fe yy Sp.Iw Sp.Hf;cases a<;>cases b<;>rfl
theorem TA (h:y<=x):tS x y=x:=by unfold tS;rcases cY y x with ⟨g,e⟩|⟨g,e⟩|⟨g,e⟩<;>rw [e]<;>simp<;>grind
theorem maxQ_r (h:x<=y):tS x y=y:=by unfold tS;rcases cY y x with ⟨g,e⟩|⟨g,e⟩|⟨g,e⟩<;>rw [e]<;>simp<;>grind
theorem TC (h:x<=y):tT x y=x:=by unfold tT;rcases cY y x with ⟨g,e⟩|⟨g,e⟩|⟨g,e⟩<;>rw [e]<;>simp<;>grind
theorem minQ_r (h:y<=x):tT x y=y:=by unfold tT;rcases cY y x with ⟨g,e⟩|⟨g,e⟩|⟨g,e⟩<;>rw [e]<;>simp<;>grind
theorem SA:(⟨x,y,false,false⟩:Sp).emp=decide (y<=x):=by unfold Sp.emp;rcases cY x y with ⟨g,e⟩|⟨g,e⟩|⟨g,e⟩<;>simp only<;>simp<;>grind
theorem Yr {b:md}:(⟨x,y,true,b⟩:Sp).emp=false:=rfl
theorem Ys {a:md}:(⟨x,y,a,true⟩:Sp).emp=false:=by cases a<;>rfl
theorem Z9 {v:Sp}(h:v.good)(p:Rat):(v.innB p=true/\(v.meet ⟨p,0,false,true⟩).emp=false/\(v.meet ⟨0,p,true,false⟩).emp=false/\fe [v.meet ⟨p,0,false,true⟩]+fe [v.meet ⟨0,p,true,false⟩]<=fe [v]+2) \/ (v.meet ⟨p,0,false,true⟩=v/\(v.meet ⟨0,p,true,false⟩).emp=true)\/(v.meet ⟨0,p,true,false⟩=v/\(v.meet ⟨p,0,false,true⟩).emp=true):=by obtain ⟨⟨c,d⟩,he⟩:=h;obtain ⟨e,f,a,b⟩:=v;unfold Sp.meet Sp.innB;cases a<;>cases b;{grind [SA,TA,minQ_r,TC,maxQ_r,Ha]};{grind [SA,TA,Ha,Ys]};{grind [SA,TC,Ha,Yr]};{left;simp [Ha,Yr,Ys]}
def bf (l:L3)(e:Bool):Tr->Sp->List Sp
 | .leaf i,v=>if i=true then [v] else []
 | .node m x y,v=>
  if m=l/\e=true\/m=Õ l/\e=false then bf l e x v
  else if m=l\/m=Õ l then bf l e y v
  else (if cF l v m=true then bf l e x (bu l v m) else [])++(if cF l v (Õ m)=true then bf l e y (bu l v (Õ m)) else [])
def Crs (l:L3)(P:List Rat)(t:Tr):Prop:=t.dV λm=>Ú m l≠0->Ø m l∈P
theorem JU {s w:Sp}(h:(s.meet w).cZ q):s.cZ q\/w.cZ q:=by unfold Sp.cZ Sp.meet at *;have mx:∀x y,tS x y=x\/tS x y=y:=λx y=>by{unfold tS;split<;>simp};have mn:∀x y,tT x y=x\/tT x y=y:=λx y=>by{unfold tT;split<;>simp};have a:=mx s.lo w.lo;have b:=mn s.hi w.hi;obtain ⟨s1,s2,s3,s4⟩:=s;obtain ⟨e,f,c,d⟩:=w;cases s3<;>cases c<;>cases s4<;>cases d<;>simp at h a b⊢<;>grind
theorem Wj {m:L3}{s:Sp}(h:(bu l s m).cZ q):s.cZ q\/Ú m l≠0/\q=Ø m l:=by unfold bu at h;rcases cM (Ú m l) with ⟨g,e⟩|⟨g,e⟩|⟨g,e⟩<;>rw [e] at h;{exact .inl h};{rcases JU h with h|⟨_,h⟩|⟨h,_⟩;{exact .inl h};{exact .inr ⟨χ,h⟩};{cases h}};{rcases JU h with h|⟨h,_⟩|⟨_,h⟩;{exact .inl h};{cases h};{exact .inr ⟨χ,h⟩}}
theorem Zy {f g h k:Rat->md}(H:∀c,(f c).toNat+(g c).toNat+(h c).toNat<=(k c).toNat):∀l:pz Rat,l.countP f+l.countP g+l.countP h<=l.countP k
 | []=>ψ
 | c::l=>by
  have h1:=Zy H l;have a:=H c;have e:∀b:md,(if b=true then 1 else 0)=b.toNat:=λb=>by cases b<;>rfl
  grind
theorem Wi {m:L3}{s:Sp}(h:Ú m l=0):bu l s m=s:=by unfold bu;rw [h];rfl
theorem Sq {m:L3}{s:Sp}(h:Ú m l=0):cF l s m=decide ((j8 m l).num.sign>0):=by unfold cF;rw [h];rfl
theorem UY {l m:L3}{v:Sp}(hv:v.good):(cF l v m=true/\cF l v (Õ m)=true/\Ú m l≠0/\v.innB (Ø m l)=true/\fe [bu l v m]+fe [bu l v (Õ m)]<=fe [v]+2)\/(bu l v m=v/\cF l v (Õ m)=false)\/(bu l v (Õ m)=v/\cF l v m=false):=by
 have key:Ú m l≠0->∀s,cF l s m=!(bu l s m).emp:=λf s=>by unfold cF;grind [cM]
 have g:Ú (Õ m) l≠0->∀s,cF l s (Õ m)=!(bu l s (Õ m)).emp:=λf s=>by unfold cF;grind [cM]
 by_cases f:Ú m l=0
 ·grind [dot_rev,cM,Wi,Sq,NP]
 ·have k:Ú (Õ m) l≠0:=by rw [dot_rev];grind
  rw [key f,g k];have H:=Z9 hv (Ø m l);have j:=cutP_rev f
  have mk:∀{x y:Sp},bu l v m=x->bu l v (Õ m)=y->(v.innB (Ø m l)=true/\x.emp=false/\y.emp=false/\fe [x]+fe [y]<=fe [v]+2)\/(x=v/\y.emp=true)\/(y=v/\x.emp=true) ->
    ((!(bu l v m).emp)=true/\(!(bu l v (Õ m)).emp)=true/\Ú m l≠0/\v.innB (Ø m l)=true/\fe [bu l v m]+fe [bu l v (Õ m)]<=fe [v]+2)\/(bu l v m=v/\(!(bu l v (Õ m)).emp)=false)\/(bu l v (Õ m)=v/\(!(bu l v m).emp)=false):=by
   rintro x y rfl rfl (⟨a,b,c,d⟩|⟨a,b⟩|⟨a,b⟩)
   ·exact .inl ⟨by rw [b];rfl,by rw [c];rfl,f,a,d⟩
   ·exact .inr (.inl ⟨a,by rw [b];rfl⟩)
   ·exact .inr (.inr ⟨a,by rw [b];rfl⟩)
  rcases cM (Ú m l) with ⟨h,e⟩|⟨h,e⟩|⟨h,e⟩
  ·exact Å h f
  ·have i:(Ú (Õ m) l).num.sign=-1:=by{grind [cM,dot_rev]};exact mk (by unfold bu;rw [e];rfl) (by unfold bu;rw [j,i];rfl) H
  ·have i:(Ú (Õ m) l).num.sign=1:=by{grind [cM,dot_rev]};refine mk (x:=v.meet ⟨0,Ø m l,true,false⟩) (y:=v.meet ⟨Ø m l,0,false,true⟩) (by unfold bu;rw [e];rfl) (by unfold bu;rw [j,i];rfl) ?_<;>grind
theorem vC {P:pz Rat}{e:md}:∀{t:Tr} {v:Sp},v.good->Crs l P t->(∀q,v.cZ q->q∈P) ->(∀s∈bf l e t v,s.good/\∀q,s.cZ q->q∈P)/\fe (bf l e t v)<=fe [v]+2*P.countP v.innB/\(bf l e t v).length<=1+P.countP v.innB
 | .leaf i,v,hv,_,hP=>by
  cases i
  ·exact ⟨λs h=>(nomatch h),â _,â _⟩
  ·exact ⟨λs h=>by rw [ö.1 h];exact ⟨hv,hP⟩,Qr2 ..,Qr2 ..⟩
 | .node m x y,v,hv,hc,hP=>by
  obtain ⟨cm,cx,cy⟩:=hc;unfold bf;split
  ·exact vC hv cx hP
  ·split
   ·exact vC hv cy hP
   ·have ends:∀{k:L3},(k=m\/k=Õ m)->∀q,(bu l v k).cZ q->q∈P:=λ{k} r q h=>by rcases Wj h with g|⟨g,eq⟩<;>grind [dot_rev,cutP_rev]
    have A:(cF l v m=true->(∀s∈bf l e x (bu l v m),s.good/\∀q,s.cZ q->q∈P)/\fe (bf l e x (bu l v m))<=fe [bu l v m]+2*P.countP (bu l v m).innB/\(bf l e x (bu l v m)).length<=1+P.countP (bu l v m).innB):=λh=>vC (gR hv h) cx (ends (.inl rfl));have B:(cF l v (Õ m)=true->(∀s∈bf l e y (bu l v (Õ m)),s.good/\∀q,s.cZ q->q∈P)/\fe (bf l e y (bu l v (Õ m)))<=fe [bu l v (Õ m)]+2*P.countP (bu l v (Õ m)).innB/\(bf l e y (bu l v (Õ m))).length<=1+P.countP (bu l v (Õ m)).innB):=λh=>vC (gR hv h) cy (ends (.inr rfl));refine ⟨λs h=>?_,?_⟩
    ·rcases õ.1 h with h|h<;>grind
    ·rw [Me,í];rcases UY (l:=l) (m:=m) hv with ⟨a,b,j,n,u⟩|⟨d,b⟩|⟨d,a⟩
     ·rw [Ä a,Ä b];have o:=(A a).2;have p:=(B b).2;have w:0<P.countP λc=>decide (c=Ø m l):=Qr6.2 ⟨_,cm j,ψ⟩
      have H:=Zy (f:=(bu l v m).innB) (g:=(bu l v (Õ m)).innB) (h:=λc=>decide (c=Ø m l)) (k:=v.innB) (λc=>by
       have i1:=(g_ (l:=l) (s:=v) (m:=m)).1 a c;have i2:=(g_ (l:=l) (s:=v) (m:=Õ m)).1 b c;rw [val_rev] at i2;rw [<-innB_iff,<-innB_iff] at i1 i2
       have i3:c=Ø m l->v.innB c=true/\ar m (cT l c) (cW l c)=0:=by
        rintro rfl;refine ⟨n,?_⟩;rw [pg];unfold Ø;grind
       cases o:(bu l v m).innB c<;>cases p:(bu l v (Õ m)).innB c<;>cases h3:v.innB c<;>by_cases z:c=Ø m l<;>simp at i1 i2 i3⊢<;>grind) P
      omega
     ·rw [Ã (c:=cF l v (Õ m)=true) (by rw [b];simp)];split;{rename_i g;have:=(A g).2;rw [d] at this ⊢;exact this};{exact ⟨â _,â _⟩}
     ·rw [Ã (c:=cF l v m=true) (by rw [a];simp)];split;{rename_i g;have:=(B g).2;rw [d] at this ⊢;exact ⟨by show 0+_<=_;omega,by show 0+_<=_;omega⟩};{exact ⟨â _,â _⟩}
def i_ (l:L3)(e:Bool):Rat×Rat:=if e=true then ((l.1:Rat),(l.2.1:Rat)) else (-(l.1:Rat),-(l.2.1:Rat))
theorem vB (ol:bX l=true){e:md}:∀{t:Tr} {v:Sp},v.good->(t.dV λm=>bX m=true/\(Ú m l≠0->Ø m l≠q)) ->è (bf l e t v) q=(v.innB q&&(aw.C8 t (cT l q,cW l q) (i_ l e)).1)
 | .leaf i,v,_,_=>by cases i<;>simp [bf,aw.C8,è]
 | .node m x y,v,hv,hc=>by
  obtain ⟨⟨om,cm⟩,cx,cy⟩:=hc
  have nl:(l.1:Rat)*l.1+(l.2.1:Rat)*l.2.1>0:=by
   have h:=jo ol
   have n:∀z:Rat,z≠0->z*z>0:=λz c=>by rcases cM z with ⟨g,_⟩|⟨g,_⟩|⟨g,_⟩;{exact Å g c};{exact ń g g};{have:=ń (show -z>0 by grind) (show -z>0 by grind);grind}
   have d:∀z:Rat,z*z≥0:=λz=>by by_cases c:z=0;{rw [c];grind};{have:=n z c;grind}
   have f:=d l.1;have j:=d l.2.1;by_cases p:l.1=0
   ·have o:l.2.1≠0:=λo=>h ⟨p,o⟩;have:=n l.2.1 (by exact_mod_cast o);grind
   ·have:=n l.1 (by exact_mod_cast p);grind
  have v0:=(j7 (jo ol) q).1
  have r:∀{z:Rat} ,0<z->z.num.sign=1:=λ{z} c=>by rcases cM z with ⟨h,_⟩|⟨h,e⟩|⟨h,_⟩;{grind};{exact e};{grind}
  have u:∀{z:Rat} ,z<0->z.num.sign=-1:=λ{z} c=>by rcases cM z with ⟨h,_⟩|⟨h,_⟩|⟨h,e⟩;{grind};{grind};{exact e}
  unfold bf aw.C8;have sd:∀z,aw.QM m (cT l q,cW l q) (i_ l e)=z↔(if (ar m (cT l q) (cW l q)).num.sign=0 then (aw.nv m (i_ l e)).num.sign else (ar m (cT l q) (cW l q)).num.sign)=z:=λz=>Wv0;split
  ·rename_i h;have:aw.QM m (cT l q,cW l q) (i_ l e)=1:=by{rw [sd];rcases h with ⟨rfl,rfl⟩|⟨rfl,rfl⟩;{rw [v0];exact r (by unfold aw.nv i_;simpa using nl)};{rw [val_rev,v0];exact r (by unfold aw.nv i_ Õ;simp;grind)}};rw [Ä this];exact vB ol hv cx
  ·split;{rename_i f h;have:aw.QM m (cT l q,cW l q) (i_ l e)=-1:=by{rw [sd];cases e;{rcases h with rfl|rfl;{rw [v0];exact u (by unfold aw.nv i_;simp;grind)};{exact Å (.inr ⟨rfl,rfl⟩) f}};{rcases h with rfl|rfl;{exact Å (.inl ⟨rfl,rfl⟩) f};{rw [val_rev,v0];exact u (by unfold aw.nv i_ Õ;simp;grind)}}};rw [this,Ã φ,Ä rfl];exact vB ol hv cy};{rename_i f h;have A:ar m (cT l q) (cW l q)≠0:=by{by_cases w:Ú m l=0;{rcases AE om ol (t:=Ø m l+1) χ with g|g|g;{exact Å (.inl g) h};{exact Å (.inr g) h};{rw [pg,w] at *;grind}};grind [AE]};have app:∀a b:pz Sp,è (a++b) q=(è a q||è b q):=λa b=>by{unfold è;rw [List.any_append]};have one:∀{k:L3} {z:Tr},(∀{v:Sp},v.good->è (bf l e z v) q=(v.innB q&&(aw.C8 z (cT l q,cW l q) (i_ l e)).1))->è (if cF l v k=true then bf l e z (bu l v k) else []) q=(v.innB q&&decide (0<ar k (cT l q) (cW l q))&&(aw.C8 z (cT l q,cW l q) (i_ l e)).1):=λ{k z} c=>by{split;{rename_i g;rw [c (gR hv g)];congr 1;have:=(g_ (l:=l) (s:=v) (m:=k)).1 g q;rw [<-innB_iff,<-innB_iff] at this;(cases f:(bu l v k).innB q<;>cases j:v.innB q<;>simp [j] at this⊢<;>first|exact this|grind)};{rename_i g;have:=(g_ (l:=l) (s:=v) (m:=k)).2 hv.2 (by simpa using g) q;rw [<-innB_iff] at this;cases j:v.innB q;{simp [è]};{simp [è,this j]}}};rw [app,one λhv=>vB ol hv cx,one λhv=>vB ol hv cy,val_rev];grind [aw.QM]}
def po (l:L3)(t:Tr):List Sp:=Ö 3 (Ö 1 (bf l true t bZ) []) (Ö 1 (bf l false t bZ) [])
theorem lr:bZ.good:=⟨⟨λ_=>rfl,λ_=>rfl⟩,rfl⟩
theorem PV (q:Rat):bZ.innB q=true:=rfl
theorem SI (q:Rat):¬bZ.cZ q:=by rintro (⟨h,_⟩|⟨h,_⟩)<;>cases h
section
variable {l:L3} {P:List Rat} {e:Bool} {t:Tr} (hc:Crs l P t)
include hc
theorem OB:(∀s∈bf l e t bZ,s.good/\∀q,s.cZ q->q∈P)/\fe (bf l e t bZ)<=2*P.length/\(bf l e t bZ).length<=1+P.length:=by have ⟨a,b,c⟩:=vC (e:=e) lr hc λq h=>Å h (SI q);have:P.countP bZ.innB<=P.length:=List.countP_le_length ..;have:fe [bZ]=0:=rfl;grind
theorem nO:∀q∈Þ (Ö 1 (bf l e t bZ) []),q∈P:=λq b=>by
 have ⟨s,c,h⟩:=eY.1 b;have ⟨d,f⟩:=nw s c;have:q∈Þ (bf l e t bZ++[]):=by rcases h with ⟨a,rfl⟩|⟨a,rfl⟩;exact d a;exact f a
 have ⟨u,hu,h⟩:=eY.1 this;rw [Ć] at hu;exact ((OB hc).1 u hu).2 q h
theorem Ue (hP:asc P):fe (Ö 1 (bf l e t bZ) [])<=P.length:=by refine Am (HH (comb_reg 1 _ _)) hP λx a=>nO hc (e:=e) x (eY.2 ?_);have ⟨s,b,a⟩:=Đ.1 a;rcases õ.1 a with a|a;{exact ⟨s,b,.inl (mC a)⟩};{exact ⟨s,b,.inr (oN a)⟩}
theorem on_end:∀s∈po l t,∀q,s.cZ q->q∈P:=λs b q h=>by
 have ⟨c,d⟩:=nw s b;have:q∈Þ (Ö 1 (bf l true t bZ) []++Ö 1 (bf l false t bZ) []):=by rcases h with ⟨a,rfl⟩|⟨a,rfl⟩;exact c a;exact d a
 have ⟨u,hu,h⟩:=eY.1 this;rcases õ.1 hu with hu|hu<;>grind [nO,eY.2]
theorem J6 (ol:bX l=true)(ht:t.dV λm=>bX m=true){q:Rat}(hq:q∉P):è (po l t) q=((aw.C8 t (cT l q,cW l q) (i_ l true)).1&&!(aw.C8 t (cT l q,cW l q) (i_ l false)).1):=by
 have a:t.dV λm=>bX m=true/\(Ú m l≠0->Ø m l≠q):=by
  induction t with
  | leaf=>trivial
  | node m x y ix iy=>exact ⟨⟨ht.1,λh g=>hq (g▸hc.1 h)⟩,ix hc.2.1 ht.2.1,iy hc.2.2 ht.2.2⟩
 have one:∀e,è (Ö 1 (bf l e t bZ) []) q=(aw.C8 t (cT l q,cW l q) (i_ l e)).1:=λe=>by
  rw [comb_inB 1 _ _ (λh=>by
   have ⟨u,hu,h⟩:=eY.1 h;rw [Ć] at hu;exact hq (((OB hc).1 u hu).2 q h)),vB ol lr a]
  simp [ę,è,PV]
 unfold po
 rw [comb_inB 3 _ _ (λh=>by
  have ⟨u,hu,h⟩:=eY.1 h;rcases õ.1 hu with hu|hu
  ·exact hq (nO hc (e:=true) q (eY.2 ⟨u,hu,h⟩))
  ·exact hq (nO hc (e:=false) q (eY.2 ⟨u,hu,h⟩))),one,one]
 rfl
end
end
section
variable{v:Value}{V:Ó}{c k n:Nat}{vs:List Value}{A B l ss:List Sp}{p:OA}
theorem Ts (V:ut):V.Le V.shut:=λ_ _ h=>h
def dC:pk:=(0,0,0)
def cC (a b:pk):Int:=dO a.1 b.1
theorem ordC:œ cC:=⟨λa b h=>by unfold cC at *;rcases cY a.1 b.1 with ⟨c,e⟩|⟨c,e⟩|⟨c,e⟩<;>rcases cY b.1 a.1 with ⟨h2,e'⟩|⟨h2,e'⟩|⟨h2,e'⟩<;>rw [e] at h<;>rw [e']<;>grind,
 λa b d h f=>by unfold cC at *;rcases cY a.1 b.1 with ⟨c,e⟩|⟨c,e⟩|⟨c,e⟩<;>rcases cY b.1 d.1 with ⟨h2,e'⟩|⟨h2,e'⟩|⟨h2,e'⟩<;>rcases cY a.1 d.1 with ⟨h3,e3⟩|⟨h3,e3⟩|⟨h3,e3⟩<;>rw [e] at h<;>rw [e'] at f<;>rw [e3]<;>grind⟩
def RC (V:Ó)(v:Value)(c:pk):Prop:=∃(x y:Int)(p:OA),v=.agg #[.int .i64 x,.int .i64 y,.pointer p,.int .i64 c.2.1,.int .i64 c.2.2]/\RR V (.agg #[.int .i64 x,.int .i64 y,.pointer p]) c.1/\Sz 1000000 c.1
theorem RC.le {V V':ut}{c:pk}(h:RC V v c)(l:V.Le V'):RC V' v c:=by obtain ⟨x,y,p,e,a,b⟩:=h;exact ⟨x,y,p,e,a.le l,b⟩
theorem RC.shape {c:pk}(h:RC V v c):∃(x y:Int)(p:OA)(a b:Int),v=hF #[Ô .i64 x,Ô .i64 y,dS p,Ô .i64 a,Ô .i64 b]:=by obtain ⟨x,y,p,e,-⟩:=h;exact ⟨x,y,p,_,_,e⟩
theorem Pr {w:un}{a b:pk}(h:RC V v a)(h':RC V w b):À 203 #[v,w] V λr V'=>r=Ô .i64 (cC a b):=by obtain ⟨x,y,p,rfl,f,g⟩:=h;obtain ⟨i,j,k,rfl,c,d⟩:=h';refine Dg V _ λl e=>(mi (f.le e) (c.le e) g d).s ?_;rintro r V2 m rfl;exact ⟨_,rfl,λn o=>rfl⟩
structure SR (V:Ó) (n:Nat) (vs:List Value) (l:List pk):Prop where
 row:ç 5 RC V vs l
 len:n=l.length
 mN:l.length<4000
theorem SR.le {V V':ut}{l:pz pk}(h:SR V n vs l)(e:V.Le V'):SR V' n vs l:=⟨h.row.le λ_ _ g=>RC.le g e,h.len,h.mN⟩
theorem SR.get {l:pz pk}(h:SR V n vs l){k:Nat}(hk:k<l.length):∃(x y:Int)(p:OA)(a b:Int),((0+k*5)+5<=vs.length/\(vs.drop (0+k*5)).take 5=[Ô .i64 x,Ô .i64 y,dS p,Ô .i64 a,Ô .i64 b])/\RC V (hF #[Ô .i64 x,Ô .i64 y,dS p,Ô .i64 a,Ô .i64 b]) (l.getD k dC):=by obtain ⟨xs,-,c,f,g⟩:=h.row.get (d:=dC) hk φ;obtain ⟨x,y,p,a,b,e⟩:=c.shape;have e:=Æ Array.toList (Value.agg.inj e);subst e;rw [ą];exact ⟨x,y,p,a,b,⟨f,g⟩,c⟩
theorem RC.cells {c:pk}(h:RC V v c):∃xs:pz un,v=.agg xs.toArray/\xs.length=5/\∀x∈xs,x.oneCell'=true:=by obtain ⟨_,_,_,_,_,rfl⟩:=h.shape;exact ⟨_,rfl,rfl,ĩ.1 rfl⟩
theorem LD {lb:Nat}{l:pz pk}(hw:V.w.heap[lb]?=some (.cells vs.toArray 302 (0,0)))(hx:V.X lb)(h:SR V n vs l):À 202 #[zF (some ⟨lb,0,none⟩) n c,.func (.func 203) #[] #[]] V λr V'=>r=tN #[]/\∃vs' l',V'.w.heap[lb]?=some (.cells vs'.toArray 302 (0,0))/\SR V' n vs' l'/\l'.Perm l/\l'.Pairwise λx y=>x.1<=y.1:=by have mN:=h.mN;refine (KD (R:=RC) (cf:=cC) Gc aggC sizC RC.le RC.cells ordC Pr φ hw hx h.row h.len).s λr V' i ⟨rfl,vs',l',e,row,pm,g⟩=>⟨rfl,vs',l',e,⟨row,h.len.m pm.length_eq.symm,by rw [pm.length_eq];exact mN⟩,pm,g.imp λ{a b} d=>?_⟩;unfold cC at d;rcases cY b.1 a.1 with ⟨f,e⟩|⟨f,e⟩|⟨f,e⟩<;>rw [e] at d<;>grind
theorem Bf:À 202 #[zF none 0 0,.func (.func 203) #[] #[]] V λr V'=>r=tN #[]:=
 (xN Gc).s λ_ _ _ h=>h.1
def nZ (m:Nat):Prop:=∀(V:Ó)(lb n c:Nat)(vs:List Value)(l:List pk),l.length=m->V.w.heap[lb]?=some (.cells vs.toArray 302 (0,0))->V.X lb->SR V n vs l ->
 À 202 #[.slice (some ⟨lb,0,none⟩) n c,.func (.func 203) #[] #[]] V λr V'=>r=.tuple #[]/\∃vs' l',V'.w.heap[lb]?=some (.cells vs'.toArray 302 (0,0))/\SR V' n vs' l'/\l'.Perm l/\l'.Pairwise λx y=>x.1<=y.1
theorem CO (m:Nat):nZ m:=λ_ _ _ _ _ _ _ hw a h=>LD hw a h
theorem Fx {V:ut}{ab ob fa:Nat}{x y:Int}{acc:md->md->md}(hw:V.w.heap[ab]?=some (.cells #[.func (.func fa) #[] #[]] 251 (0,0)))(hx:V.X ab)(hw':V.w.heap[ob]?=some (.cells #[Ô .i64 x,Ô .i64 y] 300 (0,0)))(hx':V.X ob)(hne:ab≠ob)(hf:∀a b (W:ut),À fa #[dB a,dB b] W λr _=>r=dB (acc a b)):À 204 #[dS (some ⟨ab,0,none⟩),dS (some ⟨ob,0,none⟩)] V λr V'=>r=dB (acc (decide ((0:Int)<x)) (decide ((0:Int)<y)))/\V'.w.heap[ab]?=some (.cells #[.func (.func fa) #[] #[]] 251 (0,0))/\V'.w.heap[ob]?=some (.cells #[Ô .i64 x,Ô .i64 y] 300 (0,0)):=by refine Dh ab ob fa x y V _ hw hx hw' hx' hne ⟨φ,φ,λc f=>(hf _ _ c).s ?_⟩;rintro r V2 g rfl;exact ⟨_,rfl,λh i d e=>⟨rfl,d,e⟩⟩
def Ox (A:List Sp)(k:Nat)(m:Int):List Value:=if k=0 then [.int .i64 m,.int .i64 0] else if k=1 then [.int .i64 (mZ A),.int .i64 m] else []
theorem W9 {m:Int}(hk:k<2):(Ox A k m)[0+k*1]?=some (Ô .i64 m):=by obtain rfl|rfl:k=0\/k=1:=ω;{rfl};{rfl}
theorem W_ {m:Int}(hk:k<2):(Ox A k m).length=2:=by obtain rfl|rfl:k=0\/k=1:=ω;{rfl};{rfl}
theorem Xa {m m':Int}(hk:k<2):(Ox A k m).set (0+k*1) (Ô .i64 m')=Ox A k m':=by obtain rfl|rfl:k=0\/k=1:=ω;{rfl};{rfl}
theorem W6 {a b:pz Sp}:mZ (a++b)=mZ a+mZ b:=by
 induction a with
 | nil=>simp [mZ]
 | cons s r ih=>simp only [Qc0,mZ];omega
theorem Ht:∀{a:pz Sp},0<=mZ a/\mZ a<=a.length
 | []=>⟨Wx2 _,Wx2 _⟩
 | s::r=>by
  have ⟨h1,h2⟩:=Ht (a:=r);simp only [mZ,Ą];split<;>omega
theorem VZ {c:pk}:c∈qg A B->(c.2.1=0\/c.2.1=1)/\(c.2.2=1\/c.2.2=-1):=by intro h;have one:∀{k:Int} {s:Sp},c∈kd k s->c.2.1=k/\(c.2.2=1\/c.2.2=-1):=λ{k s} h=>by{rcases õ.1 h with h|h;{split at h;{cases h};{rw [ö.1 h];exact ⟨rfl,.inl rfl⟩}};{split at h;{cases h};{rw [ö.1 h];exact ⟨rfl,.inr rfl⟩}}};rcases õ.1 h with h|h<;>grind
theorem HT {k:Int}:∀{l:pz pk},(∀c∈l,c.2.2=1\/c.2.2=-1)->-(l.length:Int)<=iU k l/\iU k l<=l.length
 | [],_=>⟨Wx2 _,Wx2 _⟩
 | c::r,h=>by
  have ⟨h1,h2⟩:=HT (k:=k) (l:=r) λx a=>h x (by simp [a]);have:=h c ψ;simp only [iU,Ą];split<;>omega
def Kc (A B:List Sp)(l:List pk):List Value:=[.int .i64 (mZ A+iU 0 l),.int .i64 (mZ B+iU 1 l)]
def osX (A B:List Sp)(l:List pk)(k:Int):Int:=if k=0 then mZ A+iU 0 l else mZ B+iU 1 l
theorem Xb {l:pz pk}{k:Int}(hk:k=0\/k=1):(Kc A B l)[0+k.toNat*1]?=some (Ô .i64 (osX A B l k)):=by rcases hk with rfl|rfl<;>rfl
theorem Xc {l:pz pk}{c:pk}(hk:c.2.1=0\/c.2.1=1):(Kc A B l).set (0+c.2.1.toNat*1) (Ô .i64 (osX A B l c.2.1+c.2.2))=Kc A B (l++[c]):=by unfold Kc osX;rw [CU,CU];simp only [iU];rcases hk with h|h<;>rw [h];{simp [Int.add_assoc]};{simp [Int.add_assoc]}
structure CR (V:Ó) (n c:Nat) (vs:List Value) (l:List pk):Prop where
 len:n=l.length
 le:n<=c
 cap:c*5<=vs.length
 row:ç 5 RC V vs l
 ne:vs≠[]->l≠[]
theorem CR.snoc {l:pz pk}(h:CR V n c vs l){x y:Int}{q:Rat}(hr:RR V (hF #[Ô .i64 x,Ô .i64 y,dS p]) q)(hs:Sz 1000000 q)(k d:Int){sp:pz un}{c':Nat}(h1:n+1<=c')(h2:c'*5<=(n+1)*5+sp.length):CR V (n+1) c' (vs.take (n*5)++([Ô .i64 x,Ô .i64 y,dS p,Ô .i64 k,Ô .i64 d]:pz un)++sp) (l++[(q,k,d)]):=by have b:=h.len;have hc:=h.cap;have e:=h.le;refine ⟨by rw [í,b];rfl,h1,?_,?_,λ_=>ψ⟩;{have f:(vs.take (n*5)).length=n*5:=by{rw [é];omega};grind};{have:=h.row.snoc (sp:=sp) (xs:=[Ô .i64 x,Ô .i64 y,dS p,Ô .i64 k,Ô .i64 d]) (a:=(q,k,d)) rfl ⟨x,y,p,rfl,hr,hs⟩ φ;grind}
structure IR (V:Ó) (n c:Nat) (vs:List Value) (l:List Sp):Prop where
 len:n=l.length
 le:n<=c
 cap:c*8<=vs.length
 row:ç 8 eM V vs l
theorem IR.s {V':ut}(h:IR V n c vs l)(e:V.Le V'):IR V' n c vs l:=⟨h.len,h.le,h.cap,h.row.le λ_ _ g=>eM.le g e⟩
theorem IR.nil:IR V 0 0 [] []:=⟨rfl,Ù _,Ù _,ç.nil⟩
theorem IR.snoc (h:IR V n c vs l){x1 x2:Int}{y1 y2:Int}{q:OA}{s:Sp}(hr:RR V (hF #[Ô .i64 x1,Ô .i64 x2,dS p]) s.lo)(hr':RR V (hF #[Ô .i64 y1,Ô .i64 y2,dS q]) s.hi){sp:pz un}{c':Nat}(h1:n+1<=c')(h2:c'*8<=(n+1)*8+sp.length):IR V (n+1) c' (vs.take (n*8)++([Ô .i64 x1,Ô .i64 x2,dS p,Ô .i64 y1,Ô .i64 y2,dS q,dB s.a,dB s.b]:pz un)++sp) (l++[s]):=by have d:=h.len;have hc:=h.cap;have e:=h.le;refine ⟨by rw [í,d];rfl,h1,?_,?_⟩;{have f:(vs.take (n*8)).length=n*8:=by{rw [é];omega};grind [List.length_cons]};{have:=h.row.snoc (sp:=sp) (xs:=[Ô .i64 x1,Ô .i64 x2,dS p,Ô .i64 y1,Ô .i64 y2,dS q,dB s.a,dB s.b]) (a:=s) rfl (qyW ⟨rfl,hr,hr'⟩) φ;grind}
theorem one5 {x y:Int}{a b:Int}:∀v∈([Ô .i64 x,Ô .i64 y,dS p,Ô .i64 a,Ô .i64 b]:pz un),v.oneCell'=true:=by intro v hm;simp only [å,Ě,Ì] at hm;rcases hm with rfl|rfl|rfl|rfl|rfl<;>rfl
theorem one8 {x1 x2:Int}{y1 y2:Int}{q:OA}{a b:md}:∀v∈([Ô .i64 x1,Ô .i64 x2,dS p,Ô .i64 y1,Ô .i64 y2,dS q,dB a,dB b]:pz un),v.oneCell'=true:=by intro v hm;simp only [å,Ě,Ì] at hm;rcases hm with rfl|rfl|rfl|rfl|rfl|rfl|rfl|rfl<;>rfl
def LK (A B:List Sp)(k:Nat):List Sp:=if k=0 then A else B
def Yj (A B:List Sp)(k:Nat):List pk:=if k=0 then [] else if k=1 then A.flatMap (kd 0) else qg A B
def osA (A B:List Sp)(k:Nat):List Value:=if k=2 then Kc A B [] else Ox A k 0
theorem IU {A B:pz Sp}(hk:k<2):Yj A B k++(LK A B k).flatMap (kd k)=Yj A B (k+1):=by obtain rfl|rfl:k=0\/k=1:=ω;{rfl};{rfl}
theorem T7 (hk:k<2):Ox A k (mZ (LK A B k))=osA A B (k+1):=by obtain rfl|rfl:k=0\/k=1:=ω;{rfl};{simp [Ox,osA,Kc,LK,iU]}
theorem mA_pos {b:Nat}(h:0<c):mA b c=some ⟨b,0,none⟩:=by unfold mA;rw [Ã ω]
theorem PS {f:Sp->pz pk}{j:Nat}(h:j<l.length):(l.take (j+1)).flatMap f=(l.take j).flatMap f++f l[j]:=by rw [ŀ,ô h,Qc1];simp
theorem T2 {j:Nat}(h:j<l.length):mZ (l.take (j+1))=mZ (l.take j)+if l[j].a then 1 else 0:=by rw [ŀ,ô h,W6];simp [mZ]
theorem VL {A B:pz Sp}{k j:Nat}(hk:k<2):(Yj A B k++((LK A B k).take j).flatMap (kd k)).length<=fe A+fe B:=by
 have c:((LK A B k).flatMap (kd k)).length=(((LK A B k).take j).flatMap (kd k)).length+(((LK A B k).drop j).flatMap (kd k)).length:=by
  conv=>lhs;rw [<-Qv0 j (LK A B k),Qc1]
  rw [í]
 have a:=Æ List.length (IU (A:=A) (B:=B) hk);rw [í] at a
 have b:(Yj A B (k+1)).length<=(qg A B).length:=by obtain rfl|rfl:k=0\/k=1:=ω;{unfold qg;rw [í];exact Qr2 _ _};{exact Ù _}
 rw [G1] at b;rw [í];omega
theorem XC {acc:md->md->md}{cs:pz pk}{was:md}{last:Sp}{out:pz Sp}(h:Ya acc A B cs cs.length was last out){op:Int}(ha:∀t,acc (è A t) (è B t)=ę op (è A t) (è B t)):CX was last out=Ö op A B:=by refine reg_eq (Þ (A++B)) h.rg (comb_reg _ _ _) λt a=>?_;rw [comb_inB _ _ _ a,h.inn t (λs b he=>a (eY.2 ⟨s,b,he⟩)) λh=>Å h (Ww0 _)];exact ha t
theorem Ja {p0 p1:OA}{n0 c0 n1 c1 fa:Nat}{op:Int}{acc:md->md->md}(hacc:∀t,acc (è A t) (è B t)=ę op (è A t) (è B t))(hA:bP 8 eM V p0 n0 A)(hB:bP 8 eM V p1 n1 B)(gA:∀s∈A,s.good)(gB:∀s∈B,s.good)(sA:∀s∈A,s.sz 1000000)(sB:∀s∈B,s.sz 1000000)(nA:A.length<=1000)(nB:B.length<=1000)(mN:fe A+fe B<200)(so:nZ (fe A+fe B))(hf:∀a b (W:ut),À fa #[dB a,dB b] W λr _=>r=dB (acc a b)):À 154 #[hF #[zF p0 n0 c0,zF p1 n1 c1],.func (.func fa) #[] #[]] V λr V'=>∃q m e,r=zF q m e/\bP 8 eM V' q m (Ö op A B):=by
 obtain rfl:=hA.len;obtain rfl:=hB.len
 refine H8 p0 _ c0 p1 _ c1 fa V _ ⟨λz V'=>∃k:Nat,z.2.2.2.1=(k:Int)/\k<=2/\CR V' z.1 z.2.1 z.2.2.1 (Yj A B k)/\z.2.2.2.2=osA A B k,λz=>2-z.2.2.2.1.toNat,
  ⟨(0,0,[],0,[Ô .i64 0,Ô .i64 0]),σ,0,rfl,φ,⟨rfl,Ù _,Ù _,ç.nil,λh=>Å rfl h⟩,rfl⟩,?_⟩
 rintro ⟨z1,z2,vs,z4,os⟩ V1 l1 ⟨k,e4,d3,hc,J⟩;dsimp only at e4 hc J;subst e4 J;dsimp only;refine ⟨rfl,λM=>?_,λM=>?_⟩
 ·have M:=Á M;have hk:k<2:=ω
  have T:i64.wrap ((k:Int)+1)=((k+1:Nat):Int):=by rw [au ω];rfl
  rw [T,Ý]
  obtain ⟨p,n,c,el,hL⟩:∃p n c,([(p0,A.length,c0),(p1,B.length,c1)]:pz (OA×Nat×Nat)).getD k (none,0,0)=(p,n,c)/\bP 8 eM V p n (LK A B k):=by obtain rfl|rfl:k=0\/k=1:=ω;{exact ⟨_,_,_,rfl,hA⟩};{exact ⟨_,_,_,rfl,hB⟩}
  rw [el];dsimp only
  have c4:(∀s∈LK A B k,s.sz 1000000)/\(LK A B k).length<=1000:=by obtain rfl|rfl:k=0\/k=1:=ω;{exact ⟨sA,nA⟩};{exact ⟨sB,nB⟩}
  obtain ⟨sL,nL⟩:=c4;obtain rfl:=hL.len
  refine ⟨⟨ω,ω⟩,λz V'=>∃j:Nat,z.2.2.2.1=(j:Int)/\j<=(LK A B k).length/\CR V' z.1 z.2.1 z.2.2.1 (Yj A B k++((LK A B k).take j).flatMap (kd k))/\z.2.2.2.2=Ox A k (mZ ((LK A B k).take j)),λz=>(LK A B k).length-z.2.2.2.1.toNat,
   ⟨(z1,z2,vs,0,osA A B k),σ,0,rfl,â _,by simpa using hc,by rw [Qd4];unfold osA;rw [Ã ω];rfl⟩,?_⟩
  rintro ⟨T,w2,us,w4,os⟩ V2 l2 ⟨j,e4,yF,E,J⟩;dsimp only at e4 E J;subst e4 J;dsimp only;refine ⟨rfl,λhj=>?_,λhj=>?_⟩
  ·have hj:=Á hj;have P:j<(LK A B k).length:=ω
   have w3:i64.wrap ((j:Int)+1)=((j+1:Nat):Int):=by rw [au ω];rfl
   rw [Ý,w3];obtain ⟨ad,ha,xs,-,hv,D⟩:=(hL.le (l1.m l2) λ_ _ g=>eM.le g (l1.m l2)).at_ j P;obtain ⟨x1,x2,q,y1,y2,q',ex,U,r2⟩:=hv;have ex:=Æ Array.toList (Value.agg.inj ex);dsimp only at ex;subst ex;have hs:=sL _ (ù P);have ft:=PS (f:=kd (k:Int)) P;have ot:=T2 P;have ob:=Ht (a:=(LK A B k).take j);rw [é] at ob;have cn:=E.len;have bl:=VL (A:=A) (B:=B) (j:=j) hk;rw [<-cn] at bl;have c1:kd (k:Int) (LK A B k)[j]=(if (LK A B k)[j].a then [] else [((LK A B k)[j].lo,(k:Int),1)])++(if (LK A B k)[j].b then [] else [((LK A B k)[j].hi,(k:Int),-1)]):=rfl;rw [c1] at ft;generalize (LK A B k)[j]=s at *
   refine ⟨aQ ha,⟨ω,ω⟩,_,_,_,_,_,_,_,_,ad,ha,D 0 _ rfl,D 1 _ rfl,D 2 _ rfl,D 3 _ rfl,D 4 _ rfl,D 5 _ rfl,D 6 _ rfl,D 7 _ rfl,
    λz V'=>CR V' z.1 z.2.1 z.2.2.1 (Yj A B k++((LK A B k).take j).flatMap (kd k)++(if s.a then [] else [(s.lo,(k:Int),1)]))/\z.2.2.2=Ox A k (mZ ((LK A B k).take (j+1))),⟨λF=>?_,λF=>?_⟩,?_⟩
   ·rw [F,Ä rfl] at ot;rw [F,Ä rfl,Ć];refine ⟨⟨ω,ω⟩,_,W9 hk,⟨ω,ω⟩,by rw [W_ hk];omega,(T,w2,us,Ox A k (mZ ((LK A B k).take (j+1)))),?_,E,rfl⟩;have e:(Ox A k (mZ ((LK A B k).take j))).set (0+k*1) (Ô .i64 (i64.wrap (mZ ((LK A B k).take j)+1)))=Ox A k (mZ ((LK A B k).take (j+1))):=by{rw [Xa hk,au ω,ot]};(and_intros<;>first|rfl|exact e)
   ·rw [F,Ã φ,Wy0] at ot;rw [F,Ã φ];refine ⟨ω,E.le,E.cap,rfl,one5,λsp c' C Q=>⟨(T+1,c',_,Ox A k (mZ ((LK A B k).take j))),σ,E.snoc U hs.1 _ _ C Q,by dsimp only;rw [ot]⟩⟩
   ·rintro ⟨k1,k2,ks,os⟩ V3 l3 ⟨G,J⟩;dsimp only at G J;subst J;dsimp only;have d4:k1<=T+1:=by{rw [G.len,cn,í];split<;>simp};refine ⟨rfl,λz V'=>CR V' z.1 z.2.1 z.2.2 (Yj A B k++((LK A B k).take (j+1)).flatMap (kd k)),⟨λF=>?_,λF=>?_⟩,?_⟩;{have F:s.b=false:=by{simpa using F};simp only [F,ň,Ð] at ft;rw [ft,<-ė,<-ė];refine ⟨ω,G.le,G.cap,rfl,one5,λsp c' C Q=>⟨(k1+1,c',_),σ,G.snoc (r2.le l3) hs.2 _ _ C Q⟩⟩};{have F:s.b=true:=by{simpa using F};simp only [F,Ï,Ć] at ft;rw [ft,<-ė];exact ⟨(k1,k2,ks),σ,G⟩};{rintro ⟨O,X,ms⟩ V4 l4 a4;dsimp only at a4;exact ⟨rfl,(O,X,ms,((j+1:Nat):Int),_),by dsimp only;omega,σ,j+1,rfl,ω,a4,rfl⟩}
  ·have hj:=Â hj;obtain rfl:j=(LK A B k).length:=ω;rw [ě] at *;refine ⟨(T,w2,us,((k+1:Nat):Int),Ox A k (mZ (LK A B k))),by dsimp only;omega,σ,k+1,rfl,ω,?_,T7 hk⟩;rw [<-IU hk];exact E
 have M:=Â M;obtain rfl:k=2:=ω
 have hc:CR V1 z1 z2 vs (qg A B):=hc;have cl:(qg A B).length<4000:=by rw [G1];omega
 have c5:=hc.len;have d5:=hc.le;rw [show osA A B 2=Kc A B [] from rfl];have K:∀l:pz pk,Kc A B l≠[]:=λl h=>by cases h
 refine ⟨λz V'=>∃cs:pz pk,SR V' z1 z cs/\cs.Perm (qg A B)/\cs.Pairwise (λx y=>x.1<=y.1),⟨λh0=>?_,λh0 V7 l7 bk e7 h7=>?_⟩,?_⟩
 ·subst h0;have C:=hc.cap;rw [į] at C;obtain rfl:z2=0:=ω;obtain rfl:z1=0:=ω;have a5:qg A B=[]:=List.eq_nil_of_length_eq_zero ω;exact ⟨rfl,λV5 l5=>Bf.s λr V6 l6 hr=>⟨hr,[],σ,[],⟨ç.nil,rfl,ψ⟩,by rw [a5],List.Pairwise.nil⟩⟩
 ·have d6:=Qh7.2 (hc.ne h0);rw [pJ h0,mA_pos (show 0<z2 by omega)];refine (so (V7.aq [bk]) bk _ _ _ (qg A B) G1 (e7 h0) ⟨ψ,h7 h0⟩ ⟨hc.row.le λ_ _ g=>RC.le g λb o h=>l7 b o h,c5,cl⟩).s λr V8 l8 ⟨rfl,a6,cs,e8,a7,hp,N⟩=>⟨rfl,h0,a6,λe=>?_,e8,a6,σ,cs,a7.le (Ts _),hp,N⟩;have C:=a7.row.fP φ;rw [e,hp.length_eq,į] at C;omega
 rintro d7 V9 l9 ⟨cs,a8,hp,N⟩;have zl:=a8.len;have a2:=λc (h:c∈cs)=>VZ (hp.mem_iff.1 h);refine ⟨rfl,λfW c6 ab ob ea ha J ho c7=>?_⟩;rw [pJ (K [])];refine (Fx (V:=fW.aq [ab,ob]) (x:=mZ A+iU 0 []) (y:=mZ B+iU 1 []) (acc:=acc) ea ⟨ψ,ha⟩ (J (K _)) ⟨ψ,ho (K _)⟩ (c7 (K _)) hf).s ?_;rintro r fk bw ⟨rfl,e1,e2⟩
 refine ⟨_,rfl,e1,K _,Kc A B [],K _,e2,λz V'=>∃(i:Nat)(last:Sp)(out:pz Sp),z.2.2.2.2.1=(i:Int)/\i<=cs.length/\out.length<=i/\Ya acc A B cs i z.2.2.2.1 last out/\z.2.2.2.2.2.1=Kc A B (cs.take i)/\IR V' z.1 z.2.1 z.2.2.1 out /\
   RR V' (hF #[Ô .i64 z.2.2.2.2.2.2.1,Ô .i64 z.2.2.2.2.2.2.2.1,dS z.2.2.2.2.2.2.2.2.1]) last.lo/\RR V' (hF #[Ô .i64 z.2.2.2.2.2.2.2.2.2.1,Ô .i64 z.2.2.2.2.2.2.2.2.2.2.1,dS z.2.2.2.2.2.2.2.2.2.2.2.1]) last.hi/\last.a=z.2.2.2.2.2.2.2.2.2.2.2.2.1/\last.b=z.2.2.2.2.2.2.2.2.2.2.2.2.2,
  λz=>cs.length-z.2.2.2.2.1.toNat,⟨(0,0,[],_,0,Kc A B [],0,0,none,0,0,none,true,false),σ,0,⟨0,0,true,false⟩,[],rfl,â _,â _,UT (acc:=acc) (by show acc (decide ((0:Int)<mZ A+0)) (decide ((0:Int)<mZ B+0))=_;rw [Wy0,Wy0]) hp gA gB N,rfl,IR.nil,RR.zero _,RR.zero _,rfl,rfl⟩,?_⟩
 rintro ⟨O,X,us,d,iz,ov,x1,x2,p,y1,y2,q,la,lb⟩ iD bY ⟨i,last,out,e5,Vn,oi,hI,a9,v,U,r2,f1,f2⟩;dsimp only at e5 hI a9 v U r2 f1 f2;subst e5 a9 f1 f2;dsimp only;have ml:=v.len;refine ⟨rfl,λhi=>?_,λhi=>?_⟩
 ·have hi:=Á hi;have H:i<cs.length:=ω
  have Y:=a8.le λb o h=>bY b o (bw b o (c6 b o h));have gd:∀j (h:j<cs.length),cs.getD j dC=cs[j]:=λj h=>by rw [ġ,ô h];rfl
  have ⟨x,y,pp,a,b,g,x',y',p',ev,hr,b6⟩:=Y.get H;rw [gd i H] at ev hr b6;rw [ą] at g;have ev:=Æ Array.toList (Value.agg.inj ev);simp only [ĵ,Value.int.injEq,Value.pointer.injEq,Î,Í] at ev;obtain ⟨rfl,rfl,rfl,rfl,rfl⟩:=ev;have ⟨ck,cd⟩:=a2 _ (ù H);have T:i64.wrap ((i:Int)+1)=((i+1:Nat):Int):=by rw [au ω];rfl
  have tk:cs.take (i+1)=cs.take i++[cs[i]]:=by rw [ŀ,ô H];rfl
  have b7:(Kc A B (cs.take i)).set (0+cs[i].2.1.toNat*1) (Ô .i64 (i64.wrap (osX A B (cs.take i) cs[i].2.1+cs[i].2.2)))=Kc A B (cs.take (i+1)):=by have b1:=Ht (a:=A);have b2:=Ht (a:=B);have b3:=HT (k:=0) (l:=cs.take i) λc hc=>(a2 c (Qn5 hc)).2;have b4:=HT (k:=1) (l:=cs.take i) λc hc=>(a2 c (Qn5 hc)).2;rw [é] at b3 b4;have b5:-9000<=osX A B (cs.take i) cs[i].2.1/\osX A B (cs.take i) cs[i].2.1<=9000:=by{unfold osX;split<;>omega};rw [au ω,Xc ck,tk]
  rw [T,Ý,Ý];refine ⟨⟨ω,ω⟩,ω,x,y,pp,_,_,g,⟨ω,ω⟩,_,Xb ck,⟨ω,ω⟩,by rw [show (Kc A B (cs.take i)).length=2 from rfl];omega,?_⟩;rw [b7];refine ⟨λt V'=>(t=true->∃h:i+1<cs.length,cs[i].1=cs[i+1].1)/\(t=false->∀h:i+1<cs.length,cs[i].1<cs[i+1].1),⟨λC=>?_,λC=>?_⟩,?_⟩
  ·have C:=Á C;have R:i+1<cs.length:=ω;have ⟨u,w,pw,a',b',g',x',y',p',S,b8,Z⟩:=Y.get R;rw [gd _ R] at b8 Z;rw [ą] at g';have S:=Æ Array.toList (Value.agg.inj S);simp only [ĵ,Value.int.injEq,Value.pointer.injEq,Î] at S;obtain ⟨rfl,rfl,rfl,-⟩:=S;refine ⟨⟨ω,ω⟩,ω,u,w,pw,⟨ω,?_⟩,λku ct=>(wP (b8.le ct) (hr.le ct) Z b6 φ).s ?_⟩;{have:∀l:pz un,l.take 3=(l.take 5).take 3:=λl=>by{rw [Qt6];rfl};rw [this,Ę,g'.2];rfl};{rintro r lV cJ rfl;refine ⟨_,rfl,_,σ,λh=>⟨R,Eq.symm (Á h)⟩,λh _=>?_⟩;have h:=Â h;have:=Qn4.1 N i (i+1) H R ω;grind}
  ·have C:=Â C;exact ⟨false,σ,κ,λ_ h=>Å h ω⟩
  rintro t mg cP ⟨ht,c8⟩;refine ⟨rfl,λe=>?_,λe lY cK c9 d0 ea ha J ho b9=>?_⟩
  ·obtain ⟨C,Q⟩:=ht e;exact ⟨(O,X,us,d,((i+1:Nat):Int),Kc A B (cs.take (i+1)),x1,x2,p,y1,y2,q,last.a,last.b),by dsimp only;omega,σ,i+1,last,out,rfl,ω,ω,XD hI C Q,rfl,v.s cP,U.le cP,r2.le cP,rfl,rfl⟩
  rw [pJ (K _)];refine (Fx (V:=lY.aq [c9,d0]) (x:=mZ A+iU 0 (cs.take (i+1))) (y:=mZ B+iU 1 (cs.take (i+1))) (acc:=acc) ea ⟨ψ,ha⟩ (J (K _)) ⟨ψ,ho (K _)⟩ (b9 (K _)) hf).s ?_;rintro r mY cG ⟨rfl,d1,d2⟩;have st:=XE hI H (c8 e) hp gA gB N rfl;generalize acc (decide ((0:Int)<mZ A+iU 0 (cs.take (i+1)))) (decide ((0:Int)<mZ B+iU 1 (cs.take (i+1))))=now at st ⊢;have L:iD.Le mY.shut:=λb o h=>cG b o (cK b o (cP b o h))
  have same:now=d->IR mY.shut O X us (CW d now last cs[i].1 out)/\RR mY.shut (hF #[Ô .i64 x1,Ô .i64 x2,dS p]) (lP d now last cs[i].1).lo/\RR mY.shut (hF #[Ô .i64 y1,Ô .i64 y2,dS q]) (lP d now last cs[i].1).hi /\
    last.a=(lP d now last cs[i].1).a/\last.b=(lP d now last cs[i].1).b:=λh=>by
   subst h;unfold CW lP;cases now<;>exact ⟨v.s L,U.le L,r2.le L,rfl,rfl⟩
  refine ⟨_,rfl,d1,K _,Kc A B (cs.take (i+1)),K _,d2,λz V'=>IR V' z.1 z.2.1 z.2.2.1 (CW d now last cs[i].1 out)/\RR V' (hF #[Ô .i64 z.2.2.2.1,Ô .i64 z.2.2.2.2.1,dS z.2.2.2.2.2.1]) (lP d now last cs[i].1).lo /\
   RR V' (hF #[Ô .i64 z.2.2.2.2.2.2.1,Ô .i64 z.2.2.2.2.2.2.2.1,dS z.2.2.2.2.2.2.2.2.1]) (lP d now last cs[i].1).hi/\z.2.2.2.2.2.2.2.2.2.1=(lP d now last cs[i].1).a/\z.2.2.2.2.2.2.2.2.2.2=(lP d now last cs[i].1).b,
   ⟨λhn=>⟨λhw=>?_,λhw=>⟨λa3=>⟨λI=>?_,λ_=>?_⟩,λa3=>?_⟩⟩,λhn=>⟨λhw=>⟨λI=>?_,λI=>?_⟩,λhw=>?_⟩⟩,?_⟩
  ·have hw:d=false:=by{simpa using hw};subst hn hw;exact ⟨(O,X,us,x,y,pp,0,0,none,false,false),σ,v.s L,hr.le L,RR.zero _,rfl,rfl⟩
  ·rw [hn] at I;cases I
  ·exact ⟨(O,X,us,x1,x2,p,y1,y2,q,last.a,last.b),σ,same (hn.m a3.symm)⟩
  ·rw [a3] at hw;cases hw
  ·subst hn hw;exact ⟨ω,v.le,v.cap,rfl,one8,λsp c' C Q=>⟨(O+1,c',_,x1,x2,p,x,y,pp,last.a,last.b),σ,(v.s L).snoc (s:=⟨last.lo,cs[i].1,last.a,last.b⟩) (U.le L) (hr.le L) C Q,U.le L,hr.le L,rfl,rfl⟩⟩
  ·rw [hn] at I;cases I
  ·exact ⟨(O,X,us,x1,x2,p,y1,y2,q,last.a,last.b),σ,same (hn.m hw.symm)⟩
  ·rintro ⟨k1,k2,ks,u1,u2,pu,t1,t2,pt,ua,ub⟩ nX cD ⟨a1,c2,c3,g1,g2⟩;dsimp only at a1 c2 c3 g1 g2;subst g1 g2;dsimp only;have ol:(CW d now last cs[i].1 out).length<=i+1:=by{unfold CW;split;{rw [í];simp;omega};{omega}};exact ⟨rfl,(k1,k2,ks,now,((i+1:Nat):Int),Kc A B (cs.take (i+1)),u1,u2,pu,t1,t2,pt,_,_),by dsimp only;omega,σ,i+1,_,_,rfl,ω,ol,st,rfl,a1,c2,c3,rfl,rfl⟩
 ·have hi:=Â hi;obtain rfl:i=cs.length:=ω;have fin:=XC hI hacc;refine ⟨λz V'=>IR V' z.1 z.2.1 z.2.2 (Ö op A B),⟨λhw=>?_,λhw=>?_⟩,?_⟩;{subst hw;refine ⟨ω,v.le,v.cap,rfl,one8,λsp c' C Q=>⟨(O+1,c',_),σ,?_⟩⟩;rw [<-fin];have:=hI.fr rfl;rw [this.1] at r2;exact v.snoc (s:=nE last) U r2 C Q};{subst hw;refine ⟨(O,X,us),σ,?_⟩;rw [<-fin];simpa [CX] using v};{rintro ⟨k1,k2,ks⟩ rU dy h;dsimp only at h;obtain rfl:=h.len;exact ⟨rfl,λuD fy bk F=>⟨_,_,_,rfl,bP.bM F (h.row.le λ_ _ g=>eM.le g fy) φ h.le⟩⟩}
theorem c_J1 (a b:md)(W:ut):À 172 #[dB a,dB b] W λr _=>r=dB ((λx _=>x:md->md->md) a b):=
 EC W _ λV l=>rfl
theorem Bj (hA:bP 8 eM V p n A)(hg:∀s∈A,s.good)(hs:∀s∈A,s.sz 1000000)(hn:A.length<=1000)(hf:fe A<200)(so:nZ (fe A)):À 124 #[zF p n c] V λr V'=>∃q m e,r=zF q m e/\bP 8 eM V' q m (Ö 1 A []):=by refine KW V _ λd a=>(Ja (op:=1) (acc:=λx _=>x) (λt=>by simp [ę,è]) (hA.le a λ_ _ g=>eM.le g a) (bP.nil (p:=none)) hg (λs h=>by cases h) hs (λs h=>by cases h) hn φ (by have:fe []=0:=rfl;omega) so c_J1).s ?_;rintro r V2 f ⟨q,m,e,rfl,g⟩;exact ⟨_,_,_,rfl,λi b=>⟨_,_,_,rfl,g.le b λ_ _ g=>eM.le g b⟩⟩
theorem NL.lst (h:NL V p n ss):bP 8 pU V p n ss:=by refine ⟨h.len,λi b=>?_⟩;have ⟨c,d,xs,a,hc⟩:=h.at_ i b;obtain ⟨_,_,_,_,_,_,_,_,_,_,_,_,_,_,e,-,-⟩:=vK a;exact ⟨c,d,xs,by rw [e];rfl,a,hc⟩
theorem vr (h:bP 8 pU V p n ss):NL V p n ss:=
 ⟨h.len,λi a=>by obtain ⟨b,c,xs,-,d,hc⟩:=h.at_ i a;exact ⟨b,c,xs,d,hc⟩⟩
theorem Kw (h:ç 8 pU V vs ss){m:Nat}(hm:m<ss.length*8)(hv:vs[m]?=some v):v.oneCell'=true:=by have c:m/8<ss.length:=ω;have ⟨xs,d,f,hc⟩:=h.at_ (m/8) c;obtain ⟨_,_,_,_,_,_,_,_,_,_,_,_,_,_,e,-,-⟩:=vK f;have b:m%8<xs.length:=by{rw [d];exact Ė _ φ};have g:m=m/8*8+m%8:=ω;have:=hc (m%8) _ (ô b);rw [<-g,hv] at this;obtain rfl:=ŏ this;have a:=ù b;generalize xs[m%8]=v at a;subst e;simp only [å,Ě,Ì] at a;rcases a with rfl|rfl|rfl|rfl|rfl|rfl|rfl|rfl<;>rfl
theorem sz_hlf {x:Rat}(h:Sz k x):Sz (k+3) (x*((2:Int):Rat)⁻¹):=by have a:Sz 2 (((2:Int):Rat))⁻¹:=by{unfold Sz;decide +kernel};exact (h.mul a).s ω
theorem QA {c:pz Rat}(h:∀q∈c,Sz k q){q:Rat}(hq:q∈dY c):Sz (2*k+4) q:=by have g:∀i,i<c.length->Sz k (c.getD i 0):=λi a=>by{rw [jH a];exact h _ (ù a)};have z:Sz (2*k+4) 0:=by{have b:(1:Nat)<2^(2*k+4):=Qf0 ω;exact ⟨Ń (â _) b,b⟩};unfold dY at hq;by_cases d:c.length=0;{rw [Ä d] at hq;obtain rfl:q=0:=by{simpa using hq};exact z};{rw [Ã d] at hq;rcases õ.1 hq with hq|hq;{unfold Em at hq;rcases å.1 hq with rfl|hq;{exact ((g 0 ω).sub jM).s ω};{obtain ⟨i,a,rfl⟩:=ò.1 hq;rw [Wj5] at a;exact (sz_hlf ((g i ω).add (g (i+1) ω))).s ω}};{obtain rfl:q=_:=by{simpa using hq};exact ((g _ ω).add jM).s ω}}
theorem pE {op:Int}{ap bp:OA}{an ac bn bc:Nat}{la' lb':pz Sp}(ha:NL V ap an la')(hb:NL V bp bn lb')(hl:la'.length+lb'.length<10000000)(sa:∀s∈la',s.sz k)(sb:∀s∈lb',s.sz k)(hk:4*k+8<2^38):À 217 #[Ô .i64 op,zF ap an ac,zF bp bn bc] V λr V'=>∃p n c,r=zF p n c/\NL V' p n (Ö op la' lb'):=by
 have la:=ha.len;have lb:=hb.len;have ⟨xs,x1,x2,x3⟩:=eI ha.lst φ;have ⟨ys,y1,y2,y3⟩:=eI hb.lst φ;refine xY V _ ⟨xs,x1,ω,ω,Ù _,â _,ω,?_,λNQ J5 D c3 h1 u=>⟨ys,y1,ω,ω,ω,?_,ω,?_,λa7 a8 M c8 w A V1 l1 E N=>?_⟩⟩
 ·intro v B;obtain ⟨m,hm,rfl⟩:=Qh6 B;exact Kw x3 ω (ô hm)
 ·rw [List.take_nil,ō,í];omega
 ·intro v B;obtain ⟨m,hm,rfl⟩:=Qh6 B;exact Kw y3 ω (ô hm)
 have F:ç 8 pU V1 ((([]:pz un).take (0*8)++xs++D).take ((0+an)*8)++ys++M) (la'++lb'):=by have e:(([]:pz un).take (0*8)++xs++D).take ((0+an)*8)=xs.take (la'.length*8):=by{rw [List.take_nil,ō,la,ą,Wq3 ω]};rw [e];exact (im x3 y3 φ).le λ_ _ h=>h.le l1
 have hL:NL V1 (some ⟨E,0,none⟩) (0+an+bn) (la'++lb'):=by have:=vr (bP.il N F);rwa [show (la'++lb').length=0+an+bn by rw [í];omega] at this
 have f:∀s∈la'++lb',s.sz k:=λs f=>by rcases õ.1 f with f|f;{exact sa s f};{exact sb s f}
 refine (GZ hL (by rw [í];omega) f).s ?_;rintro r V2 l2 ⟨O,P,Q,rfl,hc⟩;have cl:=FE (la'++lb');rw [í] at cl
 have cs:∀q∈Þ (la'++lb'),Sz k q:=λq L=>by have ⟨s,G,e⟩:=xj L;rcases e with rfl|rfl;{exact (f s G).1};{exact (f s G).2}
 have o:Ö op la' lb'=FO (Þ (la'++lb')) (jm op la' lb' (Þ (la'++lb'))):=rfl;rw [o];generalize Þ (la'++lb')=cuts at hc cl cs;refine ⟨O,P,Q,rfl,λa9 V3 H=>(Bp (hc.le H λ_ _ h=>h.le H) ω cs).s ?_⟩;rintro r V4 R ⟨S,t,T,rfl,hp⟩;have U:=hp.len;rw [lI] at U;have ml:=kT op la' lb' cuts
 have W:∀i (C:i<(dY cuts).length),(jm op la' lb' cuts).take (i+1)=(jm op la' lb' cuts).take i++[ę op (rV la' (dY cuts)[i]==2) (rV lb' (dY cuts)[i]==2)]:=λi C=>by rw [lI] at C;rw [ŀ,ô ω];unfold jm;rw [Qp0];rfl
 refine ⟨S,t,T,rfl,λz V'=>∃i:Nat,z.2.2.2=(i:Int)/\i<=cuts.length+1/\z.1=i/\z.1<=z.2.1/\z.2.1*1<=z.2.2.1.length/\ç 1 RBl V' z.2.2.1 ((jm op la' lb' cuts).take i),λz=>cuts.length+1-z.2.2.2.toNat,
  ⟨(0,0,[],0),σ,0,rfl,â _,rfl,Ù _,Ù _,ç.nil⟩,?_⟩
 rintro ⟨g,z2,vs,z4⟩ V5 I ⟨i,e4,Vn,e1,ic,B,d⟩;dsimp only at e4 e1 ic B d;subst e4 e1;refine ⟨rfl,λj=>?_,λj iD bY a6 l=>?_⟩
 ·have j:(g:Int)<t:=Á j;have C:g<(dY cuts).length:=by{rw [lI];omega};dsimp only;rw [Ý];have ⟨ad,b,p1,n1,c1,p2,n2,c2,J,L,a0,a1,a2⟩:=CE (hp.le I λ_ _ h=>h.le I) C;have sq:=QA cs (ù C);have L5:=l1.m (l2.m (H.m (R.m I)));have X:∀s∈la',s.sz (2*k+4):=λs f=>⟨(sa s f).1.s ω,(sa s f).2.s ω⟩;have Y:∀s∈lb',s.sz (2*k+4):=λs f=>⟨(sb s f).1.s ω,(sb s f).2.s ω⟩;refine ⟨aQ J,⟨ω,ω⟩,b,p1,n1,c1,p2,n2,c2,ad,J,a0,a1,a2,λV6 K=>(Br (ha.le (L5.m K)) (L.le K) X sq ω).s ?_⟩;rintro r V7 Z rfl;refine ⟨_,rfl,λV8 l8=>(Br (hb.le (L5.m (K.m (Z.m l8)))) (L.le (K.m (Z.m l8))) Y sq ω).s ?_⟩;rintro r V9 l9 rfl;have L9:=K.m (Z.m (l8.m l9));have hm:=W g C;generalize (rV la' (dY cuts)[g]==2)=x at hm;generalize (rV lb' (dY cuts)[g]==2)=y at hm;refine ⟨_,rfl,λz V'=>V9.Le V'/\z=(x||y),⟨λd=>⟨true,σ,Ó.Le.refl _,by rw [d];rfl⟩,λd=>⟨y,σ,Ó.Le.refl _,by rw [d];rfl⟩⟩,?_⟩;rintro b1 fW b2 ⟨b3,rfl⟩;refine ⟨rfl,λz V'=>fW.Le V'/\z=ę op x y,⟨λu=>?_,λu=>⟨λw=>?_,λw=>⟨λA=>?_,λA=>?_⟩⟩⟩,?_⟩;{obtain rfl:=Ê u;exact ⟨λd=>⟨y,σ,Ó.Le.refl _,by rw [d];rfl⟩,λd=>⟨false,σ,Ó.Le.refl _,by rw [d];rfl⟩⟩};{obtain rfl:=Ê w;exact ⟨λd=>⟨!y,σ,Ó.Le.refl _,by rw [d];rfl⟩,λd=>⟨false,σ,Ó.Le.refl _,by rw [d];rfl⟩⟩};{obtain rfl:=Ê A;exact ⟨_,σ,Ó.Le.refl _,rfl⟩};{refine ⟨_,σ,Ó.Le.refl _,?_⟩;have u:¬op=2:=λe=>by{subst e;cases u};have w:¬op=3:=λe=>by{subst e;cases w};have A:¬op=4:=λe=>by{subst e;cases A};unfold ę;rw [Ã u,Ã w,Ã A]};{rintro b4 fk bw ⟨b5,rfl⟩;(refine ⟨rfl,ω,ic,B,rfl,?_,λsp c' h5 h6=>⟨(g+1,c',_,(g:Int)+1),by dsimp only;omega,by and_intros<;>first|rfl|exact au ω,g+1,rfl,ω,rfl,h5,?_,?_⟩⟩);{intro v hm;obtain rfl:v=_:=by{simpa using hm};rfl};{dsimp only;have ht:(vs.take (g*1)).length=g*1:=by{rw [é];omega};rw [í,í,ht];simp only [Ą,į];omega};{dsimp only;have hlen:((jm op la' lb' cuts).take g).length=g:=by{rw [é];omega};rw [hm];have:=(d.le (V':=fk) λ_ _ h=>h).snoc (sp:=sp) (xs:=[dB (ę op x y)]) (a:=ę op x y) rfl rfl φ;rw [hlen] at this;exact this}}
 ·have j:¬(g:Int)<t:=Â j;obtain rfl:g=cuts.length+1:=ω;(try dsimp only at l ⊢);rw [Qv3 ω] at d;have hM:=bP.bM (c:=z2) l (d.le (V':=iD) λ_ _ h=>h) φ;rw [ml] at hM;refine (GX (hc.le (H.m (R.m (I.m bY))) λ_ _ h=>h.le (H.m (R.m (I.m bY)))) hM ml).s ?_;rintro r ku ct ⟨a3,a4,a5,rfl,hr⟩;exact ⟨a3,a4,a5,rfl,λb6 lV cJ=>⟨_,_,_,rfl,vr (hr.le cJ λ_ _ h=>h.le cJ)⟩⟩
end
section
def Yk {V:ut}:À 153 #[] V λr V'=>r=hF #[Ô .i64 0,Ô .i64 0,dS none,Ô .i64 0,Ô .i64 0,dS none,dB true,dB true]:=
 Nh V _ λa b=>rfl
def c_D1 (a b:md)(W:ut):À 155 #[dB a,dB b] W λr _=>r=dB (ę 3 a b):=
 pP W _ ⟨λh V l=>by subst h;simp [ę],λh V l=>by subst h;simp [ę]⟩
def iH.up {k K:Nat}{l:L3}(h:iH k l)(hk:k<=K):iH K l:=⟨h.1.s hk,h.2.1.s hk,h.2.2.s hk⟩
def AL {L M:L3}{s:Sp}{k K:Nat}(sl:iH k L)(sm:iH k M)(hs:s.sz K)(hk:60*k+60<=K:=by omega):(bu L s M).sz K:=by have z:=CZ K;have c:=(pf sl sm).s hk;unfold bu;split;{exact hs};{split;{exact Sp.Hn hs ⟨c,z⟩};{exact Sp.Hn hs ⟨z,c⟩}}
def Wr {k:Nat}(hk:0<k:=by omega):à.sz k:=⟨CZ k hk,CZ k hk⟩
def one17 {x1:Int}{x2:Int}{p:OA}{y1:Int}{y2:Int}{q:OA}{z1:Int}{z2:Int}{r:OA}{u1:Int}{u2:Int}{t:OA}{w1:Int}{w2:Int}{o:OA}{c d:md}:∀v∈([Ô .i64 x1,Ô .i64 x2,dS p,Ô .i64 y1,Ô .i64 y2,dS q,Ô .i64 z1,Ô .i64 z2,dS r,Ô .i64 u1,Ô .i64 u2,dS t,Ô .i64 w1,Ô .i64 w2,dS o,dB c,dB d]:pz un),v.oneCell'=true:=by intro v hm;simp only [å,Ě,Ì] at hm;rcases hm with rfl|rfl|rfl|rfl|rfl|rfl|rfl|rfl|rfl|rfl|rfl|rfl|rfl|rfl|rfl|rfl|rfl<;>rfl
end
section
variable{L a l x:L3}{b:Bool}{V:Ó}{lv v:Value}{p q:OA}{P:List Rat}{i n:Nat}
theorem CY (hb:Bd l):Sz 1000 (aw.aR l).1/\Sz 1000 (aw.aR l).2:=⟨hb.ja.2.1,hb.ja.1.neg⟩
theorem Tq {V V':ut}{P:Prop}{b:Nat}(l:V.Le V')(h:P->V.w.heap.size<=b\/V.H b):V.Le (V'.shut.aW P b):=λx o a=>by
 have c:=l x o a;refine ⟨λd=>d.elim c.1 ?_,c.2⟩;rintro ⟨e,rfl,-⟩;rcases h e with h|h
 ·have:=(Qr0.1 a.2).1;omega
 ·exact a.1 h
theorem Pn {w:un}{M:L3}(hl:uw V v L)(hm:uw V w M)(bl:Bd L)(bm:Bd M):À 200 #[v,w] V λr V'=>r=dB (decide (L=M\/L=Õ M)):=by have a:=hl;have b:=hm;obtain ⟨_,_,_,_,_,_,_,_,_,rfl,-,-,-⟩:=hl;obtain ⟨_,_,_,_,_,_,_,_,_,rfl,-,-,-⟩:=hm;refine Df V _ λm c=>(rF (a.le c) (b.le c) bl.ja bm.ja).s ?_;rintro r V2 j rfl;have d:=c.m j;refine ⟨_,rfl,λe n o=>?_,λe p f=>(jj (b.le (d.m f)) bm.ja).s ?_⟩;{rw [Ç (.inl (Á e))]};{have e:=Â e;rintro r q k g;have l:=g;obtain ⟨_,_,_,_,_,_,_,_,_,rfl,-,-,-⟩:=g;refine qyJ ⟨rfl,λs i=>(rF (a.le (d.m (f.m (k.m i)))) (l.le i) bl.ja bm.ja.rev).s λr t u rfl=>⟨_,rfl,λx y=>Æ Value.bool (É.2 ⟨.inr,λh=>h.resolve_left e⟩)⟩⟩}
theorem one8i {x1 x2:Int}{y1 y2:Int}{a:md}:∀v∈([Ô .i64 x1,Ô .i64 x2,dS p,Ô .i64 y1,Ô .i64 y2,dS q,dB a,dB b]:pz un),v.oneCell'=true:=λv c=>by
 simp only [å,Ě,Ì] at c;rcases c with rfl|rfl|rfl|rfl|rfl|rfl|rfl|rfl<;>rfl
theorem LI {e:md}{k:Int}(h1:decide (k>0)=e)(h2:decide (k<0)=!e)(hb:Bd L):∀(t:Tr) {V:ut} {q:OA} {lv v:un} {s:Sp} {lb n m:Nat} {vs:pz un} {o:pz Sp},RT V q t->t.dV Bd->uw V lv L->eM V v s->s.sz 100000 ->(vs≠[]->V.w.heap[lb]?=some (.cells vs.toArray 135 (0,0)))->(vs≠[]->V.X lb)->GR 8 eM V n m vs o->n+(bf L e t s).length<=1000000 ->À 152 #[dS q,lv,v,Ô .i64 k,zF (mA lb m) n m] V λr V'=>∃(bm:Nat)(vm:pz un)(n' c':Nat),(vm≠[]->V'.w.heap[bm]?=some (.cells vm.toArray 135 (0,0)))/\(vm≠[]->V.w.heap.size<=bm\/(vs≠[]/\bm=lb))/\r=zF (mA bm c') n' c'/\GR 8 eM (V'.aW (vm≠[]) bm) n' c' vm (o++bf L e t s):=by
 intro t;have W8:∀{A B:Prop},A\/B\/False->A\/B:=λh=>h.imp id λh=>h.elim id False.elim
 induction t with
 | leaf i=>
  intro V q lv v s lb n m vs o h ha hl hv sz hw hx M D;have y:=hv;obtain ⟨_,_,_,_,_,_,_,_,_,rfl,-,-,-⟩:=hl;obtain ⟨_,_,_,_,_,_,rfl,-,-⟩:=hv;refine sZ q _ _ _ _ _ _ _ _ _ _ _ _ _ _ _ _ _ k lb n m vs V _ hw hx ⟨λz _=>z=i,λV1 l1=>(ch (h.le l1)).s ?_,?_⟩
  ·rintro r V2 l2 rfl;obtain ⟨b,c0,c1,c2,c3,c4,c5,c6,c7,c8,r,rfl,hb⟩:=h.le (l1.m l2);exact ⟨_,rfl,λ_=>⟨rfl,rfl,i,zI hb 11 rfl,_,σ,rfl⟩,κ⟩
  rintro z V3 l3 rfl;refine ⟨rfl,λhz=>?_,λhz V5 l5=>(ch (h.le (l3.m l5))).s ?_⟩
  ·subst hz;refine ⟨ω,M.le,M.cap,rfl,one8i,λsp c k1 k2 V4 l hle E F=>⟨l,_,n+1,c,E,λh=>W8 (F h),rfl,?_⟩⟩;exact (M.s λ_ _ g=>eM.le g (l3.m hle)).snoc rfl (y.le (l3.m hle)) φ k1 k2
  ·rintro r V6 l6 rfl;subst hz;refine ⟨_,rfl,λ_ V7 l hle E F=>⟨l,vs,n,m,E,λh=>W8 (F h),rfl,?_⟩,κ⟩;show GR 8 eM _ n m vs (o++[]);rw [Ć];exact M.s λ_ _ g=>eM.le g (l3.m (l5.m (l6.m hle)))
 | node ln a b iha ihb=>
  intro V q lv v s lb n m vs o h ha hl hv sz hw hx M D;have p:=hl;have y:=hv;obtain ⟨_,_,_,_,_,_,_,_,_,rfl,-,-,-⟩:=hl;obtain ⟨_,_,_,_,_,_,rfl,-,-⟩:=hv;obtain ⟨u,a7,a8⟩:=ha;refine sZ q _ _ _ _ _ _ _ _ _ _ _ _ _ _ _ _ _ k lb n m vs V _ hw hx ⟨λz _=>z=false,λV1 l1=>(ch (h.le l1)).s ?_,?_⟩
  ·rintro r V2 l2 rfl;exact ⟨_,rfl,κ,λ_=>⟨_,σ,rfl⟩⟩
  rintro z V3 l3 rfl;refine ⟨rfl,κ,λ_ V5 l5=>(ch (h.le (l3.m l5))).s ?_⟩;rintro r V6 l6 rfl;have Ay:=l3.m (l5.m l6);obtain ⟨N,u1,u2,u3,v1,v2,v3,w1,w2,w3,pl,pr,i,rfl,a6,C,a9,b3⟩:=h.le Ay
  have d:∀{W:ut},V6.Le W->∀j v,([Ô .i64 u1,Ô .i64 u2,dS u3,Ô .i64 v1,Ô .i64 v2,dS v3,Ô .i64 w1,Ô .i64 w2,dS w3,dS pl,dS pr,dB i]:pz un)[j]?=some v->W.at ((⟨N,0,none⟩:Addr).add j) v:=by intro W hW j v hv;rw [add_zero'];exact dL (xs:=[_,_,_,_,_,_,_,_,_,_,_,_]) (hW _ _ a6) hv
  have O:=Ó.Le.refl V6;have hp:∀{W:ut},V6.Le W->(∃a,ae (some ⟨N,0,none⟩) 9=some a/\W.at a (dS pl))/\∃a,ae (some ⟨N,0,none⟩) 10=some a/\W.at a (dS pr):=λhW=>⟨zI (hW _ _ a6) 9 rfl,zI (hW _ _ a6) 10 rfl⟩;refine ⟨_,rfl,κ,λ_=>⟨λz _=>z=decide (ln=L/\e=true\/ln=Õ L/\e=false),⟨rfl,rfl,_,_,_,_,_,_,_,_,_,⟨N,0,none⟩,rfl,d O 0 _ rfl,d O 1 _ rfl,d O 2 _ rfl,d O 3 _ rfl,d O 4 _ rfl,d O 5 _ rfl,d O 6 _ rfl,d O 7 _ rfl,d O 8 _ rfl,λV8 l8=>(rF (C.le l8) (p.le (Ay.m l8)) u.ja hb.ja).s ?_⟩,?_⟩⟩
  ·rintro r V9 l9 rfl;have f:=l8.m l9;have rv:∀{P:md->Prop},(decide (ln=Õ L)=true->P (decide (k<0)))->(decide (ln=Õ L)=false->P false)->P (decide (ln=Õ L)&&!e):=λa b=>by{cases g:decide (ln=Õ L);{exact b g};{rw [h2] at a;exact a g}};have eqv:∀{c:md},(c=true->(ln=L/\e=true\/ln=Õ L/\e=false))->((ln=L/\e=true\/ln=Õ L/\e=false)->c=true)->c=decide (ln=L/\e=true\/ln=Õ L/\e=false):=λ{c} a b=>by{cases c;{exact (È λh=>by have:=b h;cases this).symm};{exact (Ç (a rfl)).symm}};refine ⟨_,rfl,λg=>⟨λgk=>⟨_,σ,?_⟩,λgk=>?_⟩,λg=>?_⟩;{rw [h1] at gk;exact eqv (λ_=>.inl ⟨Á g,gk⟩) λ_=>rfl};{rw [h1] at gk;refine ⟨rfl,rfl,_,_,_,_,_,_,_,_,_,⟨N,0,none⟩,rfl,d f 0 _ rfl,d f 1 _ rfl,d f 2 _ rfl,d f 3 _ rfl,d f 4 _ rfl,d f 5 _ rfl,d f 6 _ rfl,d f 7 _ rfl,d f 8 _ rfl,λfW b4=>(jj (p.le (Ay.m (f.m b4))) hb.ja).s ?_⟩;rintro r fk bw U;have Eg:=U;obtain ⟨_,_,_,_,_,_,_,_,_,rfl,-,-,-⟩:=U;refine qyJ ⟨rfl,λiD bY=>(rF (C.le (f.m (b4.m (bw.m bY)))) (Eg.le bY) u.ja hb.ja.rev).s ?_⟩;rintro r ku ct rfl;refine ⟨_,rfl,λg2=>⟨_,σ,?_⟩,λg2=>⟨_,σ,?_⟩⟩;{rw [h2,show (!e)=true by rw [gk];rfl];exact eqv (λ_=>.inr ⟨Á g2,gk⟩) λ_=>rfl};{exact eqv κ λh=>(Â g2 (h.elim (λh=>by rw [gk] at h;exact nomatch h.2) λh=>h.1)).elim}};{refine ⟨rfl,rfl,_,_,_,_,_,_,_,_,_,⟨N,0,none⟩,rfl,d f 0 _ rfl,d f 1 _ rfl,d f 2 _ rfl,d f 3 _ rfl,d f 4 _ rfl,d f 5 _ rfl,d f 6 _ rfl,d f 7 _ rfl,d f 8 _ rfl,λlV cJ=>(jj (p.le (Ay.m (f.m cJ))) hb.ja).s ?_⟩;rintro r mg cP U;have Eg:=U;obtain ⟨_,_,_,_,_,_,_,_,_,rfl,-,-,-⟩:=U;refine qyJ ⟨rfl,λlY cK=>(rF (C.le (f.m (cJ.m (cP.m cK)))) (Eg.le cK) u.ja hb.ja.rev).s ?_⟩;rintro r mY cG rfl;refine ⟨_,rfl,λg2=>⟨_,σ,?_⟩,λg2=>⟨_,σ,?_⟩⟩;{rw [h2];exact eqv (λh=>.inr ⟨Á g2,by simpa using h⟩) λh=>by{rcases h with h|h;exact Å h.1 (Â g);rw [h.2];rfl}};{exact eqv κ λh=>(h.elim (λh=>Â g h.1) λh=>Â g2 h.1).elim}}
  rintro z nX x rfl;have Q:=Ay.m x;have G:=M.s λ_ _ g=>eM.le g Q
  have go:∀{lw:un},uw V lw L->∀{R:Tr} {q':OA} {W:ut} (l:Nat),nX.Le W->RT V6 q' R->(∀{V:ut} {q:OA} {lv v:un} {s:Sp} {lb n m:Nat} {vs:pz un} {o:pz Sp},RT V q R->R.dV Bd->uw V lv L->eM V v s->s.sz 100000 ->
    (vs≠[]->V.w.heap[lb]?=some (.cells vs.toArray 135 (0,0)))->(vs≠[]->V.X lb)->GR 8 eM V n m vs o->n+(bf L e R s).length<=1000000 ->
    À 152 #[dS q,lv,v,Ô .i64 k,zF (mA lb m) n m] V λr V'=>∃(bm:Nat)(vm:pz un)(n' c':Nat),(vm≠[]->V'.w.heap[bm]?=some (.cells vm.toArray 135 (0,0)))/\(vm≠[]->V.w.heap.size<=bm\/(vs≠[]/\bm=lb)) /\
     r=zF (mA bm c') n' c'/\GR 8 eM (V'.aW (vm≠[]) bm) n' c' vm (o++bf L e R s))->R.dV Bd->∀{v':un} {s':Sp},eM W v' s'->s'.sz 100000->∀{n m:Nat} {vs:pz un} {o:pz Sp},(vs≠[]->W.w.heap[l]?=some (.cells vs.toArray 135 (0,0)))->(vs≠[]->W.H l)->GR 8 eM W n m vs o->n+(bf L e R s').length<=1000000 ->
    À 152 #[dS q',lw,v',Ô .i64 k,zF (mA l m) n m] (W.aq [vb vs W.w.heap.size l]) λr V'=>∃(bm:Nat)(vm:pz un)(n' c':Nat),(vm≠[]->V'.w.heap[bm]?=some (.cells vm.toArray 135 (0,0)))/\(vm≠[]->W.w.heap.size<=bm\/(vs≠[]/\bm=l)) /\
     r=zF (mA bm c') n' c'/\W.Le (V'.shut.aW (vm≠[]) bm)/\GR 8 eM (V'.shut.aW (vm≠[]) bm) n' c' vm (o++bf L e R s'):=by
   intro lw b5 R q' W l lW hq ih ha v' s' uA b6 n m vs o f1 f2 M D;refine (ih (V:=W.aq [vb vs W.w.heap.size l]) (lb:=l) (RT.le (V:=V6) (V':=W.aq _) (λb o h=>(x.m lW) b o h) hq) ha (uw.le (V:=V) (V':=W.aq _) b5 λb o h=>(Q.m lW) b o h) (eM.le (V:=W) (V':=W.aq _) uA λb o h=>h) b6 f1 (λh=>⟨by simp [pJ h],f2 h⟩) (M.s (V':=W.aq _) λ_ _ g=>eM.le (V:=W) g λb o h=>h) D).s ?_;rintro r V' l' ⟨bm,vm,n',c',S,J,a3,T⟩;exact ⟨bm,vm,n',c',S,J,a3,Tq (V:=W) (V':=V') (λb o h=>l' b o h) λh=>(J h).imp id λ(g:vs≠[]/\bm=l)=>by rw [g.2];exact f2 g.1,T.s λ_ _ g=>eM.le g λb o h=>h⟩
  refine ⟨rfl,λc=>?_,λc=>?_⟩
  ·have c:=Á c;have eP:bf L e (.node ln a b) s=bf L e a s:=by{rw [bf,Ä c]};rw [eP] at D ⊢;refine ⟨rfl,rfl,pl,(hp x).1,λrU dy l f1 f2=>(go p l dy a9 iha a7 (y.le (Q.m dy)) sz f1 f2 (G.s λ_ _ g=>eM.le g dy) D).s ?_⟩;rintro r uD fy ⟨bm,vm,n',c',S,J,rfl,a3,T⟩;exact ⟨bm,vm,S,J,none,n',c',rfl,λux Yh hle E F=>⟨Yh,vm,n',c',E,λh=>W8 (F h),rfl,T.s λ_ _ g=>eM.le g hle⟩⟩
  have c:=Â c;refine ⟨rfl,rfl,_,_,_,_,_,_,_,_,_,⟨N,0,none⟩,rfl,d x 0 _ rfl,d x 1 _ rfl,d x 2 _ rfl,d x 3 _ rfl,d x 4 _ rfl,d x 5 _ rfl,d x 6 _ rfl,d x 7 _ rfl,d x 8 _ rfl,λuE iP=>(Pn (C.le (x.m iP)) (p.le (Q.m iP)) u hb).s ?_⟩;rintro r wH hZ rfl;have B4:=iP.m hZ;have I:=x.m B4;refine ⟨_,rfl,λc2=>?_,λc2=>?_⟩
  ·have c2:=Á c2;have eP:bf L e (.node ln a b) s=bf L e b s:=by{rw [bf,Ã c,Ä c2]};rw [eP] at D ⊢;refine ⟨rfl,rfl,pr,(hp I).2,λGv kS l f1 f2=>(go p l (B4.m kS) b3 ihb a8 (y.le (Q.m (B4.m kS))) sz f1 f2 (G.s λ_ _ g=>eM.le g (B4.m kS)) D).s ?_⟩;rintro r IF l_ ⟨bm,vm,n',c',S,J,rfl,a3,T⟩;exact ⟨bm,vm,S,J,none,n',c',rfl,λO6 Yh hle E F=>⟨Yh,vm,n',c',E,λh=>W8 (F h),rfl,T.s λ_ _ g=>eM.le g hle⟩⟩
  have eP:bf L e (.node ln a b) s=(if cF L s ln=true then bf L e a (bu L s ln) else [])++(if cF L s (Õ ln)=true then bf L e b (bu L s (Õ ln)) else []):=by rw [bf,Ã c,Ã (Â c2)]
  rw [eP] at D ⊢;rw [í] at D;have sK:iH 100000 L:=hb.ja.up ω;refine ⟨rfl,rfl,_,_,_,_,_,_,_,_,_,⟨N,0,none⟩,rfl,d I 0 _ rfl,d I 1 _ rfl,d I 2 _ rfl,d I 3 _ rfl,d I 4 _ rfl,d I 5 _ rfl,d I 6 _ rfl,d I 7 _ rfl,d I 8 _ rfl,λYb pS=>(IX (p.le (Q.m (B4.m pS))) (y.le (Q.m (B4.m pS))) (C.le (I.m pS)) (k:=100000) sK sz (u.ja.up ω)).s ?_⟩;rintro r Vz tQ ⟨w,rfl,gw⟩;have b7:=gw;obtain ⟨_,_,_,_,_,_,rfl,-,-⟩:=gw;have Od:=B4.m (pS.m tQ);have Y:=x.m Od;have Z:=G.s λ_ _ g=>eM.le g Od;refine qyJ ⟨rfl,λz V'=>GR 8 eM V' z.1 z.2.1 z.2.2 (o++(if cF L s ln=true then bf L e a (bu L s ln) else [])),⟨λb1=>?_,λb1=>?_⟩,?_⟩
  ·rw [Ä b1] at D ⊢;refine ⟨rfl,rfl,pl,(hp Y).1,λYc xw l f1 f2=>(go p l (Od.m xw) a9 iha a7 (b7.le xw) (AL hb.ja u.ja sz) f1 f2 (Z.s λ_ _ g=>eM.le g xw) ω).s ?_⟩;rintro r Rc xy ⟨bm,vm,n',c',S,J,rfl,a3,T⟩;exact ⟨bm,vm,S,J,none,n',c',rfl,(n',c',vm),σ,T⟩
  ·rw [Ã (by rw [b1];simp)];refine ⟨(n,m,vs),σ,?_⟩;rw [Ć];exact Z
  rintro ⟨z1,z2,us⟩ b8 DT hz;have zl:=hz.len;have ol:=M.len;rw [í] at zl;have K:=Y.m DT;refine ⟨rfl,rfl,rfl,_,_,_,_,_,_,_,_,_,⟨N,0,none⟩,rfl,d K 0 _ rfl,d K 1 _ rfl,d K 2 _ rfl,d K 3 _ rfl,d K 4 _ rfl,d K 5 _ rfl,d K 6 _ rfl,d K 7 _ rfl,d K 8 _ rfl,λZf zG=>(jj (C.le (K.m zG)) u.ja).s ?_⟩;rintro r Vc xA U;have Eg:=U;obtain ⟨_,_,_,_,_,_,_,_,_,rfl,-,-,-⟩:=U;have Tf:=(Od.m DT).m (zG.m xA);refine qyJ ⟨rfl,λb9 Az=>(IX (p.le (Q.m (Tf.m Az))) (y.le (Q.m (Tf.m Az))) (Eg.le Az) (k:=100000) sK sz (u.ja.rev.up ω)).s ?_⟩;rintro r c9 xB ⟨w,rfl,gw⟩;obtain ⟨_,_,_,_,_,_,rfl,-,-⟩:=id gw;have YG:=Tf.m (Az.m xB);have a5:=hz.s λ_ _ g=>eM.le g (zG.m (xA.m (Az.m xB)));refine qyJ ⟨rfl,λb2=>?_,λb2 d0 Yh hle E F=>⟨Yh,us,z1,z2,E,λh=>W8 (F h),rfl,?_⟩⟩
  ·rw [Ä b2] at D ⊢;refine ⟨rfl,rfl,pr,(hp (x.m YG)).2,λd1 JP l f1 f2=>(go p l (YG.m JP) b3 ihb a8 (gw.le JP) (AL hb.ja u.ja.rev sz) f1 f2 (a5.s λ_ _ g=>eM.le g JP) ω).s ?_⟩;rintro r d2 Qh ⟨bm,vm,n',c',S,J,rfl,a3,T⟩;refine ⟨bm,vm,S,J,none,n',c',rfl,λd3 Yh hle E F=>⟨Yh,vm,n',c',E,λh=>W8 (F h),rfl,?_⟩⟩;rw [<-ė];exact T.s λ_ _ g=>eM.le g hle
  ·rw [Ã (c:=cF L s (Õ ln)=true) (by rw [b2];simp),Ć];exact a5.s λ_ _ g=>eM.le g hle
theorem NU {e:md}{k:Int}(h1:decide (k>0)=e)(h2:decide (k<0)=!e)(hb:Bd L){t:Tr}{s:Sp}(h:RT V q t)(ha:t.dV Bd)(hl:uw V lv L)(hv:eM V v s)(hs:s.sz 100000)(hn:(bf L e t s).length<=1000000):À 152 #[dS q,lv,v,Ô .i64 k,zF none 0 0] V λr V'=>∃p n c,r=zF p n c/\bP 8 eM V' p n (bf L e t s):=by
 have own:∀{f:FuncId} {args:Array un} {V:ut} {R:un->ut->Prop},À f args V R->À f args V λr V'=>R r V'/\∀b,V.w.heap.size<=b->¬V'.H b:=λ{f args V R} h=>
  ⟨h.1,h.2.s λ_ C ⟨r,he,a,u⟩=>⟨r,he,a,u,λb hb d=>Å (V.hH b d) ω⟩⟩
 refine (own (LI h1 h2 hb t (lb:=0) (n:=0) (m:=0) (vs:=[]) (o:=[]) h ha hl hv hs (λh=>Å rfl h) (λh=>Å rfl h) GR.nil ω)).s ?_;rintro r V' l ⟨⟨y,D,E,F,z,A,rfl,i⟩,B⟩;have j:=i.len;rw [j];exact ⟨_,_,_,rfl,bP.bM (λh=>⟨B y ((A h).elim id λg=>Å rfl g.1),z h⟩) (i.row.le λ_ _ g=>eM.le g λx o a=>⟨λd=>a.1 (.inl d),a.2⟩) φ (by rw [<-j];exact i.le)⟩
theorem Bx (hs:∀x∈P,Sz 1000000 x){l:pz Sp}(hg:∀s∈l,s.good/\∀q,s.cZ q->q∈P):∀s∈l,s.sz 1000000:=λs h=>by
 have ⟨g,e⟩:=hg s h;refine ⟨?_,?_⟩
 ·cases ha:s.a
  ·exact hs _ (e _ (.inl ⟨ha,rfl⟩))
  ·rw [g.1.1 ha];exact CZ _
 ·cases hb:s.b
  ·exact hs _ (e _ (.inr ⟨hb,rfl⟩))
  ·rw [g.1.2 hb];exact CZ _
structure NJ (L:L3) (P:List Rat) (t:Tr):Prop where
 crs:Crs L P t
 asc:asc P
 len:P.length<=30
 sz:∀x∈P,Sz 1000000 x
def nI (L:L3)(e:Bool)(t:Tr):List Sp:=Ö 1 (bf L e t bZ) []
theorem GP {t:Tr}(h:RT V q t)(ha:t.dV Bd)(hl:uw V lv L)(hb:Bd L)(hc:NJ L P t)(so:∀i,i<=60->nZ i):À 91 #[dS q,lv] V λr V'=>∃p n c p' n' c',r=tN #[zF p n c,zF p' n' c']/\bP 8 eM V' p n (nI L true t)/\bP 8 eM V' p' n' (nI L false t):=by obtain ⟨_,_,_,_,_,_,_,_,_,rfl,-,-,-⟩:=id hl;have z:∀W:ut,eM W (hF #[Ô .i64 0,Ô .i64 0,dS none,Ô .i64 0,Ô .i64 0,dS none,dB true,dB true]) bZ:=λW=>⟨0,0,none,0,0,none,rfl,RR.zero W,RR.zero W⟩;have C:=hc.len;have go:∀e:md,(∀s∈bf L e t bZ,s.good)/\(∀s∈bf L e t bZ,s.sz 1000000)/\fe (bf L e t bZ)<=60/\(bf L e t bZ).length<=1000:=λe=>by{have ⟨a,b,c⟩:=OB (e:=e) hc.crs;exact ⟨λs h=>(a s h).1,Bx hc.sz a,ω,ω⟩};have join:∀(e:md) {W:ut} {p:OA} {n c:Nat},bP 8 eM W p n (bf L e t bZ)->À 124 #[zF p n c] W λr V'=>∃q m e',r=zF q m e'/\bP 8 eM V' q m (nI L e t):=λe W p n c g=>by{have ⟨a,b,c,d⟩:=go e;exact Bj g a b d ω (so _ c)};refine zP V _ λV1 D=>Yk.s ?_;rintro r V2 E rfl;have k:=D.m E;refine ⟨_,_,_,_,_,_,_,_,rfl,λV3 o=>(NU (e:=true) rfl rfl hb (RT.le (k.m o) h) ha (hl.le (k.m o)) (z _) ⟨CZ _,CZ _⟩ (by have:=(go true).2.2.2;omega)).s ?_⟩;rintro r V4 F ⟨p,n,c,rfl,G⟩;refine ⟨p,n,c,rfl,λV5 u=>(join true (G.le u λ_ _ g=>eM.le g u)).s ?_⟩;rintro r H I ⟨J,K,M,rfl,N⟩;refine ⟨J,K,M,rfl,λV7 O=>Yk.s ?_⟩;rintro r V8 Q rfl;have A:=O.m Q;have B:=k.m (o.m (F.m (u.m (I.m A))));refine ⟨_,_,_,_,_,_,_,_,rfl,λV9 v=>(NU (e:=false) rfl rfl hb (RT.le (B.m v) h) ha (hl.le (B.m v)) (z _) ⟨CZ _,CZ _⟩ (by have:=(go false).2.2.2;omega)).s ?_⟩;rintro r fW w ⟨R,S,T,rfl,U⟩;refine ⟨R,S,T,rfl,λfk x=>(join false (U.le x λ_ _ g=>eM.le g x)).s ?_⟩;rintro r X Y ⟨Z,n3,c3,rfl,g4⟩;have f:∀{y:ut},X.Le y->H.Le y:=λl=>A.m (v.m (w.m (x.m (Y.m l))));exact ⟨Z,n3,c3,rfl,λy j=>⟨_,_,_,_,_,_,rfl,N.le (f j) λ_ _ g=>eM.le g (f j),g4.le j λ_ _ g=>eM.le g j⟩⟩
theorem vl {t:Tr}(hc:NJ L P t)(e:md):rW (nI L e t)/\(∀s∈nI L e t,s.sz 1000000)/\fe (nI L e t)<=30/\(nI L e t).length<=1000:=by have f:=hc.len;have ⟨a,b,c⟩:=OB (e:=e) hc.crs;have r:rW (nI L e t):=comb_reg _ _ _;refine ⟨r,Bx hc.sz λs d=>⟨r.1 s d,λq g=>nO hc.crs q (eY.2 ⟨s,d,g⟩)⟩,ā (Ue hc.crs hc.asc) hc.len,?_⟩;have:=Bw 1 (bf L e t bZ) [];have h:fe ([]:pz Sp)=0:=rfl;unfold nI;omega
theorem Sf {t:Tr}(h:RT V q t)(ha:t.dV Bd)(hl:uw V lv L)(hb:Bd L)(hc:NJ L P t)(so:∀i,i<=60->nZ i):À 39 #[dS q,lv] V λr V'=>∃p n c,r=zF p n c/\bP 8 eM V' p n (po L t):=by obtain ⟨_,_,_,_,_,_,_,_,_,rfl,-,-,-⟩:=id hl;refine KO V _ λF j=>(GP (h.le j) ha (hl.le j) hb hc so).s ?_;rintro r V2 G ⟨p,n,c,l,o,s,rfl,u,v⟩;have ⟨w,s1,f1,z⟩:=vl hc true;have ⟨A,s2,f2,B⟩:=vl hc false;refine qyW ⟨rfl,λC d=>?_⟩;refine aa.s (R:=λr V'=>∃q m e,r=zF q m e/\bP 8 eM V' q m (po L t)) ?_ ?_;{refine rZ C _ λH f=>(Ja (op:=3) (acc:=λx y=>x&&!y) (λt=>by simp [ę]) (u.le (d.m f) λ_ _ g=>eM.le g (d.m f)) (v.le (d.m f) λ_ _ g=>eM.le g (d.m f)) w.1 A.1 s1 s2 z B ω (so _ ω) λa b W=>(c_D1 a b W).s λr _ _ e=>by rw [e];simp [ę]).s ?_;rintro r D E ⟨q,m,e,rfl,g⟩;exact ⟨_,_,_,rfl,λI k=>⟨_,_,_,rfl,g.le k λ_ _ g=>eM.le g k⟩⟩};{rintro r D E ⟨q,m,e,rfl,g⟩;grind [g.le,eM.le]}
def cO (V:Ó)(v:Value)(l:L3):Prop:=RL V v l.1 l.2.1 l.2.2
theorem cO.le {V V':ut}(h:cO V v l)(e:V.Le V'):cO V' v l:=RL.le h e
theorem bW (h:cO V v l):∃(b1:md)(p1:OA)(n1 c1:Nat)(b2:md)(p2:OA)(n2 c2:Nat)(b3:md)(p3:OA)(n3 c3:Nat),v=hF #[dB b1,zF p1 n1 c1,dB b2,zF p2 n2 c2,dB b3,zF p3 n3 c3]:=by obtain ⟨_,_,_,_,_,_,_,_,_,e,-⟩:=h;exact qxW e
theorem HL {xs:pz un}(h:cO V (.agg (List.toArray xs)) l):∀v∈xs,v.oneCell'=true:=by have ⟨_,_,_,_,_,_,_,_,_,_,_,_,e⟩:=bW h;have e:=Æ Array.toList (Value.agg.inj e);dsimp only at e;subst e;intro v hm;simp only [å,Ě,Ì] at hm;rcases hm with rfl|rfl|rfl|rfl|rfl|rfl<;>rfl
theorem Qu {c:Nat}{b':md}{p':OA}{n' c':Nat}{b'':md}{p'':OA}{n'' c'':Nat}:∀v∈([dB b,zF p n c,dB b',zF p' n' c',dB b'',zF p'' n'' c'']:pz un),v.oneCell'=true:=by intro v hm;simp only [å,Ě,Ì] at hm;rcases hm with rfl|rfl|rfl|rfl|rfl|rfl<;>rfl
theorem WW {al:pz L3}(h:bP 9 mI V p n al)(hi:i<al.length):p.isSome=true/\∃(x1 x2:Int)(q1:OA)(y1 y2:Int)(q2:OA)(z1 z2:Int)(q3:OA)(a:Addr),ae p (i*9)=some a/\V.at (a.add 0) (Ô .i64 x1)/\V.at (a.add 1) (Ô .i64 x2)/\V.at (a.add 2) (dS q1)/\V.at (a.add 3) (Ô .i64 y1)/\V.at (a.add 4) (Ô .i64 y2)/\V.at (a.add 5) (dS q2)/\V.at (a.add 6) (Ô .i64 z1)/\V.at (a.add 7) (Ô .i64 z2)/\V.at (a.add 8) (dS q3)/\mI V (hF #[Ô .i64 x1,Ô .i64 x2,dS q1,Ô .i64 y1,Ô .i64 y2,dS q2,Ô .i64 z1,Ô .i64 z2,dS q3]) al[i]:=by have ⟨f,c,xs,g,d,b⟩:=h.at_ i hi;obtain ⟨_,_,_,_,_,_,_,_,_,e⟩:=d.shape;have e:=Æ Array.toList (Value.agg.inj e);subst e;refine ⟨?_,_,_,_,_,_,_,_,_,_,f,c,b 0 _ rfl,b 1 _ rfl,b 2 _ rfl,b 3 _ rfl,b 4 _ rfl,b 5 _ rfl,b 6 _ rfl,b 7 _ rfl,b 8 _ rfl,d⟩;(cases p with|none=>{cases c}|some a=>rfl)
def cS (V:Ó)(v:Value)(c:Rat×Rat):Prop:=RP V v c.1 c.2
theorem cS.le {V V':ut}{c:Rat×Rat}(h:cS V v c)(l:V.Le V'):cS V' v c:=RP.le h l
theorem cS.shape {c:Rat×Rat}(h:cS V v c):∃(b:md)(p:OA)(n c:Nat)(p':OA)(n' c':Nat)(d:md)(q:OA)(m e:Nat)(q':OA)(m' e':Nat),v=hF #[dB b,zF p n c,zF p' n' c',dB d,zF q m e,zF q' m' e']:=by obtain ⟨p,n,c,p',n',c',q,m,e,q',m',e',h,-⟩:=h;grind
theorem tR {R:ut->un->Rat×Rat->Prop}(sh:∀{V v c},R V v c->∃(b:md)(p:OA)(n c:Nat)(p':OA)(n' c':Nat)(d:md)(q:OA)(m e:Nat)(q':OA)(m' e':Nat),v=hF #[dB b,zF p n c,zF p' n' c',dB d,zF q m e,zF q' m' e']) {al:pz (Rat×Rat)}(h:bP 6 R V p n al)(hi:i<al.length):p.isSome=true/\∃(b1:md)(p1:OA)(n1 c1:Nat)(p2:OA)(n2 c2:Nat)(b2:md)(p3:OA)(n3 c3:Nat)(p4:OA)(n4 c4:Nat)(a:Addr),ae p (i*6)=some a/\V.at (a.add 0) (dB b1)/\V.at (a.add 1) (zF p1 n1 c1)/\V.at (a.add 2) (zF p2 n2 c2)/\V.at (a.add 3) (dB b2)/\V.at (a.add 4) (zF p3 n3 c3)/\V.at (a.add 5) (zF p4 n4 c4)/\R V (hF #[dB b1,zF p1 n1 c1,zF p2 n2 c2,dB b2,zF p3 n3 c3,zF p4 n4 c4]) al[i]:=by have ⟨k,g,xs,l,j,f⟩:=h.at_ i hi;have ⟨_,_,_,_,_,_,_,_,_,_,_,_,_,_,e⟩:=sh j;have e:=Æ Array.toList (Value.agg.inj e);subst e;refine ⟨?_,_,_,_,_,_,_,_,_,_,_,_,_,_,_,k,g,f 0 _ rfl,f 1 _ rfl,f 2 _ rfl,f 3 _ rfl,f 4 _ rfl,f 5 _ rfl,j⟩;(cases p with|none=>{cases g}|some a=>rfl)
def kV (V:Ó)(v:Value)(c:Rat×Rat):Prop:=Zc V v c.1 c.2
theorem kV.le {V V':ut}{c:Rat×Rat}(h:kV V v c)(l:V.Le V'):kV V' v c:=Zc.le h l
theorem T0 {c:Nat}{p':OA}{n' c':Nat}{d:md}{m e:Nat}{q':OA}{m' e':Nat}:∀v∈([dB b,zF p n c,zF p' n' c',dB d,zF q m e,zF q' m' e']:pz un),v.oneCell'=true:=by intro v hm;simp only [å,Ě,Ì] at hm;rcases hm with rfl|rfl|rfl|rfl|rfl|rfl<;>rfl
theorem kV.shape {c:Rat×Rat}(h:kV V v c):∃(b:md)(p:OA)(n c:Nat)(p':OA)(n' c':Nat)(d:md)(q:OA)(m e:Nat)(q':OA)(m' e':Nat),v=hF #[dB b,zF p n c,zF p' n' c',dB d,zF q m e,zF q' m' e']:=by obtain ⟨_,_,_,_,_,_,_,_,_,_,_,_,_,_,h,-⟩:=h;exact qyK h
theorem MX {R:ut->un->Rat×Rat->Prop}(sh:∀{V v c},R V v c->∃(b:md)(p:OA)(n c:Nat)(p':OA)(n' c':Nat)(d:md)(q:OA)(m e:Nat)(q':OA)(m' e':Nat),v=hF #[dB b,zF p n c,zF p' n' c',dB d,zF q m e,zF q' m' e']) {vs:pz un}{al:pz (Rat×Rat)}(h:ç 6 R V vs al)(hi:i<al.length):∃(b1:md)(p1:OA)(n1 c1:Nat)(p2:OA)(n2 c2:Nat)(b2:md)(p3:OA)(n3 c3:Nat)(p4:OA)(n4 c4:Nat),i*6+6<=vs.length/\(vs.drop (i*6)).take 6=[dB b1,zF p1 n1 c1,zF p2 n2 c2,dB b2,zF p3 n3 c3,zF p4 n4 c4]/\R V (hF #[dB b1,zF p1 n1 c1,zF p2 n2 c2,dB b2,zF p3 n3 c3,zF p4 n4 c4]) al[i]:=by have ⟨xs,f,a,g⟩:=h.at_ i hi;have k:=h.fP φ;have ⟨_,_,_,_,_,_,_,_,_,_,_,_,_,_,e⟩:=sh a;have e:=Æ Array.toList (Value.agg.inj e);subst e;refine qyK ⟨ω,?_,a⟩;apply Qg8;intro j;rw [ğ];split;{grind};{grind}
theorem Sa {q:Rat}(h:RA V v q){k:Nat}(hs:Sz k q)(hk:k<=2^38):À 218 #[v] V λr V'=>RQ V' r q:=by obtain ⟨b,xs,d,a,-,e,c⟩:=RE.raw (no:=false) ⟨κ,λ_=>h⟩ (λh=>nomatch h);have ⟨f,g⟩:=c k hs;rw [<-e];exact Py a ω
def jV (x:L3):List L3->List L3
 | []=>[x]
 | y::r=>if jR y x<0 then y::jV x r else if y=x then y::r else x::y::r
theorem WM:∀(o:pz L3)(k:Nat),k<=o.length->(∀j (h:j<o.length),j<k->jR o[j] x<0)->(∀h:k<o.length,¬jR o[k] x<0) ->jV x o=if (∃h:k<o.length,o[k]=x) then o else o.take k++x::o.drop k:=by
 intro o
 induction o with
 | nil=>
  intro k d _ _;simp [jV]
 | cons y r ih=>
  intro k d a b
  cases k with
  | zero=>
   have c:¬jR y x<0:=b ψ;unfold jV;rw [Ã c];by_cases e:y=x
   ·rw [Ä e,Ä ⟨ψ,e⟩]
   grind
  | succ k=>
   have c:jR y x<0:=a 0 ψ ω;unfold jV;rw [Ä c,ih k (by simpa using d) (λj h i=>a (j+1) (by simpa using h) ω) (λh=>b (by simpa using h))];by_cases e:∃h:k<r.length,r[k]=x
   ·obtain ⟨f,g⟩:=e;rw [Ä ⟨f,g⟩,Ä ⟨by simpa using f,g⟩]
   grind
def bV (l:List L3):List L3:=l.foldl (λo x=>jV (bJ x) o) []
theorem Ma {l:pz L3}(h:i<l.length):bV (l.take (i+1))=jV (bJ l[i]) (bV (l.take i)):=by grind [bV,List.take_add_one]
theorem BU (x:L3):∀o:pz L3,(jV x o).length<=o.length+1
 | []=>by simp [jV]
 | y::r=>by
  have:=BU x r;grind [jV]
theorem PI (l:pz L3):(bV l).length<=l.length:=by
 have:∀(l o:pz L3),(l.foldl (λo x=>jV (bJ x) o) o).length<=o.length+l.length:=by
  intro l
  induction l with
  | nil=>intro o;simp
  | cons x r ih=>
   intro o;have a:=ih (jV (bJ x) o);have b:=BU (bJ x) o;grind
 grind [bV]
def qA (a b:L3):Prop:=jR a b<0
theorem Ty {b c:L3}(h:qA a b)(h':qA b c):qA a c:=by unfold qA at *;rw [uS] at *;omega
theorem YM {b:L3}(h:qA a b)(h':qA b a):False:=by unfold qA at *;rw [uS] at *;omega
theorem yI (h:qA a a):False:=YM h h
theorem Ok {b:L3}(h:¬qA a b)(hne:a≠b):qA b a:=by grind [qA,uS]
theorem Ba:∀{l m:pz L3},l.Pairwise qA->m.Pairwise qA->(∀x,x∈l↔x∈m)->l=m
 | [],[],_,_,_=>rfl
 | [],b::m,_,_,h=>by have:=(h b).2 ψ;cases this
 | a::l,[],_,_,h=>by have:=(h a).1 ψ;cases this
 | a::l,b::m,h1,h2,h=>by
  have ⟨g,c⟩:=Ġ.1 h1;have ⟨i,d⟩:=Ġ.1 h2;have e:a=b:=by rcases å.1 ((h a).1 ψ) with e|e<;>grind [YM]
  subst e;rw [Ba c d λx=>⟨λf=>?_,λf=>?_⟩]
  ·grind [yI]
  grind [yI]
theorem vk {y:L3}:∀{o:pz L3},y∈jV x o↔y=x\/y∈o
 | []=>by simp [jV]
 | z::r=>by
  unfold jV;split
  ·simp only [å,vk (o:=r)];grind
  grind
theorem BT:∀{o:pz L3},o.Pairwise qA->(jV x o).Pairwise qA
 | [],_=>Qd1 _ _
 | z::r,h=>by
  have ⟨h1,h2⟩:=Ġ.1 h;unfold jV;split
  ·rename_i b;refine Ġ.2 ⟨λy a=>?_,BT h2⟩;rcases vk.1 a with rfl|a
   ·exact b
   ·exact h1 y a
  grind [qA,Ok,List.pairwise_cons.2,Ty]
theorem lk (l:pz L3):(bV l).Pairwise qA/\∀x,x∈bV l↔x∈l.map bJ:=by
 have:∀(l o:pz L3),o.Pairwise qA->(l.foldl (λo x=>jV (bJ x) o) o).Pairwise qA/\∀x,x∈l.foldl (λo x=>jV (bJ x) o) o↔x∈o\/x∈l.map bJ:=by
  intro l
  induction l with
  | nil=>intro o h;exact ⟨h,λx=>ψ⟩
  | cons y r ih=>
   intro o h;have ⟨a,b⟩:=ih (jV (bJ y) o) (BT h);refine ⟨a,λx=>?_⟩;rw [Qc6,b x,vk,Ļ,å];grind
 grind [List.Pairwise.nil,bV]
theorem Jj:∀{r:pz L3} {p:L3},(p::r).Pairwise (λx y=>¬Vf y x<0)->(xf eL p r).Pairwise qA/\(∀x∈xf eL p r,qA p x)/\∀x,x∈p::xf eL p r↔x∈p::r
 | [],p,_=>⟨List.Pairwise.nil,(λx h=>by cases h),λx=>Wv0⟩
 | a::r,p,h=>by
  have ⟨h1,h2⟩:=Ġ.1 h;have ⟨i1,i2,i3⟩:=Jj h2;unfold xf;by_cases e:a=p
  ·subst e;have:eL a a=true:=by simp [eL]
   grind
  ·have:eL a p=false:=by simp [eL,e]
   rw [this];have b:=Ok (h1 a ψ) e;grind [List.pairwise_cons.2,Ty]
theorem Sl {m:pz L3}(h:m.Pairwise (λx y=>¬Vf y x<0)):(oH eL m).Pairwise qA/\∀x,x∈oH eL m↔x∈m:=by (cases m with|nil=>exact ⟨List.Pairwise.nil,λx=>Wv0⟩|cons p r=>{have ⟨a,b,c⟩:=Jj h;exact ⟨Ġ.2 ⟨b,a⟩,c⟩})
theorem Tu {l m:pz L3}(h:YX (l.map bJ) m):oH eL m=bV l:=by
 have ⟨a,b⟩:=Sl h.2;have ⟨c,d⟩:=lk l;exact Ba a c λx=>by rw [b x,d x];exact h.1.mem_iff
theorem HM {vs:pz un}{ls:pz L3}(h:ç 6 cO V vs ls)(hi:i<ls.length):∃b1 p1 n1 c1 b2 p2 n2 c2 b3 p3 n3 c3,i*6+6<=vs.length/\(vs.drop (i*6)).take 6=[Value.bool b1,zF p1 n1 c1,dB b2,zF p2 n2 c2,dB b3,zF p3 n3 c3]/\cO V (hF #[dB b1,zF p1 n1 c1,dB b2,zF p2 n2 c2,dB b3,zF p3 n3 c3]) ls[i]:=by have ⟨xs,b,a,c⟩:=h.at_ i hi;have d:=h.fP φ;have ⟨_,_,_,_,_,_,_,_,_,_,_,_,e⟩:=bW a;have e:=Æ Array.toList (Value.agg.inj e);subst e;refine qxW ⟨ω,?_,a⟩;apply Qg8;intro j;rw [ğ];split;{grind};{grind}
end
end Go.Proofs.Tryz
namespace Go.Proofs.Tryz
variable{V:Ó}{v:Value}{l:L3}{p:OA}{n:Nat}
theorem D4 (h:cO V v l):À 82 #[v] V λr V'=>∃w b,r=tN #[w,dB b]/\cO V' w (bJ l):=by have m:=h;obtain ⟨u,x,y,z,A,B,C,D,E,rfl,F,G,S⟩:=h;have rev:∀(i:ut),V.Le i->(l.1<0\/l.1=0/\l.2.1<0)->À 10 #[hF #[dB (decide (l.1<0)),zF u x y,dB (decide (l.2.1<0)),zF z A B,dB (decide (l.2.2<0)),zF C D E]] i λr V'=>cO V' r (bJ l):=λi n f=>by{refine (jQ (a:=l.1) (b:=l.2.1) (c:=l.2.2) (m.le n)).s ?_;rintro r H I g;unfold bJ;rw [Ä f];exact g};refine Dt V _ λT q=>(oD l.1 (F.le q)).s ?_;rintro r V2 J rfl;have k:=q.m J;refine ⟨_,rfl,λf i n=>(rev i (k.m n) (.inl (Wq5.1 (Á f)))).s ?_,λf=>⟨λo U s=>(oD l.2.1 (G.le (k.m s))).s ?_,λd W K=>?_⟩⟩;{rintro r H I g;have L:=g;obtain ⟨_,_,_,_,_,_,_,_,_,_,_,_,rfl⟩:=bW g;exact qxW ⟨rfl,λX M=>⟨_,_,rfl,L.le M⟩⟩};{have N:=Qm6.1 (by simpa using o);rintro r Y O rfl;have t:=k.m (s.m O);refine ⟨_,rfl,λj P Q=>(rev P (t.m Q) (.inr ⟨N,Wq5.1 (Á j)⟩)).s ?_,λj Z R=>⟨_,_,rfl,?_⟩⟩;{rintro r V9 l9 g;obtain ⟨_,_,_,_,_,_,_,_,_,_,_,_,rfl⟩:=bW g;exact qxW ⟨rfl,λfW p=>⟨_,_,rfl,g.le p⟩⟩};{have j:=Â j;unfold bJ;rw [Ã λh=>j (Wq5.2 (h.elim (λh=>ω) (·.2)))];exact m.le (t.m R)}};{have f:=Â f;have d:¬l.1=0:=λe=>by{rw [e] at d;simp at d};refine ⟨_,_,rfl,?_⟩;unfold bJ;rw [Ã λh=>h.elim (λh=>f (Wq5.2 h)) (λh=>d h.1)];exact m.le (k.m K)}
set_option maxHeartbeats 1000000 in
theorem uL {c:Nat}{ls:pz L3}(h:bP 6 cO V p n ls)(hn:ls.length<100000000)(hs:∀l∈ls,Bd l):À 34 #[zF p n c] V λr V'=>∃q m e,r=zF q m e/\bP 6 cO V' q m (bV ls)/\m<=e:=by
 obtain rfl:=h.len
 refine wq V _ ⟨λz V'=>∃i:Nat,z.2.2.2=(i:Int)/\i<=ls.length/\GR 6 cO V' z.1 z.2.1 z.2.2.1 (bV (ls.take i)),λz=>ls.length-z.2.2.2.toNat,
  ⟨(0,0,[],0),σ,0,rfl,â _,GR.nil⟩,?_⟩
 rintro ⟨F,w2,us,z4⟩ V1 l1 ⟨i,e4,Vn,t⟩;dsimp only at e4 t;subst e4;have G:=t.len;have u:=t.le;have fv:=t.cap;have v:=t.row;refine ⟨rfl,λa=>?_,λa ku ct bk K=>?_⟩;rotate_left
 ·have a:¬(i:Int)<ls.length:=Â a;obtain rfl:i=ls.length:=ω;rw [ě] at G v;subst G;exact ⟨_,_,_,rfl,bP.bM K (v.le λ_ _ g=>cO.le g ct) φ u,u⟩
 have a:(i:Int)<ls.length:=Á a;have A:i<ls.length:=ω
 have w:i64.wrap ((i:Int)+1)=((i+1:Nat):Int):=by rw [au ω];rfl
 dsimp only;rw [Ý,w];obtain ⟨ad,ha,xs,-,hf,d⟩:=(h.le l1 λ_ _ g=>cO.le g l1).at_ i A;have ⟨_,_,_,_,_,_,_,_,_,_,_,_,ex⟩:=bW hf;have ex:=Æ Array.toList (Value.agg.inj ex);dsimp only at ex;subst ex;have Vk:=Ma A;have B:=(hs _ (ù A)).can
 have a4:(bV (ls.take i)).length<100000000:=by have:=PI (ls.take i);rw [é] at this;omega
 have Yw:∀q∈bV (ls.take i),Bd q:=λq H=>by obtain ⟨y,hy,rfl⟩:=ò.1 ((lk _).2 q |>.1 H);exact (hs y (Qn5 hy)).can
 clear t;generalize bV (ls.take i)=O at *;refine ⟨aQ ha,⟨ω,ω⟩,_,_,_,_,_,_,_,_,_,_,_,_,ad,ha,d 0 _ rfl,d 1 _ rfl,d 2 _ rfl,d 3 _ rfl,d 4 _ rfl,d 5 _ rfl,λV2 l2=>(D4 (hf.le l2)).s ?_⟩;generalize bJ ls[i]=x at *;rintro r V3 l3 ⟨wv,bc,rfl,H⟩;have o:=H;obtain ⟨eb,ep,en,ec,fb,fp,fn,fe,gb,gp,gn,gc,rfl⟩:=bW H;refine ⟨_,_,_,_,_,_,_,_,_,_,_,_,_,rfl,λz _=>∃j:Nat,z=(j:Int)/\j<=O.length/\∀(k:Nat)(h:k<O.length),k<j->jR O[k] x<0,λz=>O.length-z.toNat,⟨0,σ,0,rfl,â _,λk _ h=>Å h (Ŝ k)⟩,?_⟩;rintro z V4 I ⟨j,rfl,yF,jl⟩;have wj:i64.wrap ((j:Int)+1)=((j+1:Nat):Int):=by rw [au ω];rfl
 rw [Ý,wj];have cJ:=l2.m (l3.m I);refine ⟨rfl,λz _=>z=true↔∃h:j<O.length,jR O[j] x<0,⟨λa=>?_,λa=>⟨false,σ,?_⟩⟩,?_⟩
 ·have a:=Á a;have f:j<O.length:=ω;obtain ⟨L,M,N,P,Q,R,S,T,U,W,X,Y,Z,Md,hr⟩:=HM v f;refine ⟨⟨ω,ω⟩,u,L,M,N,P,Q,R,S,T,U,W,X,Y,⟨Z,Md⟩,λV5 l5=>(mq (hr.le (cJ.m l5)) (o.le (I.m l5)) (Yw _ (ù f)).ja B.ja).s λr V6 l6 rfl=>⟨_,rfl,_,σ,by dsimp only;rw [Ñ];exact ⟨λh=>⟨f,h⟩,λ⟨_,h⟩=>h⟩⟩⟩
 ·have a:=Â a;exact ⟨κ,λ⟨h,_⟩=>Å h ω⟩
 rintro z V7 l7 S5;refine ⟨rfl,λs=>?_,λs=>?_⟩
 ·have ⟨f,a0⟩:=S5.1 s;refine ⟨((j+1:Nat):Int),by dsimp only;omega,σ,j+1,rfl,f,λk h a5=>?_⟩;by_cases e:k=j;{subst e;exact a0};{exact jl k h ω}
 have a1:∀h:j<O.length,¬jR O[j] x<0:=λh C=>by have:=S5.2 ⟨h,C⟩;rw [s] at this;cases this
 have b:=WM O j yF jl a1;have cG:=cJ.m l7;refine ⟨λz _=>z=true↔¬∃h:j<O.length,O[j]=x,⟨λhe=>⟨true,σ,?_⟩,λhe=>?_⟩,?_⟩
 ·have he:(j:Int)=(F:Int):=by{simpa using he};exact ⟨λ_ ⟨h,_⟩=>Å h ω,λ_=>rfl⟩
 ·have he:¬(j:Int)=(F:Int):=by{simpa using he};have f:j<O.length:=ω;obtain ⟨L,M,N,P,Q,R,S,T,U,W,X,Y,Z,Md,hr⟩:=HM v f;refine ⟨⟨ω,ω⟩,u,L,M,N,P,Q,R,S,T,U,W,X,Y,⟨Z,Md⟩,λV8 l8=>(mq (hr.le (cG.m l8)) (o.le (I.m (l7.m l8))) (Yw _ (ù f)).ja B.ja).s λr V9 l9 rfl=>⟨_,rfl,_,σ,by dsimp only;rw [bne_iff_ne,ne_eq,G2];exact ⟨λh ⟨_,C⟩=>h C,λh C=>h ⟨f,C⟩⟩⟩⟩
 rintro z fW D BR;have Qf:=cG.m D;refine ⟨rfl,λs fk bw bk K J=>?_,λs=>?_⟩
 ·have a2:=BR.1 s;rw [Ã a2] at b;have ⟨xs,ys,x1,x2,x3,y1,y2,y3,r1,r2,r3,r4,r5⟩:=Ax (V:=fk) (GR.s ⟨G,u,fv,v⟩ λ_ _ g=>cO.le g (Qf.m bw)) φ (λ_ _=>HL) K (es:=[_,_,_,_,_,_]) rfl (o.le (I.m (l7.m (D.m bw)))) (j:=j);refine ⟨⟨ω,ω⟩,⟨ω,ω⟩,⟨ω,ω⟩,xs,x1,x2,ω,Ù _,Ù 6,x2,x3,λa6 J2 sp c' h1 h2=>?_⟩;rw [r1,r2];refine ⟨ys,y1,y2,Ù _,y3,ω,ω,r3,r4,λa3 E h3 h4=>⟨(j+(1+(F-j)),E,_,((i+1:Nat):Int)),by dsimp only;omega,by and_intros<;>first|rfl|omega,i+1,rfl,A,?_⟩⟩;show GR 6 cO _ _ _ _ (bV (ls.take (i+1)));rw [Vk,b];exact r5 a3 E h3 h4
 ·have hex:=Qb0 λh=>by{have:=BR.2 h;rw [s] at this;cases this};rw [Ä hex] at b;refine ⟨(F,w2,us,((i+1:Nat):Int)),by dsimp only;omega,σ,i+1,rfl,A,?_⟩;show GR 6 cO _ _ _ _ (bV (ls.take (i+1)));rw [Vk,b];exact ⟨G,u,fv,v.le λ_ _ g=>cO.le g Qf⟩
theorem GW {c:Nat}{A:pz (Rat×Rat)}(h:bP 6 cS V p n A)(hn:A.length<=1000000){k:Nat}(hs:∀x∈A,Sz k x.1/\Sz k x.2)(hk:k<=2^40:=by omega):À 131 #[zF p n c] V λr V'=>∃q m e,r=zF q m e/\bP 6 kV V' q m A:=by obtain rfl:=h.len;refine ES V _ ⟨λz V'=>∃j:Nat,z.2.2.2=(j:Int)/\j<=A.length/\GR 6 kV V' z.1 z.2.1 z.2.2.1 (A.take j),λz=>A.length-z.2.2.2.toNat,⟨(0,0,[],0),σ,0,rfl,â _,GR.nil⟩,?_⟩;rintro ⟨u,P,Q,R⟩ S i ⟨j,l,T,d⟩;dsimp only at l d;subst l;have v:=d.len;rw [é] at v;refine ⟨rfl,λb=>?_,λb U y W B=>?_⟩;{have b:(j:Int)<A.length:=Á b;have f:j<A.length:=ω;have w:i64.wrap ((j:Int)+1)=((j+1:Nat):Int):=by{rw [au ω];rfl};dsimp only;rw [Ý,w];obtain ⟨C,X,Y,Z,c1,p2,n2,c2,b2,p3,n3,c3,p4,n4,c4,a,D,E,F,G,H,I,J,g⟩:=tR cS.shape (h.le i λ_ _ g=>cS.le g i) f;have ⟨s1,s2⟩:=hs _ (ù f);refine ⟨C,⟨ω,ω⟩,_,_,_,_,_,_,_,_,_,_,_,_,_,_,a,D,E,F,G,H,I,J,λV2 o=>(I8 (g.le o) s1 s2 hk).s ?_⟩;rintro r s K L;have t:kV s r A[j]:=L;obtain ⟨_,_,_,_,_,_,_,_,_,_,_,_,_,_,rfl⟩:=t.shape;refine qyK ⟨rfl,ω,d.le,d.cap,rfl,T0,λsp M N O=>⟨(u+1,M,_,((j+1:Nat):Int)),by dsimp only;omega,σ,j+1,rfl,f,?_⟩⟩;dsimp only;rw [ŀ,ô f];exact (d.s (V':=s) λ_ _ g=>kV.le g (o.m K)).snoc rfl t φ N O};{have b:¬(j:Int)<A.length:=Â b;obtain rfl:j=A.length:=ω;rw [ě] at d;obtain rfl:=d.len;exact ⟨_,_,_,rfl,bP.bM B (d.row.le λ_ _ g=>kV.le g y) φ d.le⟩}
theorem nr {q:Rat}(h:RQ V v q):À 107 #[v] V λr V'=>r=Ô .i64 q.num.sign:=by obtain ⟨_,_,_,_,_,_,rfl,a,-⟩:=h;exact rj q a
theorem uM {p:Rat×Rat}(h:RP V v p.1 p.2):À 213 #[v] V λr V'=>r=Ô .i64 (aw.half p):=by obtain ⟨_,_,_,_,_,_,_,_,_,_,_,_,rfl,g,i⟩:=h;refine ET V _ λw f=>(nr (g.le f)).s ?_;rintro r V2 j rfl;refine ⟨_,rfl,λx k=>(nr (i.le (f.m (j.m k)))).s ?_⟩;rintro r y A rfl;have key:∀z:Int,(z=if p.2.num.sign>0\/p.2.num.sign=0/\p.1.num.sign>0 then 1 else if p.2.num.sign<0\/p.1.num.sign<0 then 2 else 0)->Value.int .i64 z=Ô .i64 (aw.half p):=λz e=>by{rw [e];rfl};refine ⟨_,rfl,λa=>?_,λa=>?_⟩;{have a:p.1.num.sign=0:=by{simpa using a};refine ⟨λb B C=>key _ ?_,λb=>⟨λc l m=>key _ ?_,λc=>⟨λd=>⟨λe n o=>key _ ?_,λe q s=>key _ ?_⟩,λd t u=>key _ ?_⟩⟩⟩;{have b:p.2.num.sign=0:=by{simpa using b};rw [Ã ω,Ã ω]};{have c:=Á c;rw [Ä (.inl c)]};{have b:¬p.2.num.sign=0:=by{simpa using b};have d:p.2.num.sign=0:=by{simpa using d};exact Å d b};{have b:¬p.2.num.sign=0:=by{simpa using b};have d:p.2.num.sign=0:=by{simpa using d};exact Å d b};{have b:¬p.2.num.sign=0:=by{simpa using b};have c:=Â c;rw [Ã ω,Ä ω]}};{have a:¬p.1.num.sign=0:=by{simpa using a};refine ⟨λc l m=>key _ ?_,λc=>⟨λd=>⟨λe n o=>key _ ?_,λe q s=>key _ ?_⟩,λd t u=>key _ ?_⟩⟩;{have c:=Á c;rw [Ä (.inl c)]};{have d:p.2.num.sign=0:=by{simpa using d};have e:=Á e;rw [Ä (.inr ⟨d,e⟩)]};{have d:p.2.num.sign=0:=by{simpa using d};have e:=Â e;rw [Ã ω,Ä ω]};{have d:¬p.2.num.sign=0:=by{simpa using d};have c:=Â c;rw [Ã ω,Ä ω]}}
theorem sign_b (q:Rat):-1<=q.num.sign/\q.num.sign<=1:=by rcases Qh0 q.num 0 with h|h|h;{rw [Qd2 h];omega};{rw [h];decide};{rw [Qf8 h];omega}
theorem D3 {w:un}{a b:Rat×Rat}(h:RP V v a.1 a.2)(h':RP V w b.1 b.2){k:Nat}(s1:Sz k a.1)(s2:Sz k a.2)(s3:Sz k b.1)(s4:Sz k b.2)(hk:4*k+4<2^38:=by omega):À 176 #[v,w] V λr V'=>r=Ô .i64 (aw.kQ a b):=by have f:=h;have c:=h';obtain ⟨_,_,_,_,_,_,_,_,_,_,_,_,rfl,-⟩:=h;obtain ⟨_,_,_,_,_,_,_,_,_,_,_,_,rfl,-⟩:=h';refine Ds V _ λq e=>(uM (f.le e)).s ?_;rintro r V2 i rfl;refine ⟨_,rfl,λs j=>(uM (c.le (e.m (i.m j)))).s ?_⟩;rintro r t n rfl;have l:=e.m (i.m (j.m n));refine ⟨_,rfl,λg=>⟨λd u x=>?_,λd y z=>?_⟩,λg A m=>(jE (f.le (l.m m)) (c.le (l.m m)) s1 s2 s3 s4 hk).s ?_⟩;{unfold aw.kQ;rw [Ä (Á d)]};{have g:aw.half a≠aw.half b:=by{simpa using g};have d:=Â d;unfold aw.kQ;rw [Ã d,Ä ω]};{have g:aw.half a=aw.half b:=by{simpa using g};rintro r B C gc;obtain ⟨_,_,_,_,_,_,rfl⟩:=gc.shape;refine qyZ ⟨rfl,λD o=>(nr (gc.le o)).s λr E p rfl=>⟨_,rfl,λF G=>?_⟩⟩;have H:=sign_b (a.1*b.2-a.2*b.1);rw [au ω];unfold aw.kQ;rw [Ã ω,Ã ω];show _=Value.int .i64 (-(a.1*b.2-a.2*b.1).num.sign);congr 1;omega}
theorem AD {al:pz L3}(h:bP 6 cO V p n al){i:Nat}(hi:i<al.length):p.isSome=true/\∃(b1:md)(p1:OA)(n1 c1:Nat)(b2:md)(p2:OA)(n2 c2:Nat)(b3:md)(p3:OA)(n3 c3:Nat)(a:Addr),ae p (i*6)=some a/\V.at (a.add 0) (dB b1)/\V.at (a.add 1) (zF p1 n1 c1)/\V.at (a.add 2) (dB b2)/\V.at (a.add 3) (zF p2 n2 c2)/\V.at (a.add 4) (dB b3)/\V.at (a.add 5) (zF p3 n3 c3)/\cO V (hF #[dB b1,zF p1 n1 c1,dB b2,zF p2 n2 c2,dB b3,zF p3 n3 c3]) al[i]:=by have ⟨f,c,xs,g,d,b⟩:=h.at_ i hi;have ⟨_,_,_,_,_,_,_,_,_,_,_,_,e⟩:=bW d;have e:=Æ Array.toList (Value.agg.inj e);subst e;refine ⟨?_,_,_,_,_,_,_,_,_,_,_,_,_,f,c,b 0 _ rfl,b 1 _ rfl,b 2 _ rfl,b 3 _ rfl,b 4 _ rfl,b 5 _ rfl,d⟩;(cases p with|none=>{cases c}|some a=>rfl)
theorem OW {m:L3}{k:Nat}(sl:iH k l)(sm:iH k m):Sz (20*k+20) (meX l m)/\Sz (20*k+20) (meY l m):=by obtain ⟨a,b,e⟩:=sl;obtain ⟨c,d,f⟩:=sm;exact ⟨(Sz.mul ((b.mul f).sub (e.mul d)) (fA ((a.mul d).sub (b.mul c)))).s ω,(Sz.mul ((e.mul c).sub (a.mul f)) (fA ((a.mul d).sub (b.mul c)))).s ω⟩
theorem Sx {q:L3->Prop}(hq:∀l,q l->q (bJ l)){ls:pz L3}(h:∀l∈ls,q l):∀l∈bV ls,q l:=λl a=>by grind [lk]
def LL:L3:=(0,1,0)
theorem LL_ok:bX LL=true:=φ
theorem CN {z:Int}(k:Nat)(hk:k≠0)(h:z.natAbs<=1):z.natAbs<2^k:=Ń h (Qf0 hk)
theorem Zb (k:Nat)(hk:k≠0):LL.1.natAbs<2^k/\LL.2.1.natAbs<2^k/\LL.2.2.natAbs<2^k:=⟨CN k hk φ,CN k hk φ,CN k hk φ⟩
theorem Rm:Bd LL:=Zb 1000 φ
theorem AV {a b c:Int}(h:RL V v a b c):∃(b1:md)(p1:OA)(n1 c1:Nat)(b2:md)(p2:OA)(n2 c2:Nat)(b3:md)(p3:OA)(n3 c3:Nat),v=hF #[dB b1,zF p1 n1 c1,dB b2,zF p2 n2 c2,dB b3,zF p3 n3 c3]:=by obtain ⟨p,n,s,d,f,g,q,m,e,rfl,-⟩:=h;grind
theorem G0 {u w:un}(hp:RP V u ((0:Int):Rat) ((0:Int):Rat))(hq:RP V w ((1:Int):Rat) ((0:Int):Rat)):À 30 #[u,w] V λr V'=>∃l,r=tN #[l,dB true]/\RL V' l LL.1 LL.2.1 LL.2.2:=by have a:Sz 1 ((0:Int):Rat):=by{unfold Sz;decide};refine (ka hp hq a a M_ a ω).s ?_;have b:(pI ((0:Int):Rat) ((0:Int):Rat) ((1:Int):Rat) ((0:Int):Rat)).1.num=0:=ξ;have c:(pI ((0:Int):Rat) ((0:Int):Rat) ((1:Int):Rat) ((0:Int):Rat)).2.1.num=1:=ξ;have d:(pI ((0:Int):Rat) ((0:Int):Rat) ((1:Int):Rat) ((0:Int):Rat)).2.2.num=0:=ξ;rw [b,c,d];rintro r V' _ ⟨-,h⟩;exact h ω
theorem qw {p:L3->Prop}:∀{t:Tr} {k:Nat},t.dV p->∀x∈wr k t,p x.ln
 | .leaf _,_,_,x,h=>by simp [wr] at h
 | .node l a b,k,⟨h1,h2,h3⟩,x,h=>by
  simp only [wr,å,õ] at h;rcases h with rfl|h|h
  ·exact h1
  ·exact qw h2 x h
  ·exact qw h3 x h
theorem Uz {t:Tr}(h:RW V p t):p.isSome=true:=by (cases t with|leaf i=>{obtain ⟨b,a,c,d,e,f,g,j,k,rfl,m⟩:=h;rfl}|node l x y=>{obtain ⟨b,i,n,o,q,r,s,u,v,a,w,z,A,c,pl,B,rfl,-⟩:=h;rfl})
theorem VW:∀(t:Tr) {V:ut} {p:OA} {lb:Nat} {n c:Nat} {vs:pz un} {l:pz Nd},RW V p t->t.dV me->n=l.length ->(vs≠[]->V.w.heap[lb]?=some (.cells vs.toArray 179 (0,0)))->(vs≠[]->V.X lb)->n<=c->c*8<=vs.length->NR V vs l->n+t.size<=1000000 ->À 41 #[dS p,zF (mA lb c) n c] V λr V'=>∃(bm:Nat)(vm:pz un)(c':Nat),(vm≠[]->V'.w.heap[bm]?=some (.cells vm.toArray 179 (0,0)))/\(vm≠[]->V.w.heap.size<=bm\/(vs≠[]/\bm=lb))/\r=tN #[zF (mA bm c') (n+t.size) c',Ô .i64 (rt n t)]/\n+t.size<=c'/\c'*8<=vm.length/\NR (V'.aW (vm≠[]) bm) vm (l++wr n t)/\(t.size=0->c'=c):=by
 intro t
 induction t with
 | leaf i=>
  intro V p lb n c vs l G _ H a q s z A I;have f:=Uz G;obtain ⟨b,U,W,c4,c5,c6,c7,c8,c9,rfl,B⟩:=G
  have fin:∀(E:ut)(k:Nat)(x:Int),V.Le (E.aW (vs≠[]) k)->(vs≠[]->E.w.heap[k]?=some (.cells vs.toArray 179 (0,0))) ->
    (vs≠[]->V.w.heap.size<=k\/(vs≠[]/\k=lb)\/False)->x=rt n (.leaf i)->∃(bm:Nat)(vm:pz un)(c':Nat),(vm≠[]->E.w.heap[bm]?=some (.cells vm.toArray 179 (0,0)))/\(vm≠[]->V.w.heap.size<=bm\/(vs≠[]/\bm=lb)) /\
   Value.tuple #[zF (mA k c) n c,Ô .i64 x]=tN #[zF (mA bm c') (n+(Tr.leaf i).size) c',Ô .i64 (rt n (.leaf i))]/\n+(Tr.leaf i).size<=c'/\c'*8<=vm.length/\NR (E.aW (vm≠[]) bm) vm (l++wr n (.leaf i))/\((Tr.leaf i).size=0->c'=c):=by
   intro E k x hle e3 e4 Y;refine ⟨k,vs,c,e3,λh=>?_,by rw [Y];rfl,s,z,?_,λ_=>rfl⟩
   ·rcases e4 h with h|h|h;{exact .inl h};{exact .inr h};{exact h.elim}
   ·simp only [wr,Ć];exact A.le hle
  refine qY _ lb n c vs V _ a q ⟨f,f,true,zI B 0 rfl,λ_=>⟨f,f,i,zI B 1 rfl,λZ V1 k J F a3=>fin V1 k _ J F a3 (by subst Z;rfl),λZ V2 k J F a3=>fin V2 k _ J F a3 (by subst Z;rfl)⟩,λh=>by cases h⟩
 | node ln x y Vm ihy=>
  intro V p lb n c vs l G K H a q s z A I;have f:=Uz G;simp only [Tr.size] at I;obtain ⟨⟨-,a0⟩,a4,a8⟩:=K;obtain ⟨b,i,b1,p1,n1,c1,b2,p2,n2,U,b3,p3,n3,W,pl,pr,rfl,B,hl,Y,hy⟩:=G
  have g:∀j v,([dB b1,zF p1 n1 c1,dB b2,zF p2 n2 U,dB b3,zF p3 n3 W]:pz un)[j]?=some v->V.at (((⟨b,2,none⟩:Addr)).add j) v:=by
   intro j v a
   have L:j<6:=by rcases ĉ j 6 with L|L;{exact L};{rw [Ņ (by simpa using L)] at a;cases a}
   have h2:(⟨b,2,none⟩:Addr)=(⟨b,0,none⟩:Addr).add 2:=by rw [add_zero']
   rw [h2,Lx,add_zero'];refine dL (xs:=[_,_,_,_,_,_,_,_,_,_]) B ?_
   match j,L,a with
   | 0,_,a=>exact a
   | 1,_,a=>exact a
   | 2,_,a=>exact a
   | 3,_,a=>exact a
   | 4,_,a=>exact a
   | 5,_,a=>exact a
  obtain ⟨t1,t2,t3⟩:=a0.ah;refine qY _ lb n c vs V _ a q ⟨f,f,false,zI B 0 rfl,ţ,λ_=>⟨f,f,b1,p1,n1,c1,b2,p2,n2,U,b3,p3,n3,W,⟨b,2,none⟩,by simp [ae,add_zero'],g 0 _ rfl,g 1 _ rfl,g 2 _ rfl,g 3 _ rfl,g 4 _ rfl,g 5 _ rfl,λE l3=>(yu (hl.le l3) ω ω).s ?_⟩⟩;rintro r V4 l4 M;obtain ⟨d1,q1,m1,e1,d2,q2,m2,e2,d3,q3,m3,e3,rfl⟩:=wG M;have Hk:=l3.m l4;refine qxW ⟨rfl,ω,s,z,rfl,by intro v a;simp at a;rcases a with rfl|rfl|rfl|rfl|rfl|rfl|rfl|rfl<;>rfl,λsp c' g1 g2=>?_⟩;refine ⟨f,f,pl,zI (Hk _ _ B) 8 rfl,λC l5 N f1 f2=>?_⟩;have d:=NR.push (sp:=sp) (x:=0) (y:=0) (A.le Hk) ω (ln:=ln) M;rw [<-H] at d;generalize hrow:vs.take (n*8)++([_,_,_,_,_,_,_,_]:pz un)++sp=row at f1 f2 d ⊢
  have O:row.length=n*8+8+sp.length:=by rw [<-hrow];simp only [í,é,Ą,į];omega
  have P:row≠[]:=λe=>by rw [e] at O;simp only [į] at O;omega
  have D:=Hk.m l5;refine (Vm (V:=C.aq [vb row C.w.heap.size N]) (p:=pl) (lb:=N) (n:=n+1) (c:=c') (vs:=row) (l:=l++[⟨ln,0,0⟩]) (RW.le (V:=V) (V':=C.aq _) (λb o h=>D b o h) Y) a4 (by simp [H]) f1 (λh=>⟨by simp [pJ h],f2 h⟩) g1 ω (NR.le (V:=V4) (V':=C.aq _) d λb o h=>l5 b o h) ω).s ?_;rintro r V6 l6 ⟨bm,vm,a9,J,F,rfl,a5,a6,a7,-⟩;have Qi:C.Le V6:=λb o h=>l6 b o h;have Q:=vo (V':=C) Qi (Ó.Le.refl C) λh=>(F h).imp id λh'=>by rw [h'.2];exact f2 P
  refine ⟨bm,vm,J,F,none,_,_,_,rfl,f,f,pr,zI ((D.m Q) _ _ B) 9 rfl,λS l7 R d1 d2=>?_⟩;have b0:vm≠[]:=λe=>by rw [e] at a6;simp at a6;omega
  refine (ihy (V:=S.aq [vb vm S.w.heap.size R]) (p:=pr) (lb:=R) (n:=n+1+x.size) (c:=a9) (vs:=vm) (l:=l++[⟨ln,0,0⟩]++wr (n+1) x) (RW.le (V:=V) (V':=S.aq _) (λb o h=>((D.m Q).m l7) b o h) hy) a8 (by simp [H,fw];omega) d1 (λh=>⟨by simp [pJ h],d2 h⟩) a5 a6 (NR.le (V:=V6.aW (vm≠[]) bm) (V':=S.aq _) a7 λb o h=>l7 b o h) ω).s ?_;rintro r V8 l8 ⟨bn,T,b4,b8,b9,rfl,b5,b6,b7,-⟩;have hlen:n*8+8<=T.length:=ω
  simp only [Ý];refine ⟨bn,T,b8,b9,none,_,_,_,rfl,⟨ω,ω⟩,b5,ω,⟨ω,ω⟩,b5,by rw [Qf7];omega,λV9 RU u1 u4 u5=>?_⟩;have m:=NR.kids (V:=V8.aW (T≠[]) bn) (l:=l) (r:=wr (n+1) x++wr (n+1+x.size) y) (ln:=ln) (u:=0) (v:=0) (x:=rt (n+1) x) (y:=rt (n+1+x.size) y) (by simpa using b7);rw [<-H] at m;refine ⟨RU,_,b4,u4,λh=>?_,by rw [show n+(Tr.node ln x y).size=n+1+x.size+y.size from by simp only [Tr.size];omega];rfl,by simp only [Tr.size];omega,by simp only [Qf7];omega,?_,λh=>by simp only [Tr.size] at h;omega⟩
  ·rcases u5 h with h|h|h;{exact .inl h};{exact .inr h};{exact h.elim}
  ·simp only [wr];exact NR.le (V:=V8.aW (T≠[]) bn) m λb o h=>u1 b o h
theorem Bt {t:Tr}(h:RW V p t)(ha:t.dV me)(hs:t.size<=1000000):À 12 #[dS p] V λr V'=>AT V' r (rt 0 t) (wr 0 t)/\(t.size=0->r=hF #[Ô .i64 (rt 0 t),zF none 0 0]):=by refine DG V _ λg j=>?_;refine aa.YO (VW t (V:=g) (lb:=0) (vs:=[]) (l:=[]) (n:=0) (c:=0) (h.le j) ha rfl (λh=>Å rfl h) (λh=>Å rfl h) (Ù _) (Ù _) (λi d k=>by simp at k) ω) ?_;rintro r V2 B C ⟨m,vm,q,s,u,rfl,a,D,e,v⟩;refine ⟨m,vm,s,λh=>(u h).imp id λw=>Å rfl w.1,none,_,_,_,rfl,λx y z A=>?_⟩;simp only [ō,ą] at e a ⊢;have:=NS.ofRow (V:=x) (b:=z) (c:=q) (vm:=vm) (l:=wr 0 t) (ty:=179) A (by rw [fw];exact a) (e.le λb o h=>y b o h);rw [fw] at this;refine ⟨⟨_,_,_,rfl,this⟩,λf=>?_⟩;rw [v f,f];rfl
theorem mL {V:ut}{p:OA}{t:Tr}(h:RW V p t)(ha:t.dV me)(hs:t.size<=1000000:=by omega):À 12 #[dS p] V λr V'=>AT V' r (rt 0 t) (wr 0 t):=(Bt h ha hs).s λ_ _ _ h=>h.1
def N7 (V:Ó):Ó:=⟨V.w,λb=>b<V.w.heap.size,λ_=>False,λ_ h=>h,λ_ h=>h.elim⟩
theorem Lw {f:FuncId}{args:Array un}{o:Obj}(h:À f args (N7 V) λr V'=>∃bk,r=dS (some ⟨bk,0,none⟩)/\V'.bg bk o):À f args V λr V'=>∃bk,r=dS (some ⟨bk,0,none⟩)/\V.w.heap.size<=bk/\V'.bg bk o:=
 ⟨h.1,h.2.s λ_ _ ⟨_,he,a,bk,d,c⟩=>⟨_,he,⟨a.size,λb c _=>a.bg b c (λh=>h),a.os,a.tape,a.out,a.dr⟩,bk,d,Nat.le_of_not_lt c.1,λe=>c.1 (V.hH bk e),c.2⟩⟩
theorem I_ {lp:OA}{ln lc:Nat}(hc:ln<=lc):À 5 #[zF lp ln lc] V λr V'=>∃bk,r=dS (some ⟨bk,0,none⟩)/\V.w.heap.size<=bk/\V'.bg bk (.cells #[zF lp (min ln 400) lc,Ô .i64 0] 77 (0,0)):=by refine Lw (It (N7 V) _ ?_);have e:cQ (ln:Int) 400=((min ln 400:Nat):Int):=by{unfold cQ;simp only [Nat.min_def];split<;>split<;>omega};rw [e,Ý];have:=Wj3 ln 400;exact ⟨⟨ω,ω⟩,λb c bk a=>⟨bk,rfl,a⟩⟩
theorem Ou {t:Tr}(h:t.dV me):t.dV λx=>bX x=true:=Tr.dV.imp (λ_ h=>h.1) h
theorem Cm {t:Tr}(h:t.dV me):t.dV Bd:=Tr.dV.imp (λ_ h=>h.2) h
theorem Si (l:L3):bJ (bJ l)=bJ l:=by unfold bJ;by_cases h:l.1<0\/l.1=0/\l.2.1<0;{rw [Ä h,Ã];unfold Õ;dsimp only;omega};{rw [Ã h,Ã h]}
theorem Ot (h:bX l=true):bX (bJ l)=true:=by unfold bJ;split;{unfold bX Õ cq at *;simp only [ş];rw [ċ,decide_eq_true_iff,decide_eq_true_iff] at h ⊢;exact ⟨λe=>h.1 ⟨ω,ω⟩,h.2⟩};{exact h}
end Go.Proofs.Tryz
namespace Go.Eng
def Ó.bare (V:Ó)(b:Nat):Ó:=⟨V.w,λx=>V.H x/\x≠b,λx=>V.X x/\x≠b,λx h=>V.hH x h.1,λx h=>⟨V.hX x h.1,h.2⟩⟩
def Ó.VF (V:ut)(b:Nat):V.Le (V.bare b):=λ_ _ h=>⟨λa=>h.1 a.1,h.2⟩
def aa.bare {P:Program}{f:FuncId}{args:Array un}{V:ut}{b:Nat}{R:un->ut->Prop}(hs:b<V.w.heap.size)(h:aa P f args (V.bare b) R):aa P f args V λr V'=>V'.w.heap[b]?=V.w.heap[b]?/\R r (V'.bare b):=by refine ⟨h.1,h.2.s λ_ g ⟨r,he,a,c⟩=>⟨r,he,⟨a.size,λx d e=>a.bg x d λh=>e h.1,a.os,a.tape,a.out,a.dr⟩,a.bg b hs (λh=>h.2 rfl),c⟩⟩
theorem Ó.jJ {V:ut}{b:Nat}{a:Addr}{v:un}(h:(V.bare b).at a v)(hb:a.block≠b):V.at a v:=⟨λc=>h.1 ⟨c,hb⟩,h.2⟩
def ID (V:Ó)(b:Nat):Prop:=∃(cs:Array Value)(ty:TypeId)(m:Nat×Nat),V.w.heap[b]?=some (.cells cs ty m)/\∀v∈cs,∀k z,v≠.int k z
theorem ID.ne {V:ut}{b:Nat}(h:ID V b){a:Addr}{k:IntKind}{z:Int}(ha:(V.bare b).at a (Ô k z)):a.block≠b:=by obtain ⟨cs,ty,m,d,g⟩:=h;intro e;have c:=ha.2;unfold World.cell? at c;rw [e] at c;have f:(V.bare b).w.heap[b]?=some (.cells cs ty m):=d;grind
end Go.Eng
namespace Go.Proofs.Tryz
variable{V:Ó}{b c cc cn n:Nat}{cp p:OA}{v:Value}{l m:L3}{ls:List L3}{s:Sp}
theorem RD.jJ (hn:ID V b){ds:pz Nat}(h:RD (V.bare b) p n c ds):RD V p n c ds:=by refine ⟨h.len,h.cap,λi v a=>?_,h.gx,h.JW⟩;have ⟨f,e,g⟩:=h.sl i v a;have:∃d:Int,v=Ô .u32 d:=by{unfold aM at a;grind};grind [Ó.jJ,hn.ne]
theorem RL.jJ (hn:ID V b){x y z:Int}(h:RL (V.bare b) v x y z):RL V v x y z:=by obtain ⟨_,_,_,_,_,_,_,_,_,e,a,c,d⟩:=h;exact qyJ ⟨e,RD.jJ hn a,RD.jJ hn c,RD.jJ hn d⟩
theorem E_ (a:Addr)(i:Nat):(a.add i).block=a.block:=by unfold Addr.add;split<;>rfl
theorem AT.jJ (hn:ID V b){root:Int}{l:pz Nd}(h:AT (V.bare b) v root l)(hk:∀x∈l,bX x.ln=true):AT V v root l:=by obtain ⟨q,n,c,rfl,f⟩:=h;refine ⟨q,n,c,rfl,f.len,f.cap,?_,f.JW⟩;obtain ⟨D,a,k⟩:=f.row;(cases l with|nil=>{exact ⟨[],λi v h=>by simp at h,λi d h=>by simp at h⟩}|cons d l=>{have E:∀g,q=some g->g.block≠b:=by{intro g e;obtain ⟨m,o,p,r,s,t,u,w,y,z,A,B,j,-⟩:=k 0 d rfl;have ⟨F,J,G⟩:=a _ _ (j 6 _ rfl);grind [hn.ne,E_]};refine ⟨D,λi v H=>?_,λi x C=>?_⟩;{have ⟨g,e,G⟩:=a i v H;grind [Ó.jJ,E_]};{have ⟨m,o,p,r,s,t,u,w,y,z,A,B,j,I⟩:=k i x C;exact ⟨m,o,p,r,s,t,u,w,y,z,A,B,j,.inl (RL.jJ hn (I.ok (hk x (Qb3 C))))⟩}})
theorem U4:∀{t:Tr} {k:Nat},t.dV me->∀x∈wr k t,bX x.ln=true
 | .leaf _,_,_,x,h=>by cases h
 | .node l a b,k,⟨h1,h2,h3⟩,x,h=>by
  rcases å.1 h with rfl|h
  ·exact h1.1
  ·rcases õ.1 h with h|h
   ·exact U4 h2 x h
   ·exact U4 h3 x h
theorem lf {V:ut}{rb:Nat}{i:md}{b1:md}{p1:OA}{n1 c1:Nat}{b2:md}{p2:OA}{n2 c2:Nat}{b3:md}{p3:OA}{n3 c3:Nat}{pl pr:OA}{ln:L3}{x y:Tr}(hw:V.w.heap[rb]?=some (.cells #[dB false,dB i,dB b1,zF p1 n1 c1,dB b2,zF p2 n2 c2,dB b3,zF p3 n3 c3,dS pl,dS pr] 60 (0,0)))(hl:RL V (hF #[dB b1,zF p1 n1 c1,dB b2,zF p2 n2 c2,dB b3,zF p3 n3 c3]) ln.1 ln.2.1 ln.2.2)(hx:RW V pl x)(hy:RW V pr y)(ha:(Tr.node ln x y).dV me)(hs:(Tr.node ln x y).size<=1000000):À 12 #[dS (some ⟨rb,0,none⟩)] V λr V'=>V'.w.heap[rb]?=some (.cells #[dB false,dB i,dB b1,zF p1 n1 c1,dB b2,zF p2 n2 c2,dB b3,zF p3 n3 c3,dS pl,dS pr] 60 (0,0))/\AT V' r (rt 0 (.node ln x y)) (wr 0 (.node ln x y)):=by have a:=(Qr0.1 hw).1;have b:=V.VF rb;refine (aa.bare a (mL (V:=V.bare rb) (p:=some ⟨rb,0,none⟩) (t:=.node ln x y) ⟨rb,i,b1,p1,n1,c1,b2,p2,n2,c2,b3,p3,n3,c3,pl,pr,rfl,⟨λh=>h.2 rfl,hw⟩,hl.le b,hx.le b,hy.le b⟩ ha hs)).s ?_;rintro r V' g ⟨c,d⟩;rw [hw] at c;refine ⟨c,AT.jJ ⟨_,_,_,c,?_⟩ d (U4 ha)⟩;intro v f k z e;subst e;simp at f
theorem rk {a b:Rat}:dO a b<0↔a<b:=by grind [iM.1,Ao.1,G3.1]
theorem AM:Sz 10 ((1:Int):Rat):=Gm (z:=1)
theorem sz_v (h:Bd l){k:Nat}{p:Rat×Rat}(s1:Sz k p.1)(s2:Sz k p.2):Sz (2*k+3010) (ar l p.1 p.2):=by have:=h.ja;exact (((this.1.mul s1).add (this.2.1.mul s2)).add this.2.2).s ω
theorem TT {p v:Rat×Rat}{i:Nat}(h:i<ls.length)(s:Rat):(ls.take (i+1)).foldl (aw.Hr p v) s=aw.Hr p v ((ls.take i).foldl (aw.Hr p v) s) ls[i]:=by grind [List.take_append_getElem]
theorem NY {a b:Rat}:dO a b>0↔b<a:=by constructor;{intro h;(rcases cY a b with ⟨g,e⟩|⟨g,e⟩|⟨g,e⟩<;>first|omega|exact g)};{intro h;have:=Ao.1 h;omega}
abbrev S16:=Bool×OA×Nat×Nat×OA×Nat×Nat×Bool×OA×Nat×Nat×OA×Nat×Nat×Bool×Bool
def agS (z:S16):Value:=.agg #[.bool z.1,.slice z.2.1 z.2.2.1 z.2.2.2.1,.slice z.2.2.2.2.1 z.2.2.2.2.2.1 z.2.2.2.2.2.2.1,.bool z.2.2.2.2.2.2.2.1,.slice z.2.2.2.2.2.2.2.2.1 z.2.2.2.2.2.2.2.2.2.1 z.2.2.2.2.2.2.2.2.2.2.1,.slice z.2.2.2.2.2.2.2.2.2.2.2.1 z.2.2.2.2.2.2.2.2.2.2.2.2.1 z.2.2.2.2.2.2.2.2.2.2.2.2.2.1,.bool z.2.2.2.2.2.2.2.2.2.2.2.2.2.2.1,.bool z.2.2.2.2.2.2.2.2.2.2.2.2.2.2.2]
theorem rsS {xb:md}{xp:OA}{xn xc:Nat}{xq:OA}{xm xe:Nat}{yb:md}{yp:OA}{yn yc:Nat}{yq:OA}{ym ye:Nat}{xa ya:md}(h:pU V (hF #[dB xb,zF xp xn xc,zF xq xm xe,dB yb,zF yp yn yc,zF yq ym ye,dB xa,dB ya]) s):xa=s.a/\ya=s.b/\RQ V (hF #[dB xb,zF xp xn xc,zF xq xm xe]) s.lo/\RQ V (hF #[dB yb,zF yp yn yc,zF yq ym ye]) s.hi:=by obtain ⟨_,_,_,_,_,_,_,_,_,_,_,_,_,_,e,c,d⟩:=h;have e:=Æ Array.toList (Value.agg.inj e);simp only [ĵ,Value.bool.injEq,Value.slice.injEq,Í] at e;obtain ⟨rfl,⟨rfl,rfl,rfl⟩,⟨rfl,rfl,rfl⟩,rfl,⟨rfl,rfl,rfl⟩,⟨rfl,rfl,rfl⟩,rfl,rfl⟩:=e;exact ⟨rfl,rfl,c,d⟩
theorem rsS' {xb:md}{xp:OA}{xn xc:Nat}{xq:OA}{xm xe:Nat}{yb:md}{yp:OA}{yn yc:Nat}{yq:OA}{ym ye:Nat}{xa ya:md}(ea:xa=s.a)(eb:ya=s.b)(h1:RQ V (hF #[dB xb,zF xp xn xc,zF xq xm xe]) s.lo)(h2:RQ V (hF #[dB yb,zF yp yn yc,zF yq ym ye]) s.hi):pU V (hF #[dB xb,zF xp xn xc,zF xq xm xe,dB yb,zF yp yn yc,zF yq ym ye,dB xa,dB ya]) s:=by subst ea eb;exact qyK ⟨rfl,h1,h2⟩
def qB (l m:L3)(s:Sp):Sp:=if 0<(Ú m l).num.sign then (if s.a=true\/s.lo<oU l m then ⟨oU l m,s.hi,false,s.b⟩ else s) else (if s.b=true\/oU l m<s.hi then ⟨s.lo,oU l m,s.a,false⟩ else s)
theorem FB (hc:ß l m≠0):uZ l m s=if (qB l m s).a=false/\(qB l m s).b=false/\(qB l m s).hi<=(qB l m s).lo then none else some (qB l m s):=by unfold uZ;rw [Ã hc];rfl
theorem PK (hc:ß l m=0):uZ l m s=if (ar m (cT l 0) (cW l 0)).num.sign<=0 then none else some s:=by unfold uZ;rw [Ä hc]
theorem OY (hl:Nz l)(bl:Bd l)(bm:Bd m)(hc:ß l m≠0):Sz 100000 (oU l m):=by rw [Cr hl hc];exact (pf bl.ja bm.ja).s ω
theorem mid_sz (hl:Nz l)(bl:Bd l)(bm:Bd m)(hc:ß l m≠0)(hs:s.sz 100000):(qB l m s).sz 100000:=by
 have:=OY hl bl bm hc;unfold qB;split<;>split<;>first|exact hs|exact ⟨this,hs.2⟩|exact ⟨hs.1,this⟩
theorem Sy {s w:Sp}(hl:Nz l)(bl:Bd l)(bm:Bd m)(sg:s.good)(hs:s.sz 100000)(e:uZ l m s=some w):w.good/\w.sz 100000:=by rw [BD hl sg] at e;split at e;{rename_i g;cases e;exact ⟨gR sg g,AL bl.ja bm.ja hs⟩};{cases e}
theorem OD {L:L3}(h:RL V v L.1 L.2.1 L.2.2)(hz:Nz L)(hb:Bd L):À 105 #[v] V λr V'=>RP V' r (cT L 0) (cW L 0):=by have sl:=hb.ja;refine (uK h (MP hz) sl.1 sl.2.1 sl.2.2).s λr V' _ g=>?_;have b:cT L 0=_:=rfl;unfold cT cW;unfold fR;have a:∀x y:Rat,x=y->∀z w:Rat,z=w->RP V' r x z->RP V' r y w:=by{rintro x _ rfl z _ rfl h;exact h};refine a _ _ ?_ _ _ ?_ g<;>grind
theorem HW {L:L3}(hb:Bd L):Sz 30000 (cT L 0)/\Sz 30000 (cW L 0):=by have sl:=hb.ja;exact ⟨Sz.s (M8 sl (CZ 1000)),Sz.s (M9 sl (CZ 1000))⟩
theorem uP {i:Nat}(h:bP 6 cO V cp cn ls)(hb:∀l∈ls,Bd l)(hk:∀l∈ls,bX l=true)(hl:ls.length<=1000)(hi:i<ls.length):À 173 #[zF cp cn cc,Ô .i64 i] V λr V'=>∃u s,r=tN #[u,dB (eX ls[i] ls à).isSome]/\pU V' u s/\s.sz 100000/\∀w,eX ls[i] ls à=some w->s=w:=by
 have hn:=h.len;subst hn;have ⟨is,b1,p1,n1,c1,b2,p2,n2,c2,b3,p3,n3,c3,a,a6,a0,a1,a2,a3,a4,a5,n⟩:=AD h hi;have t:=hb _ (ù hi);have ok:=hk _ (ù hi);generalize el:ls[i]=L at *;have sl:=t.ja;have nz:=jo ok;have hd:=CY t;refine E0 V _ ⟨is,⟨ω,ω⟩,b1,p1,n1,c1,b2,p2,n2,c2,b3,p3,n3,c3,a,(by rw [Ý];exact a6),a0,a1,a2,a3,a4,a5,λV1 l1=>uN.s ?_⟩;rintro r V2 l2 gf;obtain ⟨_,_,_,_,_,_,_,_,_,_,_,_,_,_,rfl⟩:=CF gf;refine ⟨_,_,_,_,_,_,_,_,_,_,_,_,_,_,_,_,rfl,λz V'=>∃(j:Nat)(s:Sp),z.1=(j:Int)/\j<=ls.length/\pU V' (agS z.2) s/\s.good/\s.sz 100000/\eX L ls à=eX L (ls.drop j) s,λz=>(ls.length-z.1).toNat,⟨(0,_,_,_,_,_,_,_,_,_,_,_,_,_,_,_,_),by and_intros<;>first|rfl|trivial,0,à,rfl,â _,gf,fo,Wr,by rw [Wy5]⟩,?_⟩;rintro ⟨z,I,J,N,O,P,Q,R,S,T,U,X,Y,Z,ye,xa,ya⟩ V3 l3 ⟨j,s,ez,hj,gs,sg,v,d⟩;dsimp only [agS] at ez gs ⊢;subst ez;obtain ⟨rfl,rfl,E,F⟩:=rsS gs;have B:=(l1.m l2).m l3;refine ⟨θ,λf=>?_,λf b5 xB=>?_⟩;rotate_left
 ·have e:j=ls.length:=by{have:=Â f;omega};subst e;rw [Wq4] at d;exact ⟨_,s,by rw [d];rfl,gs.le xB,v,λw e=>by rw [d] at e;exact ŏ e⟩
 have f:j<ls.length:=by have:=Á f;omega
 have w1:i64.wrap ((j:Int)+1)=((j+1:Nat):Int):=by rw [au ω];rfl
 rw [w1,Ý];have ⟨a7,B1,P1,N1,C1,B2,P2,N2,C2,B3,P3,N3,C3,A,a8,A0,A1,A2,A3,A4,A5,o⟩:=AD (h.le B λ_ _ g=>cO.le g B) f;have G:=hb _ (ù f);have sm:=G.ja;have Mk:=CY G;have ej:j=i->ls[j]=L:=λe=>by subst e;exact el
 rw [(Ħ f)] at d;generalize ls[j]=M at *;have a9:eX L (M::ls.drop (j+1)) s=if M=L then eX L (ls.drop (j+1)) s else match uZ L M s with|some s'=>eX L (ls.drop (j+1)) s'|none=>none:=rfl
 rw [a9] at d;have next:∀{W:ut} {I:md} {J:OA} {N O:Nat} {P:OA} {Q R:Nat} {S:md} {T:OA} {U X:Nat} {Y:OA} {Z ye:Nat} {xa ya:md} {s':Sp},pU W (hF #[dB I,zF J N O,zF P Q R,dB S,zF T U X,zF Y Z ye,dB xa,dB ya]) s'->s'.good->s'.sz 100000->eX L ls à=eX L (ls.drop (j+1)) s'->∃(j':Nat)(s:Sp),((j+1:Nat):Int)=(j':Int)/\j'<=ls.length/\pU W (hF #[dB I,zF J N O,zF P Q R,dB S,zF T U X,zF Y Z ye,dB xa,dB ya]) s/\s.good/\s.sz 100000/\eX L ls à=eX L (ls.drop j') s:=λg1 g2 g3 e=>⟨j+1,_,rfl,f,g1,g2,g3,e⟩;refine ⟨a7,⟨ω,ω⟩,B1,P1,N1,C1,B2,P2,N2,C2,B3,P3,N3,C3,A,a8,A0,A1,A2,A3,A4,A5,λz _=>z=decide (M=L),⟨λc=>⟨true,σ,?_⟩,λc V4 l4=>(mq (n.le (B.m l4)) (o.le l4) sl sm).s ?_⟩,?_⟩
 ·exact (Ç (ej (by have:=Á c;omega))).symm
 ·rintro r V5 l5 rfl;exact ⟨_,rfl,(jR L M==(0:Int)),σ,by rw [Jf];exact É.2 eq_comm⟩
 rintro z V6 l6 rfl;refine ⟨θ,λc=>?_,λc V7 l7=>(Um (n.le (B.m (l6.m l7))) (o.le (l6.m l7)) sl sm).s ?_⟩
 ·rw [Ä (Á c)] at d;exact ⟨(((j+1:Nat):Int),_,_,_,_,_,_,_,_,_,_,_,_,_,_,_,_),ω,σ,next (gs.le l6) sg v d⟩
 rw [Ã (Â c)] at d;rintro r V8 l8 ⟨u,rfl,q0,q1⟩;have ⟨s1,s2⟩:=OW sl sm;have Of:=l6.m (l7.m l8);by_cases p:ß L M=0
 ·have qz:=q0 p;unfold Rn at qz;subst qz;rw [PK p] at d;refine ⟨_,_,_,_,_,_,_,_,_,_,_,_,_,_,_,rfl,λ_ V9 l9=>(OD (n.le (B.m (Of.m l9))) nz t).s ?_,λh=>by simp [p] at h⟩;rintro r fW b0 gB;obtain ⟨_,_,_,_,_,_,_,_,_,_,_,_,rfl,-⟩:=id gB;have x:=Of.m (l9.m b0);refine qyK ⟨rfl,λfk bw=>(HF (o.le (x.m bw)) (gB.le bw) (sm.up (K:=30000) ω) (HW t).1 (HW t).2).s ?_⟩;rintro r iD bY rfl;have y:=x.m (bw.m bY);refine ⟨_,rfl,λc ku ct=>?_,λc=>?_⟩;{rw [Ä (Á c)] at d;exact ⟨_,s,by rw [d];rfl,gs.le (y.m ct),v,λw e=>by rw [d] at e;cases e⟩};{rw [Ã (Â c)] at d;exact ⟨(((j+1:Nat):Int),_,_,_,_,_,_,_,_,_,_,_,_,_,_,_,_),ω,σ,next (gs.le y) sg v d⟩}
 have hp:=q1 p;obtain ⟨_,_,_,_,_,_,_,_,_,_,_,_,rfl,-⟩:=id hp;refine ⟨_,_,_,_,_,_,_,_,_,_,_,_,_,_,_,rfl,λh=>by simp [p] at h,λ_ lV cJ=>(AH (n.le (B.m (Of.m cJ))) (hp.le cJ) nz (sl.up (K:=30000) ω) (s1.s ω) (s2.s ω)).s ?_⟩;rintro r mg cP gt;obtain ⟨_,_,_,_,_,_,rfl⟩:=gt.shape;have st:=OY nz t G p;have Mu:=Of.m (cJ.m cP);refine qyZ ⟨rfl,λlY cK=>(eO (o.le (Mu.m cK)) sm.1 sm.2.1 sm.2.2).s ?_⟩;rintro r mY cG gm;obtain ⟨_,_,_,_,_,_,_,_,_,_,_,_,rfl,-⟩:=id gm;have Mv:=Mu.m (cK.m cG);refine qyK ⟨rfl,λnX cD=>(eO (n.le (B.m (Mv.m cD))) sl.1 sl.2.1 sl.2.2).s ?_⟩;rintro r rU dy gl;obtain ⟨_,_,_,_,_,_,_,_,_,_,_,_,rfl,-⟩:=id gl;refine qyK ⟨rfl,λuD fy=>(jE (k:=1000) (gm.le (cD.m (dy.m fy))) (gl.le fy) Mk.1 Mk.2 hd.1 hd.2).s ?_⟩;rintro r ux iA gc
 have b4:RQ ux r (Ú M L):=by have e:=(Sn M L).symm;rw [e];exact gc
 obtain ⟨_,_,_,_,_,_,rfl⟩:=gc.shape;refine qyZ ⟨rfl,λuE iP=>(nr (b4.le iP)).s ?_⟩;rintro r wH hZ rfl;have D:=((Mv.m (cD.m dy)).m (fy.m iA)).m (iP.m hZ);have Oc:=(cK.m cG).m ((cD.m dy).m ((fy.m iA).m (iP.m hZ)));refine ⟨_,rfl,λz W=>pU W (agS z) (qB L M s),⟨λq=>?_,λq=>?_⟩,?_⟩
 ·have q:=Á q;refine ⟨λz _=>z=decide (s.a=true\/s.lo<oU L M),⟨λm=>⟨true,σ,?_⟩,λm Gv H=>(fB (gt.le (Oc.m H)) (E.le (D.m H)) st v.1).s ?_⟩,?_⟩;{exact (Ç (.inl m)).symm};{rintro r IF l_ rfl;refine ⟨_,rfl,decide (dO (oU L M) s.lo>(0:Int)),σ,?_⟩;rw [m];exact É.2 ⟨λh=>.inr (NY.1 h),λh=>h.elim κ NY.2⟩};rintro z O6 C rfl;refine ⟨θ,λc=>⟨(_,_,_,_,_,_,_,_,_,_,_,_,_,_,_,_),σ,?_⟩,λc=>⟨(_,_,_,_,_,_,_,_,_,_,_,_,_,_,_,_),σ,?_⟩⟩;{have e:qB L M s=⟨oU L M,s.hi,false,s.b⟩:=by{unfold qB;rw [Ä q,Ä (Á c)]};rw [e];exact rsS' rfl rfl (gt.le (Oc.m C)) (F.le (D.m C))};{have e:qB L M s=s:=by{unfold qB;rw [Ä q,Ã (Â c)]};rw [e];exact gs.le (D.m C)}
 ·have q:=Â q;refine ⟨λz _=>z=decide (s.b=true\/oU L M<s.hi),⟨λm=>⟨true,σ,?_⟩,λm Gv H=>(fB (gt.le (Oc.m H)) (F.le (D.m H)) st v.2).s ?_⟩,?_⟩;{exact (Ç (.inl m)).symm};{rintro r IF l_ rfl;refine ⟨_,rfl,decide (dO (oU L M) s.hi<(0:Int)),σ,?_⟩;rw [m];exact É.2 ⟨λh=>.inr (rk.1 h),λh=>h.elim κ rk.2⟩};rintro z O6 C rfl;refine ⟨θ,λc=>⟨(_,_,_,_,_,_,_,_,_,_,_,_,_,_,_,_),σ,?_⟩,λc=>⟨(_,_,_,_,_,_,_,_,_,_,_,_,_,_,_,_),σ,?_⟩⟩;{have e:qB L M s=⟨s.lo,oU L M,s.a,false⟩:=by{unfold qB;rw [Ã q,Ä (Á c)]};rw [e];exact rsS' rfl rfl (E.le (D.m C)) (gt.le (Oc.m C))};{have e:qB L M s=s:=by{unfold qB;rw [Ã q,Ã (Â c)]};rw [e];exact gs.le (D.m C)}
 rw [FB p] at d;have kk:=λw=>Sy (w:=w) nz t G sg v;rw [FB p] at kk;have sz:=mid_sz nz t G p v;generalize qB L M s=s' at *;clear gs E F;rintro ⟨I,J,N,O,P,Q,R,S,T,U,X,Y,Z,ye,xa,ya⟩ Rc xy gs;dsimp only [agS] at gs ⊢;obtain ⟨rfl,rfl,E,F⟩:=rsS gs;refine ⟨θ,λz _=>z=decide (s'.a=false/\s'.b=false/\s'.hi<=s'.lo),⟨λm=>⟨λhb b6 DT=>(fB (E.le DT) (F.le DT) sz.1 sz.2).s ?_,λhb=>⟨false,σ,?_⟩⟩,λm=>⟨false,σ,?_⟩⟩,?_⟩
 ·rintro r Zf zG rfl;rw [Ĥ] at m hb;refine ⟨_,rfl,decide (dO s'.lo s'.hi≥(0:Int)),σ,É.2 ⟨λh=>⟨m,hb,?_⟩,λh=>?_⟩⟩;{refine Rat.not_lt.1 λg=>?_;have:=rk.2 g;omega};{refine Ww1.1 λg=>?_;have:=rk.1 g;have:=h.2.2;grind}
 ·rw [ł] at hb;exact (È λh=>by rw [hb] at h;cases h.2.1).symm
 ·rw [ł] at m;exact (È λh=>by rw [m] at h;cases h.1).symm
 rintro z Vc xA rfl;refine ⟨θ,λc b7 Az=>?_,λc=>?_⟩
 ·rw [Ä (Á c)] at d;exact ⟨_,s',by rw [d];rfl,gs.le (xA.m Az),sz,λw e=>by rw [d] at e;cases e⟩
 ·rw [Ã (Â c)] at d kk;have ⟨k1,k2⟩:=kk _ rfl;exact ⟨(((j+1:Nat):Int),_,_,_,_,_,_,_,_,_,_,_,_,_,_,_,_),ω,σ,next (gs.le xA) k1 k2 d⟩
theorem N9 (x:L3):∀(O:pz L3)(j:Nat),j<=O.length->(∀(i':Nat)(h:i'<O.length),i'<j->aw.kQ (aw.aR O[i']) (aw.aR x)<0)->(∀h:j<O.length,¬aw.kQ (aw.aR O[j]) (aw.aR x)<0) ->nF x O=if ∃h:j<O.length,O[j]=x then O else O.take j++x::O.drop j
 | [],j,hj,_,_=>by
  rw [Ã (λ⟨h,_⟩=>Å h (Ŝ _))];simp [nF]
 | u::r,0,_,_,hge=>by
  have h0:¬aw.kQ (aw.aR u) (aw.aR x)<0:=hge (Wq6 _);unfold nF;rw [Ã h0];by_cases e:u=x
  ·rw [Ä e,Ä ⟨Wq6 _,e⟩]
  ·rw [Ã e,Ã (λ⟨_,h⟩=>e h)];rfl
 | u::r,j+1,hj,hlt,hge=>by
  have h0:aw.kQ (aw.aR u) (aw.aR x)<0:=hlt 0 (Wq6 _) (Wq6 _);unfold nF;rw [Ä h0,N9 x r j (by simpa using hj) (λi' h a=>hlt (i'+1) (by simpa using h) ω) (λh=>hge (by simpa using h))];by_cases c:∃h:j<r.length,r[j]=x
  ·obtain ⟨h,e⟩:=c;rw [Ä ⟨h,e⟩,Ä ⟨by simpa using h,e⟩]
  ·rw [Ã c,Ã (λ⟨h,e⟩=>c ⟨by simpa using h,e⟩)];rfl
theorem D_ (h:bP 6 cO V p n ls)(hb:∀l∈ls,Bd l)(hk:∀l∈ls,bX l=true)(hl:ls.length<=1000):À 126 #[zF p n c] V λr V'=>∃q m e,r=tN #[zF q m e,dB (decide (ls=[]\/ma ls ls []≠[]))]/\bP 6 cO V' q m (ma ls ls []):=by
 obtain rfl:=h.len
 refine DB V _ ⟨λz V'=>∃(i:Nat)(O:pz L3),z.2.2.2=(i:Int)/\i<=ls.length/\O.length<=i/\(∀q∈O,q∈ls)/\ma ls ls []=ma ls (ls.drop i) O/\GR 6 cO V' z.1 z.2.1 z.2.2.1 O,λz=>ls.length-z.2.2.2.toNat,
  ⟨(0,0,[],0),σ,0,[],rfl,â _,â _,(λq H=>by cases H),by rw [Wy5],GR.nil⟩,?_⟩
 rintro ⟨U,M,us,z4⟩ V1 N ⟨i,O,e4,Vn,a7,P,t,G⟩;dsimp only at e4 G;subst e4;have Q:=G.len;have B:=G.le;have W:=G.cap;have C:=G.row;refine ⟨rfl,λd=>?_,λd=>?_⟩;rotate_left
 ·have d:¬(i:Int)<ls.length:=Â d;obtain rfl:i=ls.length:=ω;rw [Wq4] at t;have t:ma ls ls []=O:=t;rw [t];subst Q;refine ⟨λD lY X bk hb=>?_,λD lY X bk hb=>?_⟩;{have D:((ls.length:Nat):Int)=0:=by{simpa using D};refine ⟨_,_,M,?_,bP.bM hb (C.le λ_ _ g=>cO.le g X) φ B⟩;rw [Ç (.inl (ĕ.1 ω))]};{have D:¬((ls.length:Nat):Int)=0:=by{simpa using D};refine ⟨_,_,M,?_,bP.bM hb (C.le λ_ _ g=>cO.le g X) φ B⟩;congr 5;refine É.2 ⟨λh=>.inr λe=>by rw [e] at h;simp at h,λh=>?_⟩;rcases h with h|h;{rw [h] at D;exact Å rfl D};{have:=Qh7.2 h;omega}}
 have d:(i:Int)<ls.length:=Á d;have y:i<ls.length:=ω
 have w:i64.wrap ((i:Int)+1)=((i+1:Nat):Int):=by rw [au ω];rfl
 dsimp only;rw [Ý,w];obtain ⟨ad,ha,xs,-,hf,k⟩:=(h.le N λ_ _ g=>cO.le g N).at_ i y;obtain ⟨eb,ep,en,ec,fb,fp,fn,fe,gb,gp,gn,gc,ex⟩:=bW hf;have ex:=Æ Array.toList (Value.agg.inj ex);dsimp only at ex;subst ex;have Y:ma ls (ls[i]::ls.drop (i+1)) O=ma ls (ls.drop (i+1)) (if (eX ls[i] ls à).isSome=true then nF ls[i] O else O):=rfl;rw [(Ħ y),Y] at t;have E:=hb _ (ù y);have Z:=ù y;have Yw:∀q∈O,Bd q:=λq H=>hb q (P q H);clear G;refine ⟨aQ ha,⟨ω,ω⟩,eb,ep,en,ec,fb,fp,fn,fe,gb,gp,gn,gc,ad,ha,k 0 _ rfl,k 1 _ rfl,k 2 _ rfl,k 3 _ rfl,k 4 _ rfl,k 5 _ rfl,λV2 R=>(uP (h.le (N.m R) λ_ _ g=>cO.le g (N.m R)) hb hk hl y).s ?_⟩;generalize ls[i]=x at *;rintro r V3 l3 ⟨u,s,rfl,gs,-,-⟩;obtain ⟨_,_,_,_,_,_,_,_,_,_,_,_,_,_,rfl⟩:=CF gs;refine ⟨_,_,_,_,_,_,_,_,_,_,_,_,_,_,_,_,_,rfl,λo=>?_,λo=>?_⟩
 ·rw [Ĥ] at o;rw [o,Ã φ] at t;exact ⟨(U,M,us,((i+1:Nat):Int)),by dsimp only;omega,σ,i+1,O,rfl,y,ω,P,t,Q,B,W,C.le λ_ _ g=>cO.le g (R.m l3)⟩
 rw [ł] at o;rw [o,Ä rfl] at t;have F:=hf;refine ⟨λz _=>∃j:Nat,z=(j:Int)/\j<=O.length/\∀(A:Nat)(h:A<O.length),A<j->aw.kQ (aw.aR O[A]) (aw.aR x)<0,λz=>O.length-z.toNat,⟨0,σ,0,rfl,â _,λA _ h=>Å h (Ŝ A)⟩,?_⟩;rintro z V4 l4 ⟨j,rfl,yF,jl⟩;have wj:i64.wrap ((j:Int)+1)=((j+1:Nat):Int):=by rw [au ω];rfl
 rw [Ý,wj];have cJ:=R.m (l3.m l4);have sx:=E.ja;have dx:=CY E;refine ⟨rfl,λz _=>z=true↔∃h:j<O.length,aw.kQ (aw.aR O[j]) (aw.aR x)<0,⟨λd=>?_,λd=>⟨false,σ,?_⟩⟩,?_⟩
 ·have d:=Á d;have v:j<O.length:=ω;have I:=Yw _ (ù v);have sj:=I.ja;have dj:=CY I;have ⟨b1,p1,n1,c1,b2,p2,n2,c2,b3,p3,n3,c3,gC,Md,hr⟩:=HM C v;refine ⟨⟨ω,ω⟩,B,b1,p1,n1,c1,b2,p2,n2,c2,b3,p3,n3,c3,⟨gC,Md⟩,λV5 l5=>(eO (hr.le (cJ.m l5)) sj.1 sj.2.1 sj.2.2).s ?_⟩;rintro r V6 l6 gd;have a0:=gd;obtain ⟨_,_,_,_,_,_,_,_,_,_,_,_,rfl,-⟩:=gd;refine qyK ⟨rfl,λV7 S=>(eO (RL.le F (cJ.m (l5.m (l6.m S)))) sx.1 sx.2.1 sx.2.2).s ?_⟩;rintro r V8 T ge;have a1:=ge;obtain ⟨_,_,_,_,_,_,_,_,_,_,_,_,rfl,-⟩:=ge;refine qyK ⟨rfl,λV9 l9=>(D3 (a:=aw.aR O[j]) (b:=aw.aR x) (a0.le (S.m (T.m l9))) (a1.le l9) dj.1 dj.2 dx.1 dx.2).s ?_⟩;rintro r fW K rfl;exact ⟨_,rfl,decide (aw.kQ (aw.aR O[j]) (aw.aR x)<0),σ,by dsimp only;rw [Ñ];exact ⟨λh=>⟨v,h⟩,λ⟨_,h⟩=>h⟩⟩
 ·have d:=Â d;exact ⟨κ,λ⟨h,_⟩=>Å h ω⟩
 rintro z V7 S S5;refine ⟨rfl,λo=>?_,λo=>?_⟩
 ·have ⟨v,a2⟩:=S5.1 o;refine ⟨((j+1:Nat):Int),by dsimp only;omega,σ,j+1,rfl,v,λA h a8=>?_⟩;by_cases e:A=j;{subst e;exact a2};{exact jl A h ω}
 have a3:∀h:j<O.length,¬aw.kQ (aw.aR O[j]) (aw.aR x)<0:=λh h'=>by have:=S5.2 ⟨h,h'⟩;rw [o] at this;cases this
 have f:=N9 x O j yF jl a3;have a4:∀q∈nF x O,q∈ls:=λq H=>(nG.1 H).elim (λe=>e▸Z) (P q);have cG:=cJ.m S;refine ⟨λz _=>z=true↔∃h:j<O.length,O[j]=x,⟨λd=>?_,λd=>⟨false,σ,?_⟩⟩,?_⟩
 ·have d:=Á d;have v:j<O.length:=ω;have ⟨b1,p1,n1,c1,b2,p2,n2,c2,b3,p3,n3,c3,gC,Md,hr⟩:=HM C v;refine ⟨⟨ω,ω⟩,B,b1,p1,n1,c1,b2,p2,n2,c2,b3,p3,n3,c3,⟨gC,Md⟩,λV8 T=>(mq (hr.le (cG.m T)) (RL.le F (cG.m T)) (Yw _ (ù v)).ja E.ja).s ?_⟩;rintro r V9 l9 rfl;exact ⟨_,rfl,(jR O[j] x==(0:Int)),σ,by dsimp only;rw [Jf,Ñ];exact ⟨λh=>⟨v,h⟩,λ⟨_,h⟩=>h⟩⟩
 ·have d:=Â d;exact ⟨κ,λ⟨h,_⟩=>Å h ω⟩
 rintro z fW K BR;have Qf:=cG.m K;refine ⟨rfl,λo=>?_,λo fk bw bk hb J=>?_⟩
 ·have hex:=BR.1 o;rw [Ä hex] at f;rw [f] at t;exact ⟨(U,M,us,((i+1:Nat):Int)),by dsimp only;omega,σ,i+1,O,rfl,y,ω,P,t,Q,B,W,C.le λ_ _ g=>cO.le g Qf⟩
 ·have a5:¬∃h:j<O.length,O[j]=x:=λh=>by{have:=BR.2 h;rw [o] at this;cases this};rw [Ã a5] at f;have ⟨xs,ys,x1,x2,x3,y1,y2,y3,r1,r2,r3,r4,r5⟩:=Ax (V:=fk) (GR.s ⟨Q,B,W,C⟩ λ_ _ g=>cO.le g (Qf.m bw)) φ (λ_ _=>HL) hb (es:=[_,_,_,_,_,_]) rfl (cO.le F (Qf.m bw)) (j:=j);refine ⟨⟨ω,ω⟩,⟨ω,ω⟩,⟨ω,ω⟩,xs,x1,x2,ω,Ù _,Ù 6,x2,x3,λa9 J2 sp c' h1 h2=>?_⟩;rw [r1,r2];(refine ⟨ys,y1,y2,Ù _,y3,ω,ω,r3,r4,λa6 L h3 h4=>⟨(j+(1+(U-j)),L,_,((i+1:Nat):Int)),by dsimp only;omega,by and_intros<;>first|rfl|omega,i+1,nF x O,rfl,y,?_,a4,t,?_⟩⟩);{rw [f,í,é,Ą,Ĵ];omega};{show GR 6 cO _ _ _ _ (nF x O);rw [f];exact r5 a6 L h3 h4}
theorem D6 {lp:OA}{ln lc:Nat}{pv vv:un}{p v:Rat×Rat}(h:bP 6 cO V lp ln ls)(hb:∀l∈ls,Bd l)(hl:ls.length<=1000)(hp:RP V pv p.1 p.2)(hv:RP V vv v.1 v.2)(s1:Sz 60000000 p.1)(s2:Sz 60000000 p.2)(s3:Sz 6000 v.1)(s4:Sz 6000 v.2):À 174 #[zF lp ln lc,pv,vv] V λr V'=>RP V' r (p.1+ls.foldl (aw.Hr p v) 1*v.1) (p.2+ls.foldl (aw.Hr p v) 1*v.2)/\Sz 500000000 (p.1+ls.foldl (aw.Hr p v) 1*v.1)/\Sz 500000000 (p.2+ls.foldl (aw.Hr p v) 1*v.2):=by have hn:=h.len;subst hn;have d:=hp;have D:=hv;obtain ⟨_,_,_,_,_,_,_,_,_,_,_,_,rfl,-⟩:=hp;obtain ⟨_,_,_,_,_,_,_,_,_,_,_,_,rfl,-⟩:=hv;refine EO V _ λV1 l1=>(dW 1 ω).s ?_;rintro r V2 l2 g;have g0:=g;obtain ⟨_,_,_,_,_,_,rfl⟩:=g.shape;(refine qyZ ⟨rfl,λz V'=>∃i:Nat,z.1=(i:Int)/\i<=ls.length/\RQ V' (hF #[dB z.2.1,zF z.2.2.1 z.2.2.2.1 z.2.2.2.2.1,zF z.2.2.2.2.2.1 z.2.2.2.2.2.2.1 z.2.2.2.2.2.2.2]) ((ls.take i).foldl (aw.Hr p v) 1)/\Sz 400000000 ((ls.take i).foldl (aw.Hr p v) 1),λz=>(ls.length-z.1).toNat,⟨(0,_,_,_,_,_,_,_),by and_intros<;>first|rfl|trivial,0,rfl,â _,g0,AM.s ω⟩,?_⟩;rintro ⟨z,zb,zp,zn,E,zq,zm,ze⟩ V3 l3 ⟨i,e,hi,gs,j⟩;dsimp only at e gs ⊢;subst e;have m:=(l1.m l2).m l3;refine ⟨θ,λc=>?_,λc Zf P=>?_⟩);{have c:i<ls.length:=by{have:=Á c;omega};have w1:i64.wrap ((i:Int)+1)=((i+1:Nat):Int):=by{rw [au ω];rfl};rw [w1,Ý];obtain ⟨is,b1,p1,n1,c1,b2,p2,n2,c2,b3,p3,n3,c3,a,Q,a0,a1,a2,a3,a4,a5,n⟩:=AD (h.le m λ_ _ g=>cO.le g m) c;have R:=hb _ (ù c);have sl:=R.ja;have et:=TT (p:=p) (v:=v) c 1;generalize ls[i]=A at *;generalize (ls.take i).foldl (aw.Hr p v) 1=s at *;have next:∀{W:ut} {b:md} {q1 q2:OA} {m1 d1 m2 d2:Nat} {s':Rat},RQ W (hF #[dB b,zF q1 m1 d1,zF q2 m2 d2]) s'->Sz 400000000 s'->aw.Hr p v s A=s'->∃i':Nat,((i+1:Nat):Int)=(i':Int)/\i'<=ls.length/\RQ W (hF #[dB b,zF q1 m1 d1,zF q2 m2 d2]) ((ls.take i').foldl (aw.Hr p v) 1)/\Sz 400000000 ((ls.take i').foldl (aw.Hr p v) 1):=λo f e=>⟨i+1,rfl,c,by rw [et,e];exact o,by rw [et,e];exact f⟩;have t1:Sz 70000000 (p.1+((1:Int):Rat)*v.1):=(s1.add (AM.mul s3)).s ω;have t2:Sz 70000000 (p.2+((1:Int):Rat)*v.2):=(s2.add (AM.mul s4)).s ω;refine ⟨is,⟨ω,ω⟩,b1,p1,n1,c1,b2,p2,n2,c2,b3,p3,n3,c3,a,Q,a0,a1,a2,a3,a4,a5,λV4 l4=>(dW 1 ω).s ?_⟩;rintro r V5 l5 g;obtain ⟨_,_,_,_,_,_,rfl⟩:=g.shape;have S:=l4.m l5;refine qyZ ⟨rfl,λV6 H=>(fL (d.le (m.m (S.m H))) (g.le H) (D.le (m.m (S.m H))) s1 s2 (AM.s ω) s3 s4).s ?_⟩;rintro r V7 l7 F;have w:=F;obtain ⟨_,_,_,_,_,_,_,_,_,_,_,_,rfl,-⟩:=F;have Qh:=S.m (H.m l7);refine qyK ⟨rfl,λV8 T=>(jF (k:=70000000) (n.le (Qh.m T)) (w.le T) (sl.1.s ω) (sl.2.1.s ω) (sl.2.2.s ω) t1 t2).s ?_⟩;rintro r V9 l9 gA;have U:RQ V9 r (ar A (p.1+((1:Int):Rat)*v.1) (p.2+((1:Int):Rat)*v.2)):=gA;obtain ⟨_,_,_,_,_,_,rfl⟩:=gA.shape;have X:=Qh.m (T.m l9);refine qyZ ⟨rfl,λfW q=>(jF (k:=70000000) (n.le (X.m q)) (d.le (m.m (X.m q))) (sl.1.s ω) (sl.2.1.s ω) (sl.2.2.s ω) (s1.s ω) (s2.s ω)).s ?_⟩;rintro r fk bw gB;have Y:RQ fk r (ar A p.1 p.2):=gB;obtain ⟨_,_,_,_,_,_,rfl⟩:=gB.shape;have zA:=sz_v R (p:=((p.1+((1:Int):Rat)*v.1),(p.2+((1:Int):Rat)*v.2))) t1 t2;have I:=sz_v R s1 s2;refine qyZ ⟨rfl,λiD Z=>(ir (U.le (q.m (bw.m Z))) (Y.le Z) zA I).s ?_⟩;rintro r ku ct gc;have ec:ar A (p.1+((1:Int):Rat)*v.1) (p.2+((1:Int):Rat)*v.2)-ar A p.1 p.2=aw.nv A v:=by{have:=aw.jN A p v 1;have e1:((1:Int):Rat)=1:=rfl;rw [e1,this];grind};have E:=zA.sub I;dsimp only at E;rw [ec] at gc E;have G:=gc;obtain ⟨_,_,_,_,_,_,rfl⟩:=gc.shape;refine qyZ ⟨rfl,λlV cJ=>(nr (G.le cJ)).s ?_⟩;rintro r mg cP rfl;have J:=((X.m (q.m bw)).m (Z.m ct)).m (cJ.m cP);(refine ⟨_,rfl,λB=>⟨(((i+1:Nat):Int),_,_,_,_,_,_,_),ω,by and_intros<;>first|rfl|trivial,next (gs.le J) j ?_⟩,λB lY K=>(HF (x:=p.1) (y:=p.2) (n.le (J.m K)) (d.le (m.m (J.m K))) ⟨sl.1.s (ā ω (Ù 60000000)),sl.2.1.s ω,sl.2.2.s ω⟩ s1 s2).s ?_⟩);{unfold aw.Hr;rw [Ä (.inl (aw.iT.1 (Ë.1 B)))]};have B:aw.nv A v≠0:=λe=>by{rw [aw.iT.2 e] at B;cases B};rintro r mY cG rfl;have L:=J.m (K.m cG);(refine ⟨_,rfl,λv0=>⟨(((i+1:Nat):Int),_,_,_,_,_,_,_),ω,by and_intros<;>first|rfl|trivial,next (gs.le L) j ?_⟩,λv0 nX M=>(jF (k:=70000000) (n.le (L.m M)) (d.le (m.m (L.m M))) (sl.1.s ω) (sl.2.1.s ω) (sl.2.2.s ω) (s1.s ω) (s2.s ω)).s ?_⟩);{unfold aw.Hr;rw [Ä (.inr (aw.iT.1 (Ë.1 v0)))]};have v0:ar A p.1 p.2≠0:=λe=>by{rw [aw.iT.2 e] at v0;cases v0};have ns:¬(aw.nv A v=0\/ar A p.1 p.2=0):=λh=>h.elim B v0;rintro r rU dy gD;have a6:RQ rU r (ar A p.1 p.2):=gD;obtain ⟨_,_,_,_,_,_,rfl⟩:=gD.shape;refine qyZ ⟨rfl,λuD fy=>(ji (a6.le fy) (G.le (cJ.m (cP.m (K.m (cG.m (M.m (dy.m fy))))))) (λe=>B (Ŏ.1 e)) I E).s ?_⟩;rintro r ux iA gt;obtain ⟨_,_,_,_,_,_,rfl⟩:=gt.shape;have zt:=(I.mul (fA E)).neg;refine qyZ ⟨rfl,λuE iP=>(LS (gt.le iP)).s ?_⟩;rintro r wH hZ go;have C:=go;obtain ⟨_,_,_,_,_,_,rfl⟩:=go.shape;refine qyZ ⟨rfl,λGv N=>(nr (C.le N)).s ?_⟩;rintro r IF l_ rfl;have t:=(L.m (M.m (dy.m (fy.m (iA.m (iP.m hZ)))))).m (N.m l_);have eh:-(ar A p.1 p.2*(aw.nv A v)⁻¹)*((2:Int):Rat)⁻¹=-(ar A p.1 p.2*(aw.nv A v)⁻¹)*(1/2):=by{rw [show (((2:Int):Rat))⁻¹=1/2 by decide +kernel]};have zh:Sz 400000000 (-(ar A p.1 p.2*(aw.nv A v)⁻¹)*((2:Int):Rat)⁻¹):=(zt.mul (fA (Gm (z:=2)))).s ω;(refine ⟨_,rfl,λo O6 pG=>(tF (C.le (N.m (l_.m pG))) zt).s ?_,λo=>⟨(((i+1:Nat):Int),_,_,_,_,_,_,_),ω,by and_intros<;>first|rfl|trivial,next (gs.le t) j ?_⟩⟩);{have o:=aw.sU.1 (Á o);rintro r Yb pS gh;obtain ⟨_,_,_,_,_,_,rfl⟩:=gh.shape;have u:=t.m (pG.m pS);refine qyZ ⟨rfl,λVz O=>(fB (gh.le O) (gs.le (u.m O)) zh j).s ?_⟩;rintro r Yc xw rfl;(refine ⟨_,rfl,λf Rc xy=>(tF (C.le (N.m (l_.m (pG.m (pS.m (O.m (xw.m xy))))))) zt).s ?_,λf=>⟨(((i+1:Nat):Int),_,_,_,_,_,_,_),ω,by and_intros<;>first|rfl|trivial,next (gs.le (u.m (O.m xw))) j ?_⟩⟩);{have f:=rk.1 (Á f);rintro r a7 DT gk;obtain ⟨_,_,_,_,_,_,rfl⟩:=gk.shape;(refine qyZ ⟨rfl,(((i+1:Nat):Int),_,_,_,_,_,_,_),ω,by and_intros<;>first|rfl|trivial,next gk zh ?_⟩;rw [eh] at f ⊢;unfold aw.Hr;rw [Ã ns,Ä ⟨o,f⟩])};{have f:¬_:=λh=>Â f (rk.2 h);rw [eh] at f;unfold aw.Hr;rw [Ã ns,Ã λh=>f h.2]}};{have o:¬_:=λh=>Â o (aw.sU.2 h);unfold aw.Hr;rw [Ã ns,Ã λh=>o h.1]}};{have c:i=ls.length:=by{have:=Â c;omega};subst c;rw [ě] at gs j;generalize ls.foldl (aw.Hr p v) 1=s at *;refine (fL (d.le (m.m P)) (gs.le P) (D.le (m.m P)) s1 s2 j (s3.s ω) (s4.s ω)).s ?_;rintro r Vc xA F;have w:=F;obtain ⟨_,_,_,_,_,_,_,_,_,_,_,_,rfl,-⟩:=F;exact qyK ⟨rfl,λa8 Az=>⟨w.le Az,(s1.add (j.mul s3)).s ω,(s2.add (j.mul s4)).s ω⟩⟩}
theorem vI {vs:pz un}(h:ç 6 cO V vs ls)(hl:vs.length=ls.length*6):∀v∈vs,v.oneCell'=true:=by intro v a;have ⟨m,hm,e⟩:=Qm2.1 a;exact kK h φ (λ_ _=>HL) (m:=m) ω (by rw [<-e];exact ô hm)
def BS (ls:List L3):Bool:=decide (ls=[]\/∃l∈ls,(eX l ls à).isSome=true)
theorem S6 (hk:∀m∈ls,bX m=true):BS ls=true↔∃q,aw.pos ls q:=by unfold BS;rw [Ñ,<-P8 hk];refine or_congr Wv0 ⟨λ⟨l,a,b⟩=>⟨l,a,(As (jo (hk l a))).1 b⟩,λ⟨l,a,b⟩=>⟨l,a,(As (jo (hk l a))).2 b⟩⟩
theorem OM (V:ut):RP V (hF #[dB false,zF none 0 0,zF none 0 0,dB false,zF none 0 0,zF none 0 0]) 0 0:=qxW ⟨rfl,rq0 _,rq0 _⟩
theorem sG (h:bP 6 cO V cp cn ls)(hb:∀l∈ls,Bd l)(hk:∀l∈ls,bX l=true)(hl:ls.length<=1000:=by omega):À 125 #[zF cp cn cc] V λr V'=>∃u p,r=tN #[u,dB (BS ls)]/\RP V' u (Prod.fst p) (Prod.snd p)/\Sz 500000000 (Prod.fst p)/\Sz 500000000 (Prod.snd p):=by have Y:=h.len;subst Y;refine DC V _ ⟨λc Z l1=>?_,λc=>⟨λz _=>∃i:Nat,z=(i:Int)/\i<=ls.length/\∀(k:Nat)(g:k<ls.length),k<i->(eX ls[k] ls à).isSome=false,λz=>(ls.length-z).toNat,⟨0,σ,0,rfl,â _,λk _ g=>Å g (Ŝ k)⟩,?_⟩⟩;{have e:ls=[]:=ĕ.1 (by have:=Á c;omega);refine ⟨_,(0,0),?_,OM Z,CZ _,CZ _⟩;rw [show BS ls=true from Ç (.inl e)]};have c:ls.length≠0:=λe=>by{rw [e] at c;cases c};rintro z V2 q ⟨i,rfl,hi,I⟩;refine ⟨θ,λb=>?_,λb lY cK=>?_⟩;rotate_left;{have e:i=ls.length:=by{have:=Â b;omega};subst e;refine ⟨_,(0,0),?_,OM lY,CZ _,CZ _⟩;rw [show BS ls=false from È ?_];rintro (g|⟨l,g1,J⟩);{rw [g] at c;exact c rfl};{obtain ⟨k,M,rfl⟩:=Qm2.1 g1;rw [I k M M] at J;cases J}};have b:i<ls.length:=by{have:=Á b;omega};have w1:i64.wrap ((i:Int)+1)=((i+1:Nat):Int):=by{rw [au ω];rfl};rw [w1,Ý];have t:∀{W:ut},V.Le W->bP 6 cO W cp ls.length ls:=λg=>h.le g λ_ _ k=>cO.le k g;have ⟨is,b1,p1,n1,c1,b2,p2,n2,c2,b3,p3,n3,c3,a,w,a0,a1,a2,a3,a4,a5,f⟩:=AD (t q) b;have N:=hb _ (ù b);have hm:=ù b;have sl:=N.ja;have nz:=jo (hk _ (ù b));have x:=CY N;have y:(eX ls[i] ls à).isSome=false->∀(k:Nat)(g:k<ls.length),k<i+1->(eX ls[k] ls à).isSome=false:=λe k g a6=>by{by_cases e':k=i;{subst e';exact e};{exact I k g ω}};refine ⟨is,⟨ω,ω⟩,b1,p1,n1,c1,b2,p2,n2,c2,b3,p3,n3,c3,a,w,a0,a1,a2,a3,a4,a5,λV3 O=>(uP (t (q.m O)) hb hk hl b).s ?_⟩;generalize ls[i]=L at *;rintro r V4 l4 ⟨u,s,rfl,gs,P,-⟩;obtain ⟨_,_,_,_,_,_,_,_,_,_,_,_,_,_,rfl⟩:=CF gs;have Q:=O.m l4;refine ⟨_,_,_,_,_,_,_,_,_,_,_,_,_,_,_,_,_,rfl,λA V5 B=>(eO (f.le (Q.m B)) sl.1 sl.2.1 sl.2.2).s ?_,λA=>⟨((i+1:Nat):Int),by dsimp only;omega,σ,i+1,rfl,b,y A⟩⟩;rintro r V6 R gd;obtain ⟨_,_,_,_,_,_,_,_,_,_,_,_,rfl,DS,C⟩:=id gd;refine qyK ⟨rfl,λV7 m=>(Bq (gs.le (B.m (R.m m))) P).s ?_⟩;rintro r V8 D S;obtain ⟨_,_,_,_,_,_,rfl⟩:=S.shape;have E:=XH P;have T:=(Q.m (B.m R)).m (m.m D);refine qyZ ⟨rfl,λV9 j=>(r_At (f.le (T.m j)) (S.le j) nz (sl.up (K:=200010) ω) E).s ?_⟩;rintro r fW d U;obtain ⟨_,_,_,_,_,_,_,_,_,_,_,_,rfl,-⟩:=id U;refine qyK ⟨rfl,λfk n=>(tH (C.le ((m.m D).m ((j.m d).m n))) x.2).s ?_⟩;rintro r iD F go;obtain ⟨_,_,_,_,_,_,rfl⟩:=go.shape;refine qyZ ⟨rfl,λku o=>(D6 (p:=(cT L s.gN,cW L s.gN)) (v:=(-(-((L.1:Int):Rat)),((L.2.1:Int):Rat))) (t (q.m (((T.m (j.m d)).m (n.m F)).m o))) hb hl (U.le (n.m (F.m o))) ⟨_,_,_,_,_,_,_,_,_,_,_,_,rfl,go.le o,DS.le ((m.m D).m ((j.m d).m ((n.m F).m o)))⟩ ((M8 (sl.up (K:=200010) ω) E).s (show _<=60000000 by omega)) ((M9 (sl.up (K:=200010) ω) E).s (show _<=60000000 by omega)) (Sz.s x.2.neg) (Sz.s x.1)).s ?_⟩;rintro r lV cJ ⟨X,G,H⟩;obtain ⟨_,_,_,_,_,_,_,_,_,_,_,_,rfl,-⟩:=id X;refine qyK ⟨rfl,λmg cP=>⟨_,(_,_),?_,X.le cP,G,H⟩⟩;rw [show BS ls=true from Ç (.inr ⟨L,hm,A⟩)]
def Ct (ls:List L3)(m:L3):Int:=if BS (ls++[m])=true/\BS (ls++[Õ m])=true then 0 else if BS (ls++[m])=true then 1 else -1
theorem yj {V:ut}{vs:pz un}(hw:V.w.heap[b]?=some (.cells vs.toArray 32 (0,0)))(hr:ç 6 cO V vs ls)(hc:ls.length<=c)(h0:ls≠[])(hb:∀l∈ls,Bd l)(hk:∀l∈ls,bX l=true)(hl:ls.length<=1000):À 125 #[zF (some ⟨b,0,none⟩) ls.length c] (V.aq [b]) λr V'=>∃b1 p n1 c1 p' n2 c2 b2 q n3 c3 q' n4 c4,r=tN #[hF #[dB b1,zF p n1 c1,zF p' n2 c2,dB b2,zF q n3 c3,zF q' n4 c4],dB (BS ls)]/\V'.w.heap[b]?=some (.cells vs.toArray 32 (0,0)):=by have d:=(Qr0.1 hw).1;have f:=Qh7.2 h0;have j:V.Le ((V.aq [b]).bare b):=λa v h=>⟨λk=>h.1 k.1,h.2⟩;have i:=bP.bM (V:=(V.aq [b]).bare b) (λ_=>⟨λh=>h.2 rfl,hw⟩) (hr.le λ_ _ g=>cO.le g j) φ hc;have e:mA b c=some ⟨b,0,none⟩:=by{unfold mA;rw [Ã ω]};rw [e] at i;refine (aa.bare (V:=V.aq [b]) d (sG i hb hk hl)).s ?_;rintro r V' _ ⟨m,u,p,rfl,n,-⟩;obtain ⟨_,_,_,_,_,_,_,_,_,_,_,_,rfl,-⟩:=n;exact qyK ⟨rfl,m.m hw⟩
theorem Xk (q:aw.V2):aw.pos ls q↔aw.pos ls.reverse q:=⟨λh m hm=>h m (Qf2.1 hm),λh m hm=>h m (Qf2.2 hm)⟩
theorem qL {V:ut}{xs ys sp sp':pz un}(hn:n=ls.length)(h:ç 6 cO V xs ls)(hx:xs.length=n*6)(hy:ys.length=6)(hm:cO V (.agg ys.toArray) m):ç 6 cO V ((([]:pz un).take (0*6)++xs++sp).take ((0+n)*6)++ys++sp') (ls++[m]):=by subst hn;have e:([]:pz un).take (0*6)++xs++sp=xs++sp:=ψ;rw [e,ą];have a:ç 6 cO V (xs++sp) ls:=by{have:=im (V:=V) (vs:=[]) (ls:=[]) (sp:=sp) (ç.nil) h φ;simpa using this};exact im a (row_one hy hm) φ
theorem sH (h:bP 6 cO V cp cn ls)(hb:∀l∈ls,Bd l)(hk:∀l∈ls,bX l=true)(hl:ls.length<=999){lv:un}(hm:cO V lv m)(bm:Bd m)(om:bX m=true):À 66 #[zF cp cn cc,lv] V λr V'=>r=Ô .i64 (Ct ls m):=by have J:=h.len;subst J;have d:=hm;obtain ⟨_,_,_,_,_,_,_,_,_,_,_,_,rfl⟩:=bW hm;have ⟨xs,K,i,u⟩:=eI h φ;have one:∀{W:ut} {xs:pz un},ç 6 cO W xs ls->xs.length=ls.length*6->∀v∈xs,v.oneCell'=true:=λk w=>vI k w;have L:∀l∈ls++[m],Bd l:=λl h=>(õ.1 h).elim (hb l) λh=>by{rw [ö.1 h];exact bm};have M:∀l∈ls++[m],bX l=true:=λl h=>(õ.1 h).elim (hk l) λh=>by{rw [ö.1 h];exact om};have N:∀l∈ls++[Õ m],Bd l:=λl h=>(õ.1 h).elim (hb l) λh=>by{rw [ö.1 h];exact bm.rev};have O:∀l∈ls++[Õ m],bX l=true:=λl h=>(õ.1 h).elim (hk l) λh=>by{rw [ö.1 h];exact xH om};have c:∀x:L3,(ls++[x]).length=(0+ls.length)+1:=λx=>by{rw [í];simp};refine DD V _ ⟨xs,K,i,ω,Ù _,ψ,i,one u i,λNQ J5 n c3 k w=>⟨ω,k,by simp;omega,rfl,Qu,λYi J9 p c7 P g4=>λy q VH Q h1=>?_⟩⟩;have z:=yj (V:=y) Q (qL (V:=y) (ys:=[_,_,_,_,_,_]) (sp:=n) (sp':=p) rfl (u.le λ_ _ g=>cO.le g q) i rfl (cO.le d q)) (by rw [c];exact P) ψ L M (by rw [c];omega);rw [c] at z;refine z.s ?_;rintro r V2 R ⟨_,_,_,_,_,_,_,_,_,_,_,_,_,_,rfl,S⟩;have s:V.Le V2.shut:=λb o g=>R b o (q b o g);have ⟨ys,T,j,A⟩:=eI (h.le s λ_ _ g=>cO.le g s) φ;refine ⟨_,_,_,_,_,_,_,_,_,_,_,_,_,_,_,rfl,_,S,ys,T,j,ω,Ù _,ψ,j,one A j,λB U e X Y g6 V3 C=>(jQ (cO.le d (s.m C))).s ?_⟩;rintro r Z l4 gr;have D:cO Z r (Õ m):=gr;obtain ⟨_,_,_,_,_,_,_,_,_,_,_,_,rfl⟩:=bW D;refine qxW ⟨rfl,ω,Y,by simp;omega,rfl,Qu,λE a0 f a3 g7 g8 F G H e5 h5=>?_⟩;have I:=yj (V:=F) e5 (qL (V:=F) (ys:=[_,_,_,_,_,_]) (sp:=e) (sp':=f) rfl (A.le λ_ _ g=>cO.le g (C.m (l4.m G))) j rfl (cO.le D G)) (by rw [c];exact g7) ψ N O (by rw [c];omega);rw [c] at I;refine I.s ?_;rintro r V6 l6 ⟨_,_,_,_,_,_,_,_,_,_,_,_,_,_,rfl,w6⟩;refine ⟨_,_,_,_,_,_,_,_,_,_,_,_,_,_,_,rfl,_,w6,λa=>⟨λt V7 l7=>?_,λt=>⟨λ_ V8 l8=>?_,(λh=>by rw [a] at h;cases h)⟩⟩,λa=>⟨(λh=>by rw [a] at h;cases h),λ_ fk bw=>?_⟩⟩;{unfold Ct;rw [Ä ⟨a,t⟩]};{unfold Ct;rw [Ã (λh=>by rw [t] at h;cases h.2),Ä a]};{unfold Ct;rw [Ã (λh=>by rw [a] at h;cases h.1),Ã (λh=>by rw [a] at h;cases h)]}
theorem HI (c:pz L3):∀(r o:pz L3),(ma c r o).length<=r.length+o.length
 | [],o=>by unfold ma;simp
 | l::r,o=>by
  unfold ma;split
  ·have:=HI c r (nF l o)
   have a:∀o:pz L3,(nF l o).length<=o.length+1:=λo=>by
    induction o with
    | nil=>simp [nF]
    | cons x r ih=>unfold nF;split<;>(try split)<;>simp<;>omega
   have:=a o;simp only [Ą];omega
  ·have:=HI c r o;simp only [Ą];omega
theorem HJ (c:pz L3):∀(r o:pz L3),∀x∈ma c r o,x∈r\/x∈o
 | [],o,x,h=>.inr h
 | l::r,o,x,h=>by
  unfold ma at h;rcases HJ c r _ x h with g|g
  ·exact .inl (ó _ g)
  ·split at g
   ·rcases nG.1 g with rfl|g
    ·exact .inl (þ ..)
    ·exact .inr g
   ·exact .inr g
theorem OO {x y:Tr}(h:RW V p (.node l x y)):∃(b1:md)(p1:OA)(n1 c1:Nat)(b2:md)(p2:OA)(n2 c2:Nat)(b3:md)(p3:OA)(n3 c3:Nat)(pl pr:OA)(a:Addr),p.isSome=true/\ae p 2=some a/\∀W:ut,V.Le W ->(∃a,ae p 0=some a/\W.at a (dB false))/\(W.at (a.add 0) (dB b1)/\W.at (a.add 1) (zF p1 n1 c1)/\W.at (a.add 2) (dB b2)/\W.at (a.add 3) (zF p2 n2 c2)/\W.at (a.add 4) (dB b3)/\W.at (a.add 5) (zF p3 n3 c3))/\(∃a,ae p 8=some a/\W.at a (dS pl))/\(∃a,ae p 9=some a/\W.at a (dS pr))/\cO W (hF #[dB b1,zF p1 n1 c1,dB b2,zF p2 n2 c2,dB b3,zF p3 n3 c3]) l/\RW W pl x/\RW W pr y:=by obtain ⟨e,f,b1,p1,n1,c1,b2,p2,n2,c2,b3,p3,n3,c3,pl,pr,rfl,c,k,m,d⟩:=h;refine ⟨b1,p1,n1,c1,b2,p2,n2,c2,b3,p3,n3,c3,pl,pr,(⟨e,0,none⟩:Addr).add 2,rfl,rfl,λW g=>?_⟩;have b:∀(i j:Nat) v,i+j<10->([dB false,dB f,dB b1,zF p1 n1 c1,dB b2,zF p2 n2 c2,dB b3,zF p3 n3 c3,dS pl,dS pr]:pz un)[i+j]?=some v->W.at (((⟨e,0,none⟩:Addr).add i).add j) v:=by{intro i j v _ n;rw [Lx,add_zero'];exact dL (xs:=[_,_,_,_,_,_,_,_,_,_]) (g _ _ c) n};exact ⟨zI (g _ _ c) 0 rfl,⟨b 2 0 _ ω rfl,b 2 1 _ ω rfl,b 2 2 _ ω rfl,b 2 3 _ ω rfl,b 2 4 _ ω rfl,b 2 5 _ ω rfl⟩,zI (g _ _ c) 8 rfl,zI (g _ _ c) 9 rfl,k.le g,m.le g,d.le g⟩
theorem ON {bk:Nat}{i b1:md}{p1:OA}{n1 c1:Nat}{b2:md}{p2:OA}{n2 c2:Nat}{b3:md}{p3:OA}{n3 c3:Nat}{pl pr:OA}{x y:Tr}(h:V.bg bk (.cells #[dB false,dB i,dB b1,zF p1 n1 c1,dB b2,zF p2 n2 c2,dB b3,zF p3 n3 c3,dS pl,dS pr] 60 (0,0)))(hl:cO V (hF #[dB b1,zF p1 n1 c1,dB b2,zF p2 n2 c2,dB b3,zF p3 n3 c3]) l)(hx:RW V pl x)(hy:RW V pr y):RW V (some ⟨bk,0,none⟩) (.node l x y):=
 ⟨bk,i,b1,p1,n1,c1,b2,p2,n2,c2,b3,p3,n3,c3,pl,pr,rfl,h,hl,hx,hy⟩
def P9 (l:L3):Tr->Tr->Tr
 | .leaf i,.leaf j=>if i=j then .leaf i else .node l (.leaf i) (.leaf j)
 | x,y=>.node l x y
theorem JM {x y:Tr}(h:x.qv=false\/y.qv=false):P9 l x y=.node l x y:=by
 cases x with
 | leaf i=>cases y with
  | leaf j=>rcases h with h|h<;>cases h
  | node=>rfl
 | node=>rfl
theorem uR {q:OA}{x y:Tr}(hl:cO V v l)(hx:RW V p x)(hy:RW V q y):À 67 #[v,dS p,dS q] V λr V'=>∃o,r=dS o/\RW V' o (P9 l x y):=by
 obtain ⟨m,n,t,u,w,z,A,B,C,D,E,F,rfl⟩:=bW hl
 have c:∀{W:ut} {b:Nat},V.Le W->W.bg b (.cells #[dB false,dB false,dB m,zF n t u,dB w,zF z A B,dB C,zF D E F,dS p,dS q] 60 (0,0))->(x.qv=false\/y.qv=false\/∃i j,x=.leaf i/\y=.leaf j/\i≠j)->∃o,Value.pointer (some ⟨b,0,none⟩)=dS o/\RW W o (P9 l x y):=λg h k=>by refine ⟨_,rfl,?_⟩;have e:P9 l x y=.node l x y:=by{rcases k with k|k|⟨i,j,rfl,rfl,k⟩;{exact JM (.inl k)};{exact JM (.inr k)};{show (if i=j then _ else _)=_;rw [Ã k]}};rw [e];exact ON h (cO.le hl g) (hx.le g) (hy.le g)
 have rd:∀{p:OA} {x:Tr},RW V p x->p.isSome=true/\∃a,ae p 0=some a/\V.at a (dB x.qv):=λ{p x} h=>by (cases x with|leaf i=>{obtain ⟨s,G,-⟩:=oZ h;exact ⟨s,G⟩}|node l x y=>{obtain ⟨_,_,_,_,_,_,_,_,_,_,_,_,_,_,_,s,-,H⟩:=OO h;exact ⟨s,(H V (Ó.Le.refl V)).1⟩})
 have ⟨s1,I⟩:=rd hx;have ⟨s2,J⟩:=rd hy;refine E4 V _ ⟨s1,s1,_,I,λd=>⟨s2,s2,_,J,λf=>?_,λf U K b L=>c K L (.inr (.inl f))⟩,λd X M b N=>c M N (.inl d)⟩
 obtain ⟨i,rfl⟩:∃i,x=.leaf i:=by cases x with
  | leaf i=>exact ⟨i,rfl⟩
  | node=>cases d
 obtain ⟨j,rfl⟩:∃j,y=.leaf j:=by cases y with
  | leaf j=>exact ⟨j,rfl⟩
  | node=>cases f
 obtain ⟨-,-,O⟩:=oZ hx;obtain ⟨-,-,P⟩:=oZ hy;refine ⟨s1,s1,i,O,s2,s2,j,P,λh Q R=>⟨p,rfl,?_⟩,λh V2 S b T=>c S T (.inr (.inr ⟨i,j,rfl,rfl,by simpa using h⟩))⟩;have e:i=j:=by simpa using h
 show RW Q p (if i=j then _ else _);rw [Ä e];exact hx.le R
def Hp:Tr->Tr
 | .leaf i=>.leaf (!i)
 | .node l x y=>.node l (Hp x) (Hp y)
theorem mr:∀(t:Tr) {V:ut} {p:OA},RW V p t->À 27 #[dS p] V λr V'=>∃q,r=dS q/\RW V' q (Hp t)
 | .leaf i,V,p,h=>by
  have ⟨s,e0,e1⟩:=oZ h;refine wu V _ ⟨s,s,_,e0,λ_=>⟨s,s,i,e1,λM N=>(cX (!i)).s ?_⟩,κ⟩;rintro r V2 O ⟨q,rfl,g⟩;exact ⟨q,rfl,λP j=>⟨q,rfl,g.le j⟩⟩
 | .node l x y,V,p,h=>by
  obtain ⟨Q,R,S,T,U,W,X,Y,Z,p3,n3,c3,pl,k,a,s,m,H⟩:=OO h;obtain ⟨z,⟨n,o,u,v,w,A⟩,B,C,-,-,-⟩:=H V (Ó.Le.refl V);refine wu V _ ⟨s,s,_,z,κ,λ_=>⟨s,s,_,_,_,_,_,_,_,_,_,_,_,_,a,m,n,o,u,v,w,A,s,s,pl,B,s,s,k,C,λD b=>(mr x (H D b).2.2.2.2.2.1).s ?_⟩⟩;rintro r V5 e ⟨E,rfl,F⟩;refine ⟨E,rfl,λG c=>(mr y (H G (b.m (e.m c))).2.2.2.2.2.2).s ?_⟩;rintro r V7 f ⟨I,rfl,J⟩;refine ⟨I,rfl,λK d bk L=>⟨_,rfl,ON L (H K (b.m (e.m (c.m (f.m d))))).2.2.2.2.1 (F.le (c.m (f.m d))) (J.le d)⟩⟩
def uv (c:List L3)(l:L3):List L3:=ma (c++[l]) (c++[l]) []
theorem AP {c:pz L3}(hc:∀m∈c,me m)(hl:me l):(∀m∈uv c l,me m)/\(uv c l).length<=c.length+1:=by refine ⟨λm hm=>?_,?_⟩;{rcases HJ _ _ _ m hm with g|g;{rcases õ.1 g with g|g;{exact hc m g};{rw [ö.1 g];exact hl}};{cases g}};{have:=HI (c++[l]) (c++[l]) [];simp at this;unfold uv;omega}
theorem kv {c:pz L3}(hc:bP 6 cO V cp cn c)(kc:∀m∈c,me m)(hn:c.length<=990)(hl:cO V v l)(kl:me l):À 68 #[zF cp cn cc,v] V λr V'=>∃q n d,r=zF q n d/\bP 6 cO V' q n (uv c l):=by obtain rfl:=hc.len;obtain ⟨_,_,_,_,_,_,_,_,_,_,_,_,rfl⟩:=bW hl;have ⟨xs,s,a,f⟩:=eI hc φ;have i:∀m∈c++[l],me m:=λm h=>(õ.1 h).elim (kc m) λh=>by{rw [ö.1 h];exact kl};have j:(c++[l]).length=(0+c.length)+1:=by{rw [í];simp};refine E5 V _ ⟨xs,s,a,ω,Ù _,ψ,a,vI f a,λx y b z t A=>⟨ω,t,by simp;omega,rfl,Qu,λB C e D E F u k G w=>?_⟩⟩;have o:=bP.il w (qL (V:=u) (ys:=[_,_,_,_,_,_]) (sp:=b) (sp':=e) rfl (f.le λ_ _ g=>cO.le g k) a rfl (cO.le hl k));rw [j] at o;refine (D_ o (λm h=>(i m h).2) (λm h=>(i m h).1) (by rw [j];omega)).s ?_;rintro r V2 H ⟨q,n,d,rfl,g⟩;exact ⟨q,n,d,_,rfl,λJ I p=>⟨q,n,d,rfl,g.le p λ_ _ g=>cO.le g p⟩⟩
def tY:Tr->List L3->Tr
 | .leaf i,_=>.leaf i
 | .node l x y,c=>if Ct c l=1 then tY x c else if Ct c l=-1 then tY y c else P9 l (tY x (uv c l)) (tY y (uv c (Õ l)))
theorem oR (h:me l):me (Õ l):=⟨xH h.1,h.2.rev⟩
theorem dH:∀(t:Tr) {V:ut} {p cp:OA} {cn cc:Nat} {c:pz L3},RW V p t->t.dV me->bP 6 cO V cp cn c->(∀m∈c,me m)->c.length+t.depth<=990 ->À 65 #[dS p,zF cp cn cc] V λr V'=>∃q,r=dS q/\RW V' q (tY t c)
 | .leaf i,V,p,cp,cn,cc,c,h,_,_,_,_=>by
  obtain ⟨s,e0,-⟩:=oZ h;exact mH V _ ⟨s,s,_,e0,λ_ V1 l1=>⟨p,rfl,h.le l1⟩,κ⟩
 | .node l x y,V,p,cp,cn,cc,c,h,ha,hc,kc,hd=>by
  obtain ⟨f,N,O⟩:=ha;simp only [Tr.depth] at hd;have ⟨b1,p1,n1,c1,b2,p2,n2,c2,b3,p3,n3,c3,pl,P,a,s,D,H⟩:=OO h;obtain ⟨z,⟨j,n,o,u,v,w⟩,G,I,-,-,-⟩:=H V (Ó.Le.refl V);have A:∀{W:ut},V.Le W->bP 6 cO W cp cn c:=λg=>hc.le g λ_ _ k=>cO.le k g;refine mH V _ ⟨s,s,_,z,κ,λ_=>⟨s,s,_,_,_,_,_,_,_,_,_,_,_,_,a,D,j,n,o,u,v,w,λV2 J=>(sH (A J) (λm h=>(kc m h).2) (λm h=>(kc m h).1) ω (H V2 J).2.2.2.2.1 f.2 f.1).s ?_⟩⟩;rintro r V3 l3 rfl;have L3:=J.m l3;obtain ⟨-,⟨j,n,o,u,v,w⟩,G,I,-,-,-⟩:=H V3 L3;refine ⟨_,rfl,λb=>⟨s,s,pl,G,λV4 Q=>(dH x (H V4 (L3.m Q)).2.2.2.2.2.1 N (A (L3.m Q)) kc ω).s ?_⟩,λb=>⟨λe=>⟨s,s,P,I,λV7 R=>(dH y (H V7 (L3.m R)).2.2.2.2.2.2 O (A (L3.m R)) kc ω).s ?_⟩,λe=>?_⟩⟩
  ·have b:Ct c l=1:=by simpa using b
   rintro r V5 l5 ⟨q,rfl,g⟩;exact ⟨q,rfl,λV6 K=>⟨q,rfl,by unfold tY;rw [Ä b];exact g.le K⟩⟩
  ·have b:¬Ct c l=1:=by simpa using b
   have e:Ct c l=-1:=by simpa using e
   rintro r V5 l5 ⟨q,rfl,g⟩;exact ⟨q,rfl,λV6 K=>⟨q,rfl,by unfold tY;rw [Ã b,Ä e];exact g.le K⟩⟩
  ·have b:¬Ct c l=1:=by simpa using b
   have e:¬Ct c l=-1:=by simpa using e
   have ⟨w1,w2⟩:=AP kc f;have ⟨w3,w4⟩:=AP kc (oR f);refine ⟨s,s,_,_,_,_,_,_,_,_,_,_,_,_,a,D,j,n,o,u,v,w,s,s,pl,G,s,s,_,_,_,_,_,_,_,_,_,_,_,_,a,D,j,n,o,u,v,w,s,s,P,I,s,s,_,_,_,_,_,_,_,_,_,_,_,_,a,D,j,n,o,u,v,w,λfW d=>(kv (A (L3.m d)) kc ω (H fW (L3.m d)).2.2.2.2.1 f).s ?_⟩;rintro r fk S ⟨q1,m1,d1,rfl,h1⟩;refine ⟨q1,m1,d1,rfl,λiD E=>(dH x (H iD (L3.m (d.m (S.m E)))).2.2.2.2.2.1 N (h1.le E λ_ _ k=>cO.le k E) w1 ω).s ?_⟩;rintro r ku ct ⟨o1,rfl,t1⟩;have T:=L3.m (d.m (S.m (E.m ct)));refine ⟨o1,rfl,λlV L=>(jQ (H lV (T.m L)).2.2.2.2.1).s ?_⟩;rintro r mg U gr;have X:cO mg r (Õ l):=gr;obtain ⟨_,_,_,_,_,_,_,_,_,_,_,_,rfl⟩:=bW X;have B:=T.m (L.m U);refine qxW ⟨rfl,λlY F=>(kv (A (B.m F)) kc ω (cO.le X F) (oR f)).s ?_⟩;rintro r mY Y ⟨q2,m2,d2,rfl,h2⟩;have Z:=B.m (F.m Y);refine ⟨q2,m2,d2,rfl,λnX C=>(dH y (H nX (Z.m C)).2.2.2.2.2.2 O (h2.le C λ_ _ k=>cO.le k C) w3 ω).s ?_⟩;rintro r rU dy ⟨o2,rfl,t2⟩;refine ⟨o2,rfl,λuD M=>(uR (H uD ((Z.m (C.m dy)).m M)).2.2.2.2.1 (t1.le (L.m (U.m (F.m (Y.m (C.m (dy.m M)))))) ) (t2.le M)).s ?_⟩;rintro r ux iA ⟨o3,rfl,t3⟩;exact ⟨o3,rfl,λuE iP=>⟨o3,rfl,by unfold tY;rw [Ã b,Ã e];exact t3.le iP⟩⟩
theorem ld (t:Tr)(h:RW V p t)(ha:t.dV me)(hd:t.depth<=990:=by omega):À 24 #[dS p] V λr V'=>∃q,r=dS q/\RW V' q (tY t []):=by refine Ag V _ λc a=>(dH t (h.le a) ha (bP.nil (p:=none)) (λm h=>by cases h) (by simpa using hd)).s ?_;rintro r V2 d ⟨q,rfl,g⟩;exact ⟨q,rfl,λe b=>⟨q,rfl,g.le b⟩⟩
end Go.Proofs.Tryz
