import Derived.Laws.IdiomCopy
import Derived.Lib.Overlaps
import Derived.Lib.JoinLaws
import Derived.Lib.AppendZerosOnto
import Derived.Shelf.RegionOpenPlain
import Derived.Lib.Walk
import Derived.Lib.SliceRun
import Derived.Laws.NewBlocks
import Derived.Test.YtdfckdifmjeieaaGreatDoorC19
import Derived.Test.YtdfckdifmjeieaaGreatDoorC9
set_option linter.all false
open Go.IntKind (i64 u64 u32)
open Go.IntKind renaming i64→Ŵ
open Go.Value renaming agg→hF,bool→dB,pointer→qvJ,int→Ô,slice→yG,tuple→å
namespace Go.Proofs.Tryz
open Go.Eng Go.Big
section
variable{q x y:Rat}{s:Sp}{l m:L3}
theorem Io {a b:ut}:fe [⟨x,y,a,b⟩]=(if a then 0 else 1)+(if b then 0 else 1):=by unfold fe zL Sp.JY Sp.Iv;cases a<;>cases b<;>rfl
theorem Vo (h:y<=x):vk x y=x:=by unfold vk;rcases cz y x with ⟨g,e⟩|⟨g,e⟩|⟨g,e⟩<;>rw [e]<;>simp<;>grind
theorem maxQ_r (h:x<=y):vk x y=y:=by unfold vk;rcases cz y x with ⟨g,e⟩|⟨g,e⟩|⟨g,e⟩<;>rw [e]<;>simp<;>grind
theorem Vq (h:x<=y):vl x y=x:=by unfold vl;rcases cz y x with ⟨g,e⟩|⟨g,e⟩|⟨g,e⟩<;>rw [e]<;>simp<;>grind
theorem minQ_r (h:y<=x):vl x y=y:=by unfold vl;rcases cz y x with ⟨g,e⟩|⟨g,e⟩|⟨g,e⟩<;>rw [e]<;>simp<;>grind
theorem UC:(⟨x,y,false,false⟩:Sp).emp=decide (y<=x):=by unfold Sp.emp;rcases cz x y with ⟨g,e⟩|⟨g,e⟩|⟨g,e⟩<;>simp only<;>simp<;>grind
theorem emp_a {b:ut}:(⟨x,y,true,b⟩:Sp).emp=false:=rfl
theorem emp_b {a:ut}:(⟨x,y,a,true⟩:Sp).emp=false:=by cases a<;>rfl
theorem halves {v:Sp}(h:v.good)(p:Rat):(v.innB p=true/\(v.meet ⟨p,0,false,true⟩).emp=false/\(v.meet ⟨0,p,true,false⟩).emp=false/\fe [v.meet ⟨p,0,false,true⟩]+fe [v.meet ⟨0,p,true,false⟩]<=fe [v]+2) \/ (v.meet ⟨p,0,false,true⟩=v/\(v.meet ⟨0,p,true,false⟩).emp=true)\/(v.meet ⟨0,p,true,false⟩=v/\(v.meet ⟨p,0,false,true⟩).emp=true):=by obtain ⟨⟨c,d⟩,he⟩:=h;obtain ⟨e,f,a,b⟩:=v;unfold Sp.meet Sp.innB;cases a<;>cases b;{grind [UC,Vo,minQ_r,Vq,maxQ_r,Io]};{grind [UC,Vo,Io,emp_b]};{grind [UC,Vq,Io,emp_a]};left;simp [Io,emp_a,emp_b]
def bj (l:L3)(e:Bool):Tr->Sp->List Sp
 | .leaf i,v=>if i=true then [v] else []
 | .node m x y,v=>
  if m=l/\e=true\/m=Õ l/\e=false then bj l e x v
  else if m=l\/m=Õ l then bj l e y v
  else (if cU l v m=true then bj l e x (bH l v m) else [])++(if cU l v (Õ m)=true then bj l e y (bH l v (Õ m)) else [])
def Crs (l:L3)(P:List Rat)(t:Tr):Prop:=t.dG λm=>Ü m l≠0->Ö m l∈P
theorem Li {w:Sp}(h:(s.meet w).cT q):s.cT q\/w.cT q:=by unfold Sp.cT Sp.meet at *;have mx:∀x y,vk x y=x\/vk x y=y:=λx y=>by{unfold vk;split<;>simp};have mn:∀x y,vl x y=x\/vl x y=y:=λx y=>by{unfold vl;split<;>simp};have a:=mx s.lo w.lo;have b:=mn s.hi w.hi;obtain ⟨s1,s2,s3,s4⟩:=s;obtain ⟨e,f,c,d⟩:=w;cases s3<;>cases c<;>cases s4<;>cases d<;>simp at h a b⊢<;>grind
theorem Yi (h:(bH l s m).cT q):s.cT q\/Ü m l≠0/\q=Ö m l:=by unfold bH at h;rcases cY (Ü m l) with ⟨g,e⟩|⟨g,e⟩|⟨g,e⟩<;>rw [e] at h;{exact .inl h};{rcases Li h with h|⟨_,h⟩|⟨h,_⟩;{exact .inl h};{exact .inr ⟨χ,h⟩};cases h};rcases Li h with h|⟨h,_⟩|⟨_,h⟩;{exact .inl h};{cases h};exact .inr ⟨χ,h⟩
theorem cnt3 {f g h k:Rat->ut}(H:∀c,(f c).toNat+(g c).toNat+(h c).toNat<=(k c).toNat):∀l:zA Rat,l.countP f+l.countP g+l.countP h<=l.countP k
 | []=>ψ
 | c::l=>by
  have u:=cnt3 H l;have a:=H c;have e:∀b:ut,(if b=true then 1 else 0)=b.toNat:=λb=>by cases b<;>rfl
  grind
theorem Yh (h:Ü m l=0):bH l s m=s:=by unfold bH;rw [h];rfl
theorem Uu (h:Ü m l=0):cU l s m=decide ((ku m l).num.sign>0):=by unfold cU;rw [h];rfl
theorem W7 {l m:L3}{v:Sp}(u:v.good):(cU l v m=true/\cU l v (Õ m)=true/\Ü m l≠0/\v.innB (Ö m l)=true/\fe [bH l v m]+fe [bH l v (Õ m)]<=fe [v]+2)\/(bH l v m=v/\cU l v (Õ m)=false)\/(bH l v (Õ m)=v/\cU l v m=false):=by
 have key:Ü m l≠0->∀s,cU l s m=!(bH l s m).emp:=λf s=>by unfold cU;grind [cY]
 have g:Ü (Õ m) l≠0->∀s,cU l s (Õ m)=!(bH l s (Õ m)).emp:=λf s=>by unfold cU;grind [cY]
 by_cases f:Ü m l=0
 ·grind [dot_rev,cY,Yh,Uu,PN]
 ·have k:Ü (Õ m) l≠0:=by rw [dot_rev];grind
  rw [key f,g k];have H:=halves u (Ö m l);have j:=cutP_rev f
  have mk:∀{x y:Sp},bH l v m=x->bH l v (Õ m)=y->(v.innB (Ö m l)=true/\x.emp=false/\y.emp=false/\fe [x]+fe [y]<=fe [v]+2)\/(x=v/\y.emp=true)\/(y=v/\x.emp=true) ->
    ((!(bH l v m).emp)=true/\(!(bH l v (Õ m)).emp)=true/\Ü m l≠0/\v.innB (Ö m l)=true/\fe [bH l v m]+fe [bH l v (Õ m)]<=fe [v]+2)\/(bH l v m=v/\(!(bH l v (Õ m)).emp)=false)\/(bH l v (Õ m)=v/\(!(bH l v m).emp)=false):=by
   rintro x y rfl rfl (⟨a,b,c,d⟩|⟨a,b⟩|⟨a,b⟩)
   ·exact .inl ⟨by rw [b];rfl,by rw [c];rfl,f,a,d⟩
   ·exact .inr (.inl ⟨a,by rw [b];rfl⟩)
   ·exact .inr (.inr ⟨a,by rw [b];rfl⟩)
  rcases cY (Ü m l) with ⟨h,e⟩|⟨h,e⟩|⟨h,e⟩
  ·exact Å h f
  ·have i:(Ü (Õ m) l).num.sign=-1:=by{grind [cY,dot_rev]};exact mk (by unfold bH;rw [e];rfl) (by unfold bH;rw [j,i];rfl) H
  ·have i:(Ü (Õ m) l).num.sign=1:=by{grind [cY,dot_rev]};refine mk (x:=v.meet ⟨0,Ö m l,true,false⟩) (y:=v.meet ⟨Ö m l,0,false,true⟩) (by unfold bH;rw [e];rfl) (by unfold bH;rw [j,i];rfl) ?_<;>grind
theorem wX {P:zA Rat}{e:ut}:∀{t:Tr} {v:Sp},v.good->Crs l P t->(∀q,v.cT q->q∈P) ->(∀s∈bj l e t v,s.good/\∀q,s.cT q->q∈P)/\fe (bj l e t v)<=fe [v]+2*P.countP v.innB/\(bj l e t v).length<=1+P.countP v.innB
 | .leaf i,v,z,_,E=>by
  cases i
  ·exact ⟨λs h=>(nomatch h),ä _,ä _⟩
  ·exact ⟨λs h=>by rw [õ.1 h];exact ⟨z,E⟩,Qr8 ..,Qr8 ..⟩
 | .node m x y,v,z,hc,E=>by
  obtain ⟨N,F,M⟩:=hc;unfold bj;split
  ·exact wX z F E
  ·split
   ·exact wX z M E
   ·have ends:∀{k:L3},(k=m\/k=Õ m)->∀q,(bH l v k).cT q->q∈P:=λ{k} o q h=>by rcases Yi h with g|⟨g,eq⟩<;>grind [dot_rev,cutP_rev]
    have A:(cU l v m=true->(∀s∈bj l e x (bH l v m),s.good/\∀q,s.cT q->q∈P)/\fe (bj l e x (bH l v m))<=fe [bH l v m]+2*P.countP (bH l v m).innB/\(bj l e x (bH l v m)).length<=1+P.countP (bH l v m).innB):=λh=>wX (lR z h) F (ends (.inl rfl));have B:(cU l v (Õ m)=true->(∀s∈bj l e y (bH l v (Õ m)),s.good/\∀q,s.cT q->q∈P)/\fe (bj l e y (bH l v (Õ m)))<=fe [bH l v (Õ m)]+2*P.countP (bH l v (Õ m)).innB/\(bj l e y (bH l v (Õ m))).length<=1+P.countP (bH l v (Õ m)).innB):=λh=>wX (lR z h) M (ends (.inr rfl));refine ⟨λs h=>?_,?_⟩
    ·rcases ü.1 h with h|h<;>grind
    ·rw [N0,í];rcases W7 (l:=l) (m:=m) z with ⟨b1,b2,b,d,p⟩|⟨a,b2⟩|⟨a,b1⟩
     ·rw [Ä b1,Ä b2];have j:=(A b1).2;have n:=(B b2).2;have r:0<P.countP λc=>decide (c=Ö m l):=Qs1.2 ⟨_,N b,ψ⟩
      have H:=cnt3 (f:=(bH l v m).innB) (g:=(bH l v (Õ m)).innB) (h:=λc=>decide (c=Ö m l)) (k:=v.innB) (λc=>by
       have i1:=(pP (l:=l) (s:=v) (m:=m)).1 b1 c;have i2:=(pP (l:=l) (s:=v) (m:=Õ m)).1 b2 c;rw [val_rev] at i2;rw [<-innB_iff,<-innB_iff] at i1 i2
       have i3:c=Ö m l->v.innB c=true/\aw m (dm l c) (du l c)=0:=by
        rintro rfl;refine ⟨d,?_⟩;rw [qk];unfold Ö;grind
       cases j:(bH l v m).innB c<;>cases n:(bH l v (Õ m)).innB c<;>cases O:v.innB c<;>by_cases u:c=Ö m l<;>simp at i1 i2 i3⊢<;>grind) P
      omega
     ·rw [Ã (c:=cU l v (Õ m)=true) (by rw [b2];simp)];split;{rename_i g;have:=(A g).2;rw [a] at this ⊢;exact this};exact ⟨ä _,ä _⟩
     ·rw [Ã (c:=cU l v m=true) (by rw [b1];simp)];split;{rename_i g;have:=(B g).2;rw [a] at this ⊢;exact ⟨by show 0+_<=_;omega,by show 0+_<=_;omega⟩};exact ⟨ä _,ä _⟩
def jo (l:L3)(e:Bool):Rat×Rat:=if e=true then ((l.1:Rat),(l.2.1:Rat)) else (-(l.1:Rat),-(l.2.1:Rat))
theorem wW (ol:bY l=true){e:ut}:∀{t:Tr} {v:Sp},v.good->(t.dG λm=>bY m=true/\(Ü m l≠0->Ö m l≠q)) ->ì (bj l e t v) q=(v.innB q&&(ao.gX t (dm l q,du l q) (jo l e)).1)
 | .leaf i,v,_,_=>by cases i<;>simp [bj,ao.gX,ì]
 | .node m x y,v,E,hc=>by
  obtain ⟨⟨N,O⟩,F,M⟩:=hc
  have nl:(l.1:Rat)*l.1+(l.2.1:Rat)*l.2.1>0:=by
   have h:=fY ol
   have n:∀z:Rat,z≠0->z*z>0:=λz c=>by rcases cY z with ⟨g,_⟩|⟨g,_⟩|⟨g,_⟩;{exact Å g c};{exact ŕ g g};{have:=ŕ (show -z>0 by grind) (show -z>0 by grind);grind}
   have d:∀z:Rat,z*z≥0:=λz=>by by_cases c:z=0;{rw [c];grind};{have:=n z c;grind}
   have f:=d l.1;have j:=d l.2.1;by_cases p:l.1=0
   ·have o:l.2.1≠0:=λo=>h ⟨p,o⟩;have:=n l.2.1 (by exact_mod_cast o);grind
   ·have:=n l.1 (by exact_mod_cast p);grind
  have v0:=(uM (fY ol) q).1
  have r:∀{z:Rat} ,0<z->z.num.sign=1:=λ{z} c=>by rcases cY z with ⟨h,_⟩|⟨h,e⟩|⟨h,_⟩;{grind};{exact e};grind
  have u:∀{z:Rat} ,z<0->z.num.sign=-1:=λ{z} c=>by rcases cY z with ⟨h,_⟩|⟨h,_⟩|⟨h,e⟩;{grind};{grind};exact e
  unfold bj ao.gX;have sd:∀z,ao.tD m (dm l q,du l q) (jo l e)=z↔(if (aw m (dm l q) (du l q)).num.sign=0 then (ao.nv m (jo l e)).num.sign else (aw m (dm l q) (du l q)).num.sign)=z:=λz=>Iff.rfl;split
  ·rename_i h;have:ao.tD m (dm l q,du l q) (jo l e)=1:=by{rw [sd];rcases h with ⟨rfl,rfl⟩|⟨rfl,rfl⟩;{rw [v0];exact r (by unfold ao.nv jo;simpa using nl)};rw [val_rev,v0];exact r (by unfold ao.nv jo Õ;simp;grind)};rw [Ä this];exact wW ol E F
  ·split;{rename_i f h;have:ao.tD m (dm l q,du l q) (jo l e)=-1:=by{rw [sd];cases e;{rcases h with rfl|rfl;{rw [v0];exact u (by unfold ao.nv jo;simp;grind)};exact Å (.inr ⟨rfl,rfl⟩) f};rcases h with rfl|rfl;{exact Å (.inl ⟨rfl,rfl⟩) f};rw [val_rev,v0];exact u (by unfold ao.nv jo Õ;simp;grind)};rw [this,Ã φ,Ä rfl];exact wW ol E M};rename_i f h;have A:aw m (dm l q) (du l q)≠0:=by{by_cases w:Ü m l=0;{rcases IM N ol (t:=Ö m l+1) χ with g|g|g;{exact Å (.inl g) h};{exact Å (.inr g) h};rw [qk,w] at *;grind};grind [IM]};have app:∀a b:zA Sp,ì (a++b) q=(ì a q||ì b q):=λa b=>by{unfold ì;rw [Wy0]};have one:∀{k:L3} {z:Tr},(∀{v:Sp},v.good->ì (bj l e z v) q=(v.innB q&&(ao.gX z (dm l q,du l q) (jo l e)).1))->ì (if cU l v k=true then bj l e z (bH l v k) else []) q=(v.innB q&&decide (0<aw k (dm l q) (du l q))&&(ao.gX z (dm l q,du l q) (jo l e)).1):=λ{k z} c=>by{split;{rename_i g;rw [c (lR E g)];congr 1;have:=(pP (l:=l) (s:=v) (m:=k)).1 g q;rw [<-innB_iff,<-innB_iff] at this;(cases f:(bH l v k).innB q<;>cases j:v.innB q<;>simp [j] at this⊢<;>first|exact this|grind)};rename_i g;have:=(pP (l:=l) (s:=v) (m:=k)).2 E.2 (by simpa using g) q;rw [<-innB_iff] at this;cases j:v.innB q;{simp [ì]};simp [ì,this j]};rw [app,one λE=>wW ol E F,one λE=>wW ol E M,val_rev];grind [ao.tD]
def uc (l:L3)(t:Tr):List Sp:=Û 3 (Û 1 (bj l true t bW) []) (Û 1 (bj l false t bW) [])
def lU:bW.good:=⟨⟨λ_=>rfl,λ_=>rfl⟩,rfl⟩
def So (q:Rat):bW.innB q=true:=rfl
def UJ (q:Rat):¬bW.cT q:=by rintro (⟨h,_⟩|⟨h,_⟩)<;>cases h
section
variable{l:L3}{P:List Rat}{e:Bool}{t:Tr}(hc:Crs l P t)
include hc
theorem QE:(∀s∈bj l e t bW,s.good/\∀q,s.cT q->q∈P)/\fe (bj l e t bW)<=2*P.length/\(bj l e t bW).length<=1+P.length:=by have ⟨a,b,c⟩:=wX (e:=e) lU hc λq h=>Å h (UJ q);have:P.countP bW.innB<=P.length:=List.countP_le_length ..;have:fe [bW]=0:=rfl;grind
theorem oL:∀q∈à (Û 1 (bj l e t bW) []),q∈P:=λq b=>by
 have ⟨s,c,h⟩:=fw.1 b;have ⟨d,f⟩:=oz s c;have:q∈à (bj l e t bW++[]):=by rcases h with ⟨a,rfl⟩|⟨a,rfl⟩;exact d a;exact f a
 have ⟨u,hu,h⟩:=fw.1 this;rw [ć] at hu;exact ((QE hc).1 u hu).2 q h
theorem Wf (u:asc P):fe (Û 1 (bj l e t bW) [])<=P.length:=by refine Bc (I_ (comb_reg 1 _ _)) u λx a=>oL hc (e:=e) x (fw.2 ?_);have ⟨s,b,a⟩:=č.1 a;rcases ü.1 a with a|a;{exact ⟨s,b,.inl (mT a)⟩};exact ⟨s,b,.inr (pU a)⟩
theorem on_end:∀s∈uc l t,∀q,s.cT q->q∈P:=λs b q h=>by
 have ⟨c,d⟩:=oz s b;have:q∈à (Û 1 (bj l true t bW) []++Û 1 (bj l false t bW) []):=by rcases h with ⟨a,rfl⟩|⟨a,rfl⟩;exact c a;exact d a
 have ⟨u,hu,h⟩:=fw.1 this;rcases ü.1 hu with hu|hu<;>grind [oL,fw.2]
theorem VL (ol:bY l=true)(E:t.dG λm=>bY m=true){q:Rat}(z:q∉P):ì (uc l t) q=((ao.gX t (dm l q,du l q) (jo l true)).1&&!(ao.gX t (dm l q,du l q) (jo l false)).1):=by
 have a:t.dG λm=>bY m=true/\(Ü m l≠0->Ö m l≠q):=by
  induction t with
  | leaf=>trivial
  | node m x y F M=>exact ⟨⟨E.1,λh g=>z (g▸hc.1 h)⟩,F hc.2.1 E.2.1,M hc.2.2 E.2.2⟩
 have one:∀e,ì (Û 1 (bj l e t bW) []) q=(ao.gX t (dm l q,du l q) (jo l e)).1:=λe=>by
  rw [comb_inB 1 _ _ (λh=>by
   have ⟨u,hu,h⟩:=fw.1 h;rw [ć] at hu;exact z (((QE hc).1 u hu).2 q h)),wW ol lU a]
  simp [ĥ,ì,So]
 unfold uc
 rw [comb_inB 3 _ _ (λh=>by
  have ⟨u,hu,h⟩:=fw.1 h;rcases ü.1 hu with hu|hu
  ·exact z (oL hc (e:=true) q (fw.2 ⟨u,hu,h⟩))
  ·exact z (oL hc (e:=false) q (fw.2 ⟨u,hu,h⟩))),one,one]
 rfl
end
end
section
def uu (t:Tr)(L:L3):List (L3×Sp):=(uc L t).map λs=>(L,s)
def vd (t:Tr)(D:List L3):List (L3×Sp):=D.flatMap λl=>uu t l++uu t (Õ l)
def GH:Û 1 [bW] []=[bW]:=by refine reg_eq (à ([bW]++[])) (comb_reg ..) ⟨λs h=>by rw [õ.1 h];exact lU,Qf5 _ _⟩ λt a=>?_;rw [comb_inB 1 _ _ a];simp [ĥ,ì]
def î (l m:L3):List Sp:=if Þ l m=0 then (if 0<aw m (dm l 0) (du l 0) then [ã] else []) else if 0<Ü m l then [⟨Ö m l,0,false,true⟩] else [⟨0,Ö m l,true,false⟩]
theorem yF (l m:L3):î l m=[]\/∃u,î l m=[u]/\u.can:=by unfold î;split;{grind [iJ.1]};split;{exact .inr ⟨_,rfl,⟨Ŭ,λ_=>rfl⟩⟩};exact .inr ⟨_,rfl,⟨λ_=>rfl,Ŭ⟩⟩
theorem comb_nil (a:zA Sp):Û 2 a []=[]:=by (cases e:Û 2 a [] with|nil=>rfl|cons s r=>{exfalso;have d:=comb_reg 2 a [];rw [e] at d;have ⟨g,i,b,c⟩:=UQ (d.1 s (ą ..));have ⟨t,t1,t2,t3⟩:=TU (à (a++[])) b;have f:=comb_inB 2 a [] (t:=t) (λh=>t3 t h rfl);rw [e] at f;have j:ì (s::r) t=true:=jR.2 ⟨s,ą ..,c t t1 t2⟩;have k:ì [] t=false:=rfl;have l:ĥ 2 (ì a t) false=(ì a t&&false):=rfl;grind})
def SI {v:Sp}(u:v.can):v.meet ã=v:=by obtain ⟨c,d,a,b⟩:=v;unfold Sp.can at u;unfold Sp.meet ã;grind
def Sq {v:Sp}(u:v.can):ã.meet v=v:=by obtain ⟨c,d,a,b⟩:=v;unfold Sp.meet ã;cases a<;>cases b<;>simp at u⊢<;>simp
theorem Da {u:Sp}(hu:u.good):Û 2 [ã] [u]=[u]:=by rw [wq iJ.1 hu.1,Sq hu.1,Ã (by rw [hu.2];exact ũ)]
def Td {l m:L3}{v:Sp}(z:v.good):Û 2 [v] (Û 2 [ã] (î l m))=if cU l v m=true then [bH l v m] else []:=by unfold î;by_cases hc:Þ l m=0;{have a:Ü m l=0:=by{rw [cross_dot] at hc;grind};have c:bH l v m=v:=by{unfold bH;rw [a];rfl};have b:cU l v m=decide ((ku m l).num.sign>0):=by{unfold cU;rw [a];rfl};rw [Ä hc,c,b];by_cases g:0<aw m (dm l 0) (du l 0);{rw [Ä g,Da iJ,wq z.1 iJ.1,SI z.1,Ã (by rw [z.2];exact ũ),Ä (Ç (show (ku m l).num.sign>0 from ao.mr.2 g))]};rw [Ã g,comb_nil,comb_nil,Ã (by rw [Ñ];exact λh=>g (ao.mr.1 h))]};have a:Ü m l≠0:=λe=>hc (by rw [cross_dot,e];grind);have b:cU l v m=!(bH l v m).emp:=by{unfold cU;grind [cY]};have fin:∀{u:Sp},u.good->v.meet u=bH l v m->Û 2 [v] (Û 2 [ã] [u])=if cU l v m=true then [bH l v m] else []:=λ{u} hu e=>by{rw [Da hu,wq z.1 hu.1,e,b];grind};rw [Ã hc];rcases cY (Ü m l) with ⟨h,e⟩|⟨h,e⟩|⟨h,e⟩;{exact Å h a};{rw [Ä h];refine fin ⟨⟨Ŭ,λ_=>rfl⟩,Sp.im.2 (.inr (.inl rfl))⟩ ?_;unfold bH;rw [e];rfl};rw [Ã χ];refine fin ⟨⟨λ_=>rfl,Ŭ⟩,Sp.im.2 (.inl rfl)⟩ ?_;unfold bH;rw [e];rfl
def jg.up {k K:Nat}{l:L3}(h:jg k l)(u:k<=K):jg K l:=⟨h.1.s u,h.2.1.s u,h.2.2.s u⟩
theorem Bz {L M:L3}{s:Sp}{k K:Nat}(sl:jg k L)(sm:jg k M)(u:s.sz K)(E:60*k+60<=K):(bH L s M).sz K:=by have z:=DP K;have c:=(qj sl sm).s E;unfold bH;split;{exact u};split;{exact Sp.II u ⟨c,z⟩};exact Sp.II u ⟨z,c⟩
def Yr {k:Nat}(u:0<k:=by omega):ã.sz k:=⟨DP k u,DP k u⟩
def c_All {V:un}:À 197 #[] V λr W=>r=hF #[Ô Ŵ 0,Ô Ŵ 0,qvJ none,Ô Ŵ 0,Ô Ŵ 0,qvJ none,dB true,dB true]:=
 Pc V _ λa b=>rfl
def one17 {u:Int}{z:Int}{p:OA}{E:Int}{F:Int}{q:OA}{M:Int}{N:Int}{r:OA}{u1:Int}{u2:Int}{t:OA}{O:Int}{Z:Int}{o:OA}{c d:ut}:∀v∈([Ô Ŵ u,Ô Ŵ z,qvJ p,Ô Ŵ E,Ô Ŵ F,qvJ q,Ô Ŵ M,Ô Ŵ N,qvJ r,Ô Ŵ u1,Ô Ŵ u2,qvJ t,Ô Ŵ O,Ô Ŵ Z,qvJ o,dB c,dB d]:zA um),v.oneCell'=true:=by intro v hm;simp only [ç,ě,Ì] at hm;rcases hm with rfl|rfl|rfl|rfl|rfl|rfl|rfl|rfl|rfl|rfl|rfl|rfl|rfl|rfl|rfl|rfl|rfl<;>rfl
end
section
variable{V:Ó}{v w:Value}{c c' i k n:Nat}{a b l x:L3}{p q:OA}{vs:List Value}{ls:List L3}
def Gr {p:Rat×Rat}(h:kt V v p.1 p.2)(s1:Sz k p.1)(s2:Sz k p.2)(Z:k<=2^40:=by omega):À 212 #[v] V λr W=>r=Ô Ŵ (ao.half p):=by obtain ⟨i,j,q,l,m,n,rfl,s,t⟩:=h;refine D7 V _ λu w=>(eO ra s2 Z).s ?_;rintro r V2 x rfl;refine ⟨_,rfl,λb y z=>?_,λb=>⟨λc A B=>(eO ra s1 Z).s ?_,λc=>⟨λa C f=>?_,λa D E=>(eO ra s1 Z).s ?_⟩⟩⟩;{have b:p.2.num.sign>0:=Á b;unfold ao.half;rw [Ä (.inl b)]};{have b:¬p.2.num.sign>0:=Â b;have c:p.2.num.sign=0:=by{simpa using c};rintro r F G rfl;refine ⟨_,rfl,λa H I=>?_,λa=>⟨λe J K=>?_,λe L M=>(eO ra s1 Z).s ?_⟩⟩;{have a:p.1.num.sign>0:=Á a;unfold ao.half;rw [Ä (.inr ⟨c,a⟩)]};{have e:p.2.num.sign<0:=Á e;omega};have a:¬p.1.num.sign>0:=Â a;have g:¬(p.2.num.sign>0\/p.2.num.sign=0/\p.1.num.sign>0):=ω;rintro r N O rfl;refine ⟨_,rfl,λd P o=>?_,λd Q R=>?_⟩;{have d:p.1.num.sign<0:=Á d;unfold ao.half;rw [Ã g,Ä (.inr d)]};have d:¬p.1.num.sign<0:=Â d;unfold ao.half;rw [Ã g,Ã ω]};{have b:¬p.2.num.sign>0:=Â b;have c:¬p.2.num.sign=0:=by{simpa using c};have a:p.2.num.sign<0:=Á a;unfold ao.half;rw [Ã ω,Ä (.inl a)]};have b:¬p.2.num.sign>0:=Â b;have c:¬p.2.num.sign=0:=by{simpa using c};have a:¬p.2.num.sign<0:=Â a;omega
def ZG (q:Rat):-1<=q.num.sign/\q.num.sign<=1:=by rcases Qr3 q.num 0 with h|h|h;{rw [Qd1 h];omega};{rw [h];decide};rw [Qg2 h];omega
def Kr {a b:Rat×Rat}(h:kt V v a.1 a.2)(Z:kt V w b.1 b.2)(s1:Sz k a.1)(s2:Sz k a.2)(s3:Sz k b.1)(s4:Sz k b.2)(hk:4*k+3<2^38:=by omega):À 163 #[v,w] V λr W=>r=Ô Ŵ (ao.iB a b):=by have x:=h;have d:=Z;obtain ⟨e,f,q,i,j,l,rfl,-⟩:=h;obtain ⟨m,n,t,o,p,s,rfl,-⟩:=Z;refine Jz V _ λy z=>(Gr ra s1 s2).s ?_;rintro r V2 A rfl;refine ⟨_,rfl,λB C=>(Gr ra s3 s4).s ?_⟩;rintro r D E rfl;refine ⟨_,rfl,λg F G=>?_,λg=>⟨λc H I=>?_,λc J K=>(qV ra ra s1 s2 s3 s4 hk).s ?_⟩⟩;{unfold ao.iB;rw [Ä (Á g)]};{unfold ao.iB;rw [Ã (Â g),Ä (Á c)]};rintro r L M gc;obtain ⟨N,O,P,rfl⟩:=gc.shape;refine ⟨_,_,_,rfl,λQ R=>(eO ra (oW s1 s2 s3 s4)).s λr S u rfl=>⟨_,rfl,λT U=>?_⟩⟩;have W:=ZG (a.1*b.2-a.2*b.1);rw [ay ω];unfold ao.iB;rw [Ã (Â g),Ã (Â c)];show _=Value.int Ŵ (-(a.1*b.2-a.2*b.1).num.sign);congr 1;omega
def E9:Rat×Rat:=(0,0)
def Rx (a b:Rat×Rat):Int:=ao.iB a b
def ordCP:Ŏ Rx:=⟨ao.PI,ao.BM⟩
def o_ (V:Ó)(v:Value)(c:Rat×Rat):Prop:=kt V v c.1 c.2/\Sz 100000 c.1/\Sz 100000 c.2
def o_.le {V V':un}{c:Rat×Rat}(h:o_ V v c)(l:V.Le V'):o_ V' v c:=⟨h.1.le l,h.2⟩
def o_.shape {c:Rat×Rat}(h:o_ V v c):∃(x y:Int)(p:OA)(u z:Int)(E:OA),v=hF #[Ô Ŵ x,Ô Ŵ y,qvJ p,Ô Ŵ u,Ô Ŵ z,qvJ E]:=by obtain ⟨⟨a,b,p,d,f,q,e,-⟩,-⟩:=h;exact qyJ e
def BZ {a b:Rat×Rat}(h:o_ V v a)(u:o_ V w b):À 163 #[v,w] V λr W=>r=Ô Ŵ (Rx a b):=
 Kr h.1 u.1 h.2.1 h.2.2 u.2.1 u.2.2
def eP (a b:Rat×Rat):Bool:=ao.eP a b
def Ui {a b:Rat×Rat}(h:o_ V v a)(u:o_ V w b):À 165 #[v,w] V λr W=>r=dB (eP a b):=by have d:=h;have c:=u;obtain ⟨_,rfl⟩:=Ŷ h.shape;obtain ⟨_,rfl⟩:=Ŷ u.shape;refine tW V _ λe f=>(BZ ra ra).s λr V2 g rfl=>⟨_,rfl,λi j=>?_⟩;unfold eP ao.eP Rx;congr 1
def Uc {p:Rat×Rat}(h:kt V v p.1 p.2)(s1:Sz k p.1)(s2:Sz k p.2)(E:k<=2^40:=by omega):À 168 #[v] V λr W=>kt W r (-p.1) (-p.2):=by obtain ⟨c,d,q,e,f,g,rfl,j,l⟩:=h;refine FE V _ λm n=>(pz ra s1 E).s λr V2 o a=>RR.ex a λ_ a=>λs t=>(pz ra s2 E).s ?_;rintro r u w b;have i:=b;obtain ⟨x,y,z,rfl⟩:=b.shape;exact ⟨_,_,_,rfl,λA B=>⟨_,_,_,_,_,_,rfl,ra,ra⟩⟩
def mX (p:Rat×Rat):Rat×Rat:=(p.1*(eW p.1 p.2)⁻¹,p.2*(eW p.1 p.2)⁻¹)
def BV {p:Rat×Rat}(h:kt V v p.1 p.2)(s1:Sz k p.1)(s2:Sz k p.2)(M:8*k+8<2^38:=by omega):À 167 #[v] V λr W=>kt W r (mX p).1 (mX p).2:=by obtain ⟨d,e,q,f,g,i,rfl,m,n⟩:=id h;refine tX V _ λo s=>(lK ra ra s1 s2).s λr V2 t b=>RR.ex b λ_ b=>λu w=>(PT ra (ik s1 s2)).s ?_;rintro r x y c;have j:=c;obtain ⟨z,A,B,rfl⟩:=c.shape;refine ⟨_,_,_,rfl,λC D=>(qW ra ra (k:=k+k+1) (s1.s ω) (s2.s ω) (iG (ik s1 s2)) ω).s λr E F a=>kt.ex a λ_ _ a _ _=>λG l=>a.le l⟩
def DO (u:Bd l):Sz 1000 (ao.aD l).1/\Sz 1000 (ao.aD l).2:=⟨u.iP.2.1,u.iP.1.neg⟩
def Ve {V V':un}{P:Prop}{b:Nat}(l:V.Le V')(h:P->V.w.heap.size<=b\/V.H b):V.Le (V'.shut.aY P b):=λx o a=>by
 have c:=l x o a;refine ⟨λd=>d.elim c.1 ?_,c.2⟩;rintro ⟨e,rfl,-⟩;rcases h e with h|h
 ·have:=(Qr4.1 a.2).1;omega
 ·exact a.1 h
def Nm (k:Nat)(V:Ó)(v:Value)(c:Rat×Rat):Prop:=kt V v c.1 c.2/\Sz k c.1/\Sz k c.2
def Nm.le {V V':un}{c:Rat×Rat}(h:Nm k V v c)(l:V.Le V'):Nm k V' v c:=⟨h.1.le l,h.2⟩
def one6p {a b:Int}{c d:Int}:∀v∈([Ô Ŵ a,Ô Ŵ b,qvJ p,Ô Ŵ c,Ô Ŵ d,qvJ q]:zA um),v.oneCell'=true:=by intro v hm;simp only [ç,ě,Ì] at hm;rcases hm with rfl|rfl|rfl|rfl|rfl|rfl<;>rfl
def IH {al:zA (Rat×Rat)}(h:bP 6 (Nm k) V p n al)(hi:i<al.length):p.isSome=true/\∃(x y:Int)(q:OA)(u z:Int)(E:OA)(a:Addr),af p (i*6)=some a/\V.at (a.add 0) (Ô Ŵ x)/\V.at (a.add 1) (Ô Ŵ y)/\V.at (a.add 2) (qvJ q)/\V.at (a.add 3) (Ô Ŵ u)/\V.at (a.add 4) (Ô Ŵ z)/\V.at (a.add 5) (qvJ E)/\Nm k V (hF #[Ô Ŵ x,Ô Ŵ y,qvJ q,Ô Ŵ u,Ô Ŵ z,qvJ E]) al[i]:=by have ⟨g,d,xs,j,f,b⟩:=h.at_ i hi;have c:=f;obtain ⟨⟨x,y,q,u,z,E,e,-⟩,-⟩:=f;have e:=Æ Array.toList (Value.agg.inj e);dsimp only at e;subst e;refine ⟨?_,x,y,q,u,z,E,g,d,b 0 _ rfl,b 1 _ rfl,b 2 _ rfl,b 3 _ rfl,b 4 _ rfl,b 5 _ rfl,c⟩;(cases p with|none=>{cases d}|some a=>rfl)
def dH (V:Ó)(v:Value)(l:L3):Prop:=RL V v l.1 l.2.1 l.2.2
theorem dH.le {V V':un}(h:dH V v l)(e:V.Le V'):dH V' v l:=RL.le h e
def bN (h:dH V v l):∃(b1:ut)(u:OA)(z c1:Nat)(b2:ut)(E:OA)(F M:Nat)(b3:ut)(N:OA)(O Z:Nat),v=hF #[dB b1,yG u z c1,dB b2,yG E F M,dB b3,yG N O Z]:=by obtain ⟨_,_,_,_,_,_,_,_,_,e,-⟩:=h;exact wqQ e
def xi {xs:zA um}(h:dH V (.agg (List.toArray xs)) l):∀v∈xs,v.oneCell'=true:=by have ⟨_,_,_,_,_,_,_,_,_,_,_,_,e⟩:=bN h;have e:=Æ Array.toList (Value.agg.inj e);dsimp only at e;subst e;intro v hm;simp only [ç,ě,Ì] at hm;rcases hm with rfl|rfl|rfl|rfl|rfl|rfl<;>rfl
def SP {b:ut}{b':ut}{M:OA}{n':Nat}{u:ut}{z:OA}{E F:Nat}:∀v∈([dB b,yG p n c,dB b',yG M n' c',dB u,yG z E F]:zA um),v.oneCell'=true:=by intro v hm;simp only [ç,ě,Ì] at hm;rcases hm with rfl|rfl|rfl|rfl|rfl|rfl<;>rfl
def nD:∀(t:Tr) {V:un} {p:OA},RW V p t->t.size<=1000000->À 33 #[qvJ p] V λr W=>∃q n c,r=yG q n c/\bP 6 dH W q n t.cQ
 | .leaf i,V,p,h,hs=>by
  obtain ⟨s,e0,-⟩:=m_ h;exact sR V _ ⟨s,s,_,e0,λ_ V1 l1=>⟨_,_,_,rfl,bP.nil⟩,π⟩
 | .node ln a b,V,p,h,hs=>by
  have h0:=h;obtain ⟨l,i,b1,o,u,w,b2,x,y,z,b3,A,B,C,pl,O,rfl,k,Y,Z,D⟩:=h
  have E:∀j v,([dB false,dB i,dB b1,yG o u w,dB b2,yG x y z,dB b3,yG A B C,qvJ pl,qvJ O]:zA um)[j]?=some v->V.at ((⟨l,0,none⟩:Addr).add j) v:=by
   intro j v e;rw [add_zero'];exact dM (xs:=[_,_,_,_,_,_,_,_,_,_]) k e
  have d:∀j v,([dB b1,yG o u w,dB b2,yG x y z,dB b3,yG A B C]:zA um)[j]?=some v->V.at (((⟨l,0,none⟩:Addr).add 2).add j) v:=by
   intro j v e;rw [HK];refine E (2+j) v ?_;have hj:j<6:=(đ.1 e).1
   match j,hj,e with
   | 0,_,h=>exact h
   | 1,_,h=>exact h
   | 2,_,h=>exact h
   | 3,_,h=>exact h
   | 4,_,h=>exact h
   | 5,_,h=>exact h
  simp only [Tr.size] at hs;have la:=kY a;have lb:=kY b;refine sR V _ ⟨rfl,rfl,false,yR k 0 rfl,π,λ_=>⟨rfl,rfl,_,_,_,_,_,_,_,_,_,_,_,_,(⟨l,0,none⟩:Addr).add 2,rfl,d 0 _ rfl,d 1 _ rfl,d 2 _ rfl,d 3 _ rfl,d 4 _ rfl,d 5 _ rfl,rfl,rfl,pl,yR k 8 rfl,rfl,rfl,O,yR k 9 rfl,λV2 F=>(nD a (Z.le F) ω).s ?_⟩⟩;rintro r V3 P ⟨q,n,c,rfl,g⟩;obtain rfl:=g.len;obtain ⟨xs,x1,G,Q⟩:=cW g φ
  have oc:∀v∈xs,v.oneCell'=true:=λv e=>by obtain ⟨m,hm,rfl⟩:=Qb5.1 e;exact gK Q φ (λ_ _=>xi) ω (ñ hm)
  have r1:è 6 dH V3 ([dB b1,yG o u w,dB b2,yG x y z,dB b3,yG A B C]:zA um) [ln]:=row_one rfl (Y.le (F.m P));refine ⟨_,_,_,rfl,xs,x1,G,ω,Ù _,Ù 6,G,oc,λbk J sp c' h1 h2 V4 H=>(nD b (D.le (F.m (P.m H))) ω).s ?_⟩;rintro r V5 R ⟨q',n',a0,rfl,S⟩;obtain rfl:=S.len;have ⟨T,y1,U,I⟩:=cW S φ
  have K:∀v∈T,v.oneCell'=true:=λv e=>by obtain ⟨m,hm,rfl⟩:=Qb5.1 e;exact gK I φ (λ_ _=>xi) ω (ñ hm)
  have W:=eI (sp:=sp) r1 Q φ;have f:([ln]++a.cQ).length=1+a.cQ.length:=by simp;omega
  have r3:=eI (sp:=[]) (W.le λ_ _ g=>dH.le g (H.m R)) I φ;rw [f] at r3;refine ⟨_,_,_,rfl,T,y1,U,ω,h1,?_,U,K,λa1 J2 L a2 h3 h4 V6 l6 PO M=>⟨_,_,_,rfl,?_⟩⟩
  ·simp only [í,ë,Ċ,Ŀ,G];omega
  ·have X:=eI (sp:=L) (W.le λ_ _ g=>dH.le g (H.m R)) I φ;rw [f] at X;have:=bP.fX M (X.le λ_ _ g=>dH.le g l6);have N:([ln]++a.cQ++b.cQ).length=1+a.cQ.length+b.cQ.length:=by{rw [í,f]};rw [N] at this;exact this
def Y0 {al:zA L3}(h:bP 9 qt V p n al)(hi:i<al.length):p.isSome=true/\∃(u z:Int)(E:OA)(F M:Int)(N:OA)(O Z:Int)(q3:OA)(a:Addr),af p (i*9)=some a/\V.at (a.add 0) (Ô Ŵ u)/\V.at (a.add 1) (Ô Ŵ z)/\V.at (a.add 2) (qvJ E)/\V.at (a.add 3) (Ô Ŵ F)/\V.at (a.add 4) (Ô Ŵ M)/\V.at (a.add 5) (qvJ N)/\V.at (a.add 6) (Ô Ŵ O)/\V.at (a.add 7) (Ô Ŵ Z)/\V.at (a.add 8) (qvJ q3)/\qt V (hF #[Ô Ŵ u,Ô Ŵ z,qvJ E,Ô Ŵ F,Ô Ŵ M,qvJ N,Ô Ŵ O,Ô Ŵ Z,qvJ q3]) al[i]:=by have ⟨f,c,xs,g,d,b⟩:=h.at_ i hi;obtain ⟨_,_,_,_,_,_,_,_,_,e⟩:=d.shape;have e:=Æ Array.toList (Value.agg.inj e);subst e;refine ⟨?_,_,_,_,_,_,_,_,_,_,f,c,b 0 _ rfl,b 1 _ rfl,b 2 _ rfl,b 3 _ rfl,b 4 _ rfl,b 5 _ rfl,b 6 _ rfl,b 7 _ rfl,b 8 _ rfl,d⟩;(cases p with|none=>{cases c}|some a=>rfl)
def er (V:Ó)(v:Value)(c:Rat×Rat):Prop:=RP V v c.1 c.2
def er.le {V V':un}{c:Rat×Rat}(h:er V v c)(l:V.Le V'):er V' v c:=RP.le h l
theorem er.shape {c:Rat×Rat}(h:er V v c):∃(b:ut)(p:OA)(n c:Nat)(u:OA)(n' c':Nat)(d:ut)(q:OA)(m e:Nat)(z:OA)(E F:Nat),v=hF #[dB b,yG p n c,yG u n' c',dB d,yG q m e,yG z E F]:=by obtain ⟨p,n,c,u,n',c',q,m,e,z,E,F,h,-⟩:=h;grind
def er.ex {r:um}{x:Rat×Rat}{K:ut->OA->Nat->Nat->OA->Nat->Nat->ut->OA->Nat->Nat->OA->Nat->Nat->Prop}(g:er V r x)(h:∀t u:OA×Nat×Nat×OA×Nat×Nat,er V (hF #[dB (decide (x.1.num<0)),yG t.1 t.2.1 t.2.2.1,yG t.2.2.2.1 t.2.2.2.2.1 t.2.2.2.2.2,dB (decide (x.2.num<0)),yG u.1 u.2.1 u.2.2.1,yG u.2.2.2.1 u.2.2.2.2.1 u.2.2.2.2.2]) x ->K (decide (x.1.num<0)) t.1 t.2.1 t.2.2.1 t.2.2.2.1 t.2.2.2.2.1 t.2.2.2.2.2 (decide (x.2.num<0)) u.1 u.2.1 u.2.2.1 u.2.2.2.1 u.2.2.2.2.1 u.2.2.2.2.2):∃b p n c z n' c' d q m e E F M,r=hF #[dB b,yG p n c,yG z n' c',dB d,yG q m e,yG E F M]/\K b p n c z n' c' d q m e E F M:=RP.ex g λt u k _ _=>h t u k
def IE {R:un->um->Rat×Rat->Prop}(sh:∀{V v c},R V v c->∃(b:ut)(p:OA)(n c:Nat)(p':OA)(n' c':Nat)(d:ut)(q:OA)(m e:Nat)(q':OA)(m' e':Nat),v=hF #[dB b,yG p n c,yG p' n' c',dB d,yG q m e,yG q' m' e']) {al:zA (Rat×Rat)}(h:bP 6 R V p n al)(hi:i<al.length):p.isSome=true/\∃(b1:ut)(u:OA)(z c1:Nat)(E:OA)(F M:Nat)(b2:ut)(N:OA)(O Z:Nat)(p4:OA)(n4 c4:Nat)(a:Addr),af p (i*6)=some a/\V.at (a.add 0) (dB b1)/\V.at (a.add 1) (yG u z c1)/\V.at (a.add 2) (yG E F M)/\V.at (a.add 3) (dB b2)/\V.at (a.add 4) (yG N O Z)/\V.at (a.add 5) (yG p4 n4 c4)/\R V (hF #[dB b1,yG u z c1,yG E F M,dB b2,yG N O Z,yG p4 n4 c4]) al[i]:=by have ⟨k,g,xs,l,j,f⟩:=h.at_ i hi;have ⟨_,_,_,_,_,_,_,_,_,_,_,_,_,_,e⟩:=sh j;have e:=Æ Array.toList (Value.agg.inj e);subst e;refine ⟨?_,_,_,_,_,_,_,_,_,_,_,_,_,_,_,k,g,f 0 _ rfl,f 1 _ rfl,f 2 _ rfl,f 3 _ rfl,f 4 _ rfl,f 5 _ rfl,j⟩;(cases p with|none=>{cases g}|some a=>rfl)
def nW (V:Ó)(v:Value)(c:Rat×Rat):Prop:=Tq V v c.1 c.2
def nW.le {V V':un}{c:Rat×Rat}(h:nW V v c)(l:V.Le V'):nW V' v c:=Tq.le h l
def VM {b:ut}{u:OA}{n':Nat}{d:ut}{m e:Nat}{z:OA}{E F:Nat}:∀v∈([dB b,yG p n c,yG u n' c',dB d,yG q m e,yG z E F]:zA um),v.oneCell'=true:=by intro v hm;simp only [ç,ě,Ì] at hm;rcases hm with rfl|rfl|rfl|rfl|rfl|rfl<;>rfl
def nW.shape {c:Rat×Rat}(h:nW V v c):∃(b:ut)(p:OA)(n c:Nat)(u:OA)(n' c':Nat)(d:ut)(q:OA)(m e:Nat)(z:OA)(E F:Nat),v=hF #[dB b,yG p n c,yG u n' c',dB d,yG q m e,yG z E F]:=by obtain ⟨_,_,_,_,_,_,_,_,_,_,_,_,_,_,h,-⟩:=h;exact qxW h
theorem OY {R:un->um->Rat×Rat->Prop}(sh:∀{V v c},R V v c->∃(b:ut)(p:OA)(n c:Nat)(p':OA)(n' c':Nat)(d:ut)(q:OA)(m e:Nat)(q':OA)(m' e':Nat),v=hF #[dB b,yG p n c,yG p' n' c',dB d,yG q m e,yG q' m' e']) {al:zA (Rat×Rat)}(h:è 6 R V vs al)(hi:i<al.length):∃(b1:ut)(u:OA)(z c1:Nat)(E:OA)(F M:Nat)(b2:ut)(N:OA)(O Z:Nat)(p4:OA)(n4 c4:Nat),i*6+6<=vs.length/\(vs.drop (i*6)).take 6=[dB b1,yG u z c1,yG E F M,dB b2,yG N O Z,yG p4 n4 c4]/\R V (hF #[dB b1,yG u z c1,yG E F M,dB b2,yG N O Z,yG p4 n4 c4]) al[i]:=by have ⟨xs,f,a,g⟩:=h.at_ i hi;have k:=h.eH φ;have ⟨_,_,_,_,_,_,_,_,_,_,_,_,_,_,e⟩:=sh a;have e:=Æ Array.toList (Value.agg.inj e);subst e;refine qxW ⟨ω,?_,a⟩;apply Qh1;intro j;rw [Ĳ];split;{grind};grind
def HY {q:Rat}(h:RA V v q)(u:Sz k q)(z:k<=2^38:=by omega):À 89 #[v] V λr W=>RQ W r q:=by obtain ⟨b,xs,d,a,-,e,c⟩:=RE.raw (no:=false) ⟨π,λ_=>h⟩ (λh=>nomatch h);have ⟨f,g⟩:=c k u;rw [<-e];exact GD a ω
def ke (x:L3):List L3->List L3
 | []=>[x]
 | y::r=>if j9 y x<0 then y::ke x r else if y=x then y::r else x::y::r
theorem YI:∀(o:zA L3)(k:Nat),k<=o.length->(∀j (h:j<o.length),j<k->j9 o[j] x<0)->(∀h:k<o.length,¬j9 o[k] x<0) ->ke x o=if (∃h:k<o.length,o[k]=x) then o else o.take k++x::o.drop k:=by
 intro o
 induction o with
 | nil=>
  intro k d _ _;simp [ke]
 | cons y r u=>
  intro k d a b
  cases k with
  | zero=>
   have c:¬j9 y x<0:=b ψ;unfold ke;rw [Ã c];by_cases e:y=x
   ·rw [Ä e,Ä ⟨ψ,e⟩]
   grind
  | succ k=>
   have c:j9 y x<0:=a 0 ψ ω;unfold ke;rw [Ä c,u k (by simpa using d) (λj h i=>a (j+1) (by simpa using h) ω) (λh=>b (by simpa using h))];by_cases e:∃h:k<r.length,r[k]=x
   ·obtain ⟨f,g⟩:=e;rw [Ä ⟨f,g⟩,Ä ⟨by simpa using f,g⟩]
   grind
def bq (l:List L3):List L3:=l.foldl (λo x=>ke (bF x) o) []
theorem NW {l:zA L3}(h:i<l.length):bq (l.take (i+1))=ke (bF l[i]) (bq (l.take i)):=by grind [bq,List.take_add_one]
theorem CI (x:L3):∀o:zA L3,(ke x o).length<=o.length+1
 | []=>by simp [ke]
 | y::r=>by
  have:=CI x r;grind [ke]
theorem GO (l:zA L3):(bq l).length<=l.length:=by
 have:∀(l o:zA L3),(l.foldl (λo x=>ke (bF x) o) o).length<=o.length+l.length:=by
  intro l
  induction l with
  | nil=>intro o;simp
  | cons x r u=>
   intro o;have a:=u (ke (bF x) o);have b:=CI (bF x) o;grind
 grind [bq]
def rL (a b:L3):Prop:=j9 a b<0
theorem Vm {c:L3}(h:rL a b)(u:rL b c):rL a c:=by unfold rL at *;rw [wg] at *;omega
theorem lt_as (h:rL a b)(u:rL b a):False:=by unfold rL at *;rw [wg] at *;omega
theorem wP (h:rL a a):False:=lt_as h h
theorem Qq (h:¬rL a b)(hne:a≠b):rL b a:=by grind [rL,wg]
theorem HQ:∀{l m:zA L3},l.Pairwise rL->m.Pairwise rL->(∀x,x∈l↔x∈m)->l=m
 | [],[],_,_,_=>rfl
 | [],b::m,_,_,h=>by have:=(h b).2 ψ;cases this
 | a::l,[],_,_,h=>by have:=(h a).1 ψ;cases this
 | a::l,b::m,u,z,h=>by
  have ⟨g,c⟩:=į.1 u;have ⟨i,d⟩:=į.1 z;have e:a=b:=by rcases ç.1 ((h a).1 ψ) with e|e<;>grind [lt_as]
  subst e;rw [HQ c d λx=>⟨λf=>?_,λf=>?_⟩]
  ·grind [wP]
  grind [wP]
theorem wK {y:L3}:∀{o:zA L3},y∈ke x o↔y=x\/y∈o
 | []=>by simp [ke]
 | z::r=>by
  unfold ke;split
  ·simp only [ç,wK (o:=r)];grind
  grind
theorem CH:∀{o:zA L3},o.Pairwise rL->(ke x o).Pairwise rL
 | [],_=>Qf5 _ _
 | z::r,h=>by
  have ⟨u,E⟩:=į.1 h;unfold ke;split
  ·rename_i b;refine į.2 ⟨λy a=>?_,CH E⟩;rcases wK.1 a with rfl|a
   ·exact b
   ·exact u y a
  grind [rL,Qq,List.pairwise_cons.2,Vm]
theorem iD (l:zA L3):(bq l).Pairwise rL/\∀x,x∈bq l↔x∈l.map bF:=by
 have:∀(l o:zA L3),o.Pairwise rL->(l.foldl (λo x=>ke (bF x) o) o).Pairwise rL/\∀x,x∈l.foldl (λo x=>ke (bF x) o) o↔x∈o\/x∈l.map bF:=by
  intro l
  induction l with
  | nil=>intro o h;exact ⟨h,λx=>ψ⟩
  | cons y r u=>
   intro o h;have ⟨a,b⟩:=u (ke (bF y) o) (CH h);refine ⟨a,λx=>?_⟩;rw [Ť,b x,wK,Ĺ,ç];grind
 grind [List.Pairwise.nil,bq]
theorem KH:∀{r:zA L3} {p:L3},(p::r).Pairwise (λx y=>¬Xp y x<0)->(pO eL p r).Pairwise rL/\(∀x∈pO eL p r,rL p x)/\∀x,x∈p::pO eL p r↔x∈p::r
 | [],p,_=>⟨List.Pairwise.nil,(λx h=>by cases h),λx=>Iff.rfl⟩
 | a::r,p,h=>by
  have ⟨u,z⟩:=į.1 h;have ⟨i1,i2,i3⟩:=KH z;unfold pO;by_cases e:a=p
  ·subst e;have:eL a a=true:=by simp [eL]
   grind
  ·have:eL a p=false:=by simp [eL,e]
   rw [this];have b:=Qq (u a ψ) e;grind [List.pairwise_cons.2,Vm]
def Um {m:zA L3}(h:m.Pairwise (λx y=>¬Xp y x<0)):(fh eL m).Pairwise rL/\∀x,x∈fh eL m↔x∈m:=by (cases m with|nil=>exact ⟨List.Pairwise.nil,λx=>Iff.rfl⟩|cons p r=>{have ⟨a,b,c⟩:=KH h;exact ⟨į.2 ⟨b,a⟩,c⟩})
def Vi {l m:zA L3}(h:sortL (l.map bF) m):fh eL m=bq l:=by
 have ⟨a,b⟩:=Um h.2;have ⟨c,d⟩:=iD l;exact HQ a c λx=>by rw [b x,d x];exact h.1.mem_iff
theorem Jd (h:è 6 dH V vs ls)(hi:i<ls.length):∃b1 u z c1 b2 E F M b3 N O Z,i*6+6<=vs.length/\(vs.drop (i*6)).take 6=[Value.bool b1,yG u z c1,dB b2,yG E F M,dB b3,yG N O Z]/\dH V (hF #[dB b1,yG u z c1,dB b2,yG E F M,dB b3,yG N O Z]) ls[i]:=by have ⟨xs,b,a,c⟩:=h.at_ i hi;have d:=h.eH φ;have ⟨_,_,_,_,_,_,_,_,_,_,_,_,e⟩:=bN a;have e:=Æ Array.toList (Value.agg.inj e);subst e;refine wqQ ⟨ω,?_,a⟩;apply Qh1;intro j;rw [Ĳ];split;{grind};grind
def EX (h:dH V v l):À 80 #[v] V λr W=>∃w b,r=å #[w,dB b]/\dH W w (bF l):=by have m:=h;obtain ⟨n,o,p,q,s,t,u,x,y,rfl,E,F,G⟩:=h;have rev:∀(f:un),V.Le f->(l.1<0\/l.1=0/\l.2.1<0)->À 67 #[hF #[dB (decide (l.1<0)),yG n o p,dB (decide (l.2.1<0)),yG q s t,dB (decide (l.2.2<0)),yG u x y]] f λr W=>dH W r (bF l):=λf k hc=>by{refine (j7 (a:=l.1) (b:=l.2.1) (c:=l.2.2) (m.le k)).s ?_;rintro r z A g;unfold bF;rw [Ä hc];exact g};refine Ek V _ λH I=>(pK l.1 ra).s ?_;rintro r V2 J rfl;refine ⟨_,rfl,λhc f k=>(rev f aA (.inl (Ww0.1 (Á hc)))).s ?_,λhc=>⟨λj K L=>(pK l.2.1 ra).s ?_,λd M N=>?_⟩⟩;{rintro r z A g;have O:=g;obtain ⟨_,rfl⟩:=Ÿ (bN g);exact wqQ ⟨rfl,λP Q=>⟨_,_,rfl,ra⟩⟩};{have B:=Qm8.1 (by simpa using j);rintro r R S rfl;refine ⟨_,rfl,λi C T=>(rev C aA (.inr ⟨B,Ww0.1 (Á i)⟩)).s ?_,λi U W=>⟨_,_,rfl,?_⟩⟩;{rintro r X Y g;obtain ⟨_,rfl⟩:=Ÿ (bN g);exact wqQ ⟨rfl,λZ D=>⟨_,_,rfl,ra⟩⟩};have i:=Â i;unfold bF;rw [Ã λh=>i (Ww0.2 (h.elim (λh=>ω) (·.2)))];exact ra};have hc:=Â hc;have d:¬l.1=0:=λe=>by{rw [e] at d;simp at d};refine ⟨_,_,rfl,?_⟩;unfold bF;rw [Ã λh=>h.elim (λh=>hc (Ww0.2 h)) (λh=>d h.1)];exact ra
set_option maxHeartbeats 1000000 in
theorem mN (h:bP 6 dH V p n ls)(hn:ls.length<100000000)(hs:∀l∈ls,Bd l):À 32 #[yG p n c] V λr W=>∃q m e,r=yG q m e/\bP 6 dH W q m (bq ls)/\m<=e:=by
 obtain rfl:=h.len
 refine xP V _ ⟨λz V'=>∃i:Nat,z.2.2.2=(i:Int)/\i<=ls.length/\GR 6 dH V' z.1 z.2.1 z.2.2.1 (bq (ls.take i)),λz=>ls.length-z.2.2.2.toNat,
  ⟨(0,0,[],0),σ,0,rfl,ä _,GR.nil⟩,?_⟩
 rintro ⟨C,w2,us,z4⟩ V1 l1 ⟨i,X,Xu,k⟩;dsimp only at X k;subst X;have Y:=k.len;have D:=k.le;have Z:=k.cap;have s:=k.row;refine ⟨rfl,λa=>?_,λa ji fk bk hb=>?_⟩;rotate_left
 ·grind [bP.bR,s.le,dH.le]
 have a:(i:Int)<ls.length:=Á a;have t:i<ls.length:=ω
 have w:Ŵ.wrap ((i:Int)+1)=((i+1:Nat):Int):=by rw [ay ω];rfl
 dsimp only;rw [Ý,w];refine ldL bN (h.le l1) t λ_ _ _ _ _ _ _ _ _ _ _ _ hf=>?_;have Yw:=NW t;have u:=(hs _ (ú t)).can
 have a0:(bq (ls.take i)).length<100000000:=by have:=GO (ls.take i);rw [ë] at this;omega
 have v:∀q∈bq (ls.take i),Bd q:=λq E=>by obtain ⟨y,hy,rfl⟩:=þ.1 ((iD _).2 q |>.1 E);exact (hs y (Qn7 hy)).can
 clear k;generalize bq (ls.take i)=O at *;refine λV2 l2=>(EX ra).s ?_;generalize bF ls[i]=x at *;rintro r V3 l3 ⟨wv,bc,rfl,E⟩;have A:=E;obtain ⟨eb,ep,en,ec,fb,fp,fn,fe,gb,gp,gn,gc,rfl⟩:=bN E;refine ⟨_,_,_,_,_,_,_,_,_,_,_,_,_,rfl,λz _=>∃j:Nat,z=(j:Int)/\j<=O.length/\∀(o:Nat)(h:o<O.length),o<j->j9 O[o] x<0,λz=>O.length-z.toNat,⟨0,σ,0,rfl,ä _,λo _ h=>Å h (ţ o)⟩,?_⟩;rintro z V4 l4 ⟨j,rfl,yH,jl⟩;have wj:Ŵ.wrap ((j:Int)+1)=((j+1:Nat):Int):=by rw [ay ω];rfl
 rw [Ý,wj];refine ⟨rfl,λz _=>z=true↔∃h:j<O.length,j9 O[j] x<0,⟨λa=>?_,λa=>⟨false,σ,?_⟩⟩,?_⟩
 ·have a:=Á a;have d:j<O.length:=ω;obtain ⟨b1,F,G,H,b2,I,K,L,b3,M,N,P,Q,R,S⟩:=Jd s d;refine ⟨ų,D,b1,F,G,H,b2,I,K,L,b3,M,N,P,⟨Q,R⟩,λV5 l5=>(mM (S.le aA) (A.le aA) (v _ (ú d)).iP u.iP).s λr V6 l6 rfl=>⟨_,rfl,_,σ,by dsimp only;rw [Ñ];exact ⟨λh=>⟨d,h⟩,λ⟨_,h⟩=>h⟩⟩⟩
 ·have a:=Â a;exact ⟨π,λ⟨h,_⟩=>Å h ω⟩
 rintro z V7 l7 U1;refine ⟨rfl,λf=>?_,λf=>?_⟩
 ·have ⟨d,a1⟩:=U1.1 f;refine ⟨((j+1:Nat):Int),ω,σ,j+1,rfl,d,λo h a2=>?_⟩<;>grind
 have T:∀h:j<O.length,¬j9 O[j] x<0:=λh B=>by have:=U1.2 ⟨h,B⟩;rw [f] at this;cases this
 have b:=YI O j yH jl T;refine ⟨λz _=>z=true↔¬∃h:j<O.length,O[j]=x,⟨λhe=>⟨true,σ,?_⟩,λhe=>?_⟩,?_⟩
 ·have he:(j:Int)=(C:Int):=by{simpa using he};exact ⟨λ_ ⟨h,_⟩=>Å h ω,λ_=>rfl⟩
 ·have he:¬(j:Int)=(C:Int):=by{simpa using he};have d:j<O.length:=ω;obtain ⟨b1,F,G,H,b2,I,K,L,b3,M,N,P,Q,R,S⟩:=Jd s d;refine ⟨ų,D,b1,F,G,H,b2,I,K,L,b3,M,N,P,⟨Q,R⟩,λV8 l8=>(mM (S.le aA) (A.le aA) (v _ (ú d)).iP u.iP).s λr V9 l9 rfl=>⟨_,rfl,_,σ,by dsimp only;rw [bne_iff_ne,ne_eq,Ie];exact ⟨λh ⟨_,B⟩=>h B,λh B=>h ⟨d,B⟩⟩⟩⟩
 rintro z fD a3 CG;refine ⟨rfl,λf eX dq bk hb J=>?_,λf=>?_⟩
 ·have U:=CG.1 f;rw [Ã U] at b;obtain ⟨xs,ys,x1,x2,x3,y1,y2,y3,r1,r2,r3,r4,r5⟩:=Bo (V:=eX) (GR.s ⟨Y,D,Z,s⟩ λ_ _ g=>dH.le g aA) φ (λ_ _=>xi) hb (es:=[_,_,_,_,_,_]) rfl ra (j:=j);refine ⟨ų,ų,ų,xs,x1,x2,ω,Ù _,Ù 6,x2,x3,λa4 J2 sp c' h1 h2=>?_⟩;show ∃_,_;rw [r1,r2];refine ⟨ys,y1,y2,Ù _,y3,ω,ω,r3,r4,λa5 W h3 h4=>⟨(j+(1+(C-j)),W,_,((i+1:Nat):Int)),ω,Ų,i+1,rfl,t,?_⟩⟩;show GR 6 dH _ _ _ _ (bq (ls.take (i+1)));grind
 ·have hex:=Qv0 λh=>by{have:=CG.2 h;rw [f] at this;cases this};rw [Ä hex] at b;refine ⟨(C,w2,us,((i+1:Nat):Int)),ω,σ,i+1,rfl,t,?_⟩;show GR 6 dH _ _ _ _ (bq (ls.take (i+1)));rw [Yw,b];exact ⟨Y,D,Z,s.le λ_ _ g=>dH.le g aA⟩
def Cg {t:Tr}(h:RW V p t)(z:t.dG lG)(E:t.size<=1000000):À 8 #[qvJ p] V λr W=>∃q n c,r=yG q n c/\bP 6 dH W q n (bq t.cQ)/\n<=c:=by refine EA V _ λj a=>(nD t (h.le a) E).s ?_;rintro r V2 k ⟨q,n,c,rfl,g⟩;refine ⟨_,_,_,rfl,λo b=>(mN (g.le b) (by rw [kY];omega) λl d=>(jS z l d).2).s ?_⟩;rintro r s u ⟨v,m,e,rfl,f,hc⟩;exact ⟨_,_,_,rfl,λw i=>⟨_,_,_,rfl,f.le i,hc⟩⟩
def uk {t:Tr}(h:RW V p t)(u:t.dG lG)(z:t.size<=1000000:=by omega):À 8 #[qvJ p] V λr W=>∃q n c,r=yG q n c/\bP 6 dH W q n (bq t.cQ):=
 (Cg h u z).s λ_ _ _ ⟨q,n,c,e,g,_⟩=>⟨q,n,c,e,g⟩
def H8 {A:zA (Rat×Rat)}(h:bP 6 er V p n A)(hn:A.length<=1000000){k:Nat}(hs:∀x∈A,Sz k x.1/\Sz k x.2)(hk:k<=2^40:=by omega):À 126 #[yG p n c] V λr W=>∃q m e,r=yG q m e/\bP 6 nW W q m A:=by obtain rfl:=h.len;refine FR V _ (Cz (λj z V'=>GR 6 nW V' z.1 z.2.1 z.2.2.1 (A.take j)) (0,0,[],0) σ rfl GR.nil ?_);rintro j ⟨o,F,G,H⟩ I s f J a;dsimp only at f a;subst f;have t:=a.len;rw [ë] at t;refine ⟨λb=>?_,λb K u L v=>?_⟩;{have d:=b;have w:Ŵ.wrap ((j:Int)+1)=((j+1:Nat):Int):=ŵ;dsimp only;rw [Ý,w];refine ldP er.shape (h.le s) d λb1 M N O P Q R b2 S T U W X Y g=>?_;have ⟨s1,s2⟩:=hs _ (ú d);refine λV2 y=>(j8 (g.le y) s1 s2 hk).s ?_;rintro r i Z B;have l:nW i r A[j]:=B;obtain ⟨_,rfl⟩:=Ź l.shape;refine qxW ⟨rfl,ω,a.le,a.cap,rfl,VM,λsp C D E=>⟨(o+1,C,_,((j+1:Nat):Int)),ω,σ,j+1,rfl,d,?_⟩⟩;dsimp only;rw [ł,ñ d];exact (a.up (V':=i) aA).snoc rfl l φ D E};subst b;rw [Ī] at a;obtain rfl:=a.len;exact ⟨_,_,_,rfl,bP.bR v (a.row.le λ_ _ g=>nW.le g u) φ a.le⟩
def ou {q:Rat}(h:RQ V v q):À 48 #[v] V λr W=>r=Ô Ŵ q.num.sign:=by obtain ⟨_,rfl,a,-⟩:=Ŷ h;exact sW q a
def vY {p:Rat×Rat}(h:RP V v p.1 p.2):À 230 #[v] V λr W=>r=Ô Ŵ (ao.half p):=by obtain ⟨_,rfl,o,q⟩:=Ÿ h;refine FU V _ λs t=>(ou ra).s ?_;rintro r V2 u rfl;refine ⟨_,rfl,λw x=>(ou ra).s ?_⟩;rintro r y A rfl;have key:∀z:Int,(z=if p.2.num.sign>0\/p.2.num.sign=0/\p.1.num.sign>0 then 1 else if p.2.num.sign<0\/p.1.num.sign<0 then 2 else 0)->Value.int Ŵ z=Ô Ŵ (ao.half p):=λz e=>by{rw [e];rfl};refine ⟨_,rfl,λa=>?_,λa=>?_⟩;{have a:p.1.num.sign=0:=by{simpa using a};refine ⟨λb B C=>key _ ?_,λb=>⟨λc f g=>key _ ?_,λc=>⟨λd=>⟨λe i j=>key _ ?_,λe k l=>key _ ?_⟩,λd m n=>key _ ?_⟩⟩⟩;{have b:p.2.num.sign=0:=by{simpa using b};rw [Ã ω,Ã ω]};{have c:=Á c;rw [Ä (.inl c)]};{have b:¬p.2.num.sign=0:=by{simpa using b};have d:p.2.num.sign=0:=by{simpa using d};exact Å d b};{have b:¬p.2.num.sign=0:=by{simpa using b};have d:p.2.num.sign=0:=by{simpa using d};exact Å d b};have b:¬p.2.num.sign=0:=by{simpa using b};have c:=Â c;rw [Ã ω,Ä ω]};have a:¬p.1.num.sign=0:=by{simpa using a};refine ⟨λc f g=>key _ ?_,λc=>⟨λd=>⟨λe i j=>key _ ?_,λe k l=>key _ ?_⟩,λd m n=>key _ ?_⟩⟩;{have c:=Á c;rw [Ä (.inl c)]};{have d:p.2.num.sign=0:=by{simpa using d};have e:=Á e;rw [Ä (.inr ⟨d,e⟩)]};{have d:p.2.num.sign=0:=by{simpa using d};have e:=Â e;rw [Ã ω,Ä ω]};have d:¬p.2.num.sign=0:=by{simpa using d};have c:=Â c;rw [Ã ω,Ä ω]
def sign_b (q:Rat):-1<=q.num.sign/\q.num.sign<=1:=by rcases Qr3 q.num 0 with h|h|h;{rw [Qd1 h];omega};{rw [h];decide};rw [Qg2 h];omega
def EW {a b:Rat×Rat}(h:RP V v a.1 a.2)(M:RP V w b.1 b.2)(s1:Sz k a.1)(s2:Sz k a.2)(s3:Sz k b.1)(s4:Sz k b.2)(N:4*k+4<2^38:=by omega):À 184 #[v,w] V λr W=>r=Ô Ŵ (ao.iB a b):=by have f:=h;have d:=M;obtain ⟨_,rfl,-⟩:=Ÿ h;obtain ⟨_,rfl,-⟩:=Ÿ M;refine Ej V _ λi j=>(vY ra).s ?_;rintro r V2 l rfl;refine ⟨_,rfl,λm n=>(vY ra).s ?_⟩;rintro r o p rfl;refine ⟨_,rfl,λg=>⟨λc q s=>?_,λc t u=>?_⟩,λg x y=>(jM ra ra s1 s2 s3 s4 N).s ?_⟩;{unfold ao.iB;rw [Ä (Á c)]};{have g:ao.half a≠ao.half b:=by{simpa using g};have c:=Â c;unfold ao.iB;rw [Ã c,Ä ω]};have g:ao.half a=ao.half b:=by{simpa using g};rintro r z A gc;obtain ⟨_,rfl⟩:=Ŷ gc.shape;refine qxQ ⟨rfl,λB C=>(ou ra).s λr D e rfl=>⟨_,rfl,λE F=>?_⟩⟩;have G:=sign_b (a.1*b.2-a.2*b.1);rw [ay ω];unfold ao.iB;rw [Ã ω,Ã ω];show _=Value.int Ŵ (-(a.1*b.2-a.2*b.1).num.sign);congr 1;omega
def IG {al:zA L3}(h:bP 6 dH V p n al)(hi:i<al.length):p.isSome=true/\∃(b1:ut)(u:OA)(z c1:Nat)(b2:ut)(E:OA)(F M:Nat)(b3:ut)(N:OA)(O Z:Nat)(a:Addr),af p (i*6)=some a/\V.at (a.add 0) (dB b1)/\V.at (a.add 1) (yG u z c1)/\V.at (a.add 2) (dB b2)/\V.at (a.add 3) (yG E F M)/\V.at (a.add 4) (dB b3)/\V.at (a.add 5) (yG N O Z)/\dH V (hF #[dB b1,yG u z c1,dB b2,yG E F M,dB b3,yG N O Z]) al[i]:=by have ⟨f,c,xs,g,d,b⟩:=h.at_ i hi;have ⟨_,_,_,_,_,_,_,_,_,_,_,_,e⟩:=bN d;have e:=Æ Array.toList (Value.agg.inj e);subst e;refine ⟨?_,_,_,_,_,_,_,_,_,_,_,_,_,f,c,b 0 _ rfl,b 1 _ rfl,b 2 _ rfl,b 3 _ rfl,b 4 _ rfl,b 5 _ rfl,d⟩;(cases p with|none=>{cases c}|some a=>rfl)
def Jq {m:L3}(sl:jg k l)(sm:jg k m):Sz (20*k+20) (meX l m)/\Sz (20*k+20) (meY l m):=by obtain ⟨a,b,c⟩:=sl;obtain ⟨b1,b2,b3⟩:=sm;exact ⟨(Sz.mul ((b.mul b3).sub (c.mul b2)) (iG ((a.mul b2).sub (b.mul b1)))).s ω,(Sz.mul ((c.mul b1).sub (a.mul b3)) (iG ((a.mul b2).sub (b.mul b1)))).s ω⟩
theorem Co {q:L3->Prop}(u:∀l,q l->q (bF l))(h:∀l∈ls,q l):∀l∈bq ls,q l:=λl a=>by grind [iD]
def nz_can (h:Nz l):Nz (bF l):=by unfold bF;split;{unfold Nz Õ at *;intro ⟨a,b⟩;exact h ⟨by simpa using a,by simpa using b⟩};exact h
def H6 {V:un}{tb:Nat}{lp:OA}{at_:Int}(hr:JV V lp n)(hn:n<=400)(hw:gY V tb lp n c at_)(hx:V.X tb)(h0:0<=at_){t:Tr}(h:RW V q t)(ha:t.dG lG)(hs:t.size<=1000:=by omega):À 17 #[qvJ (some ⟨tb,0,none⟩),qvJ q] V λr W=>∃(p:Rat×Rat)(at':Int),RP W r p.1 p.2/\Sz 60000 p.1/\Sz 60000 p.2/\0<=at'/\gY W tb lp n c at':=by
 have hb:∀l∈bq t.cQ,Bd l:=Co (λ_ h=>h.can) λl Y=>(jS ha l Y).2;have hz:∀l∈bq t.cQ,Nz l:=Co (λ_ h=>nz_can h) λl Y=>fY (jS ha l Y).1;have hlen:(bq t.cQ).length<=1000:=by have:=GO t.cQ;rw [kY] at this;omega
 refine FF tb lp n c at_ q V _ hw hx λV1 l1=>(uk (h.le l1) ha).s ?_;rintro r V2 l2 ⟨ps,m,e,rfl,Z⟩;generalize bq t.cQ=L at *;have hm:=Z.len;subst hm;have D:=l1.m l2
 have any:∀{W W':un} {w:Nat} {a:Int},V.Le W->0<=a->gY W w lp n c a->W.H w->À 54 #[qvJ (some ⟨w,0,none⟩)] (W.au [w]) λr W=>∃(x y:Rat)(at':Int),RP W r x y/\Sz 10 x/\Sz 10 y/\0<=at'/\gY W w lp n c at':=λ{W _ w a} lw a0 hw hh=>
  X4 (V:=W.au [w]) (hr.le λb o h=>lw b o h) hn hw ⟨ψ,hh⟩ a0
 refine ⟨_,_,_,rfl,λg V3 l3 w e1 e2=>(any (W':=V) (D.m l3) h0 e1 e2).s ?_,λg V6 l6 w e1 e2=>?_⟩
 ·rintro r V4 l4 ⟨x,y,at',f,I,J,t0,k⟩;have d:=f;obtain ⟨_,rfl,-⟩:=Ÿ f;exact qxW ⟨rfl,_,_,_,_,k,λV5 K s=>⟨(x,y),at',d.le λb o h=>K b o h,I.s ω,J.s ω,t0,s⟩⟩
 have g:0<L.length:=by have g:¬((L.length:Nat):Int)=0:=by{simpa using g};omega
 refine (eE (V:=V6.au [w]) (L.length:Int) (hr.le λb o h=>l6 b o (D b o h)) hn e1 ⟨ψ,e2⟩ h0 ω).s ?_;rintro r V7 l7 ⟨x,Gi,rfl,x0,x1,t1,a6⟩;obtain ⟨i,rfl⟩:∃i:Nat,x=i:=⟨x.toNat,ω⟩;have hi:i<L.length:=ω
 have CO:V2.Le V7.shut:=λb o h=>l7 b o (l6 b o h);obtain ⟨is,b1,p1,n1,c1,b2,p2,n2,c2,b3,p3,n3,c3,a,a7,a0,a1,a2,a3,a4,a5,M⟩:=IG (Z.le CO) hi;have v:=(hb _ (ú hi)).iP;have a8:=hz _ (ú hi);generalize L[i]=A at *;refine ⟨_,rfl,_,_,_,_,a6,is,ų,b1,p1,n1,c1,b2,p2,n2,c2,b3,p3,n3,c3,a,a7,a0,a1,a2,a3,a4,a5,λV8 l8 a9 e3 e4=>(eE (V:=V8.au [a9]) 3 (hr.le λb o h=>l8 b o (CO b o (D b o h))) hn e3 ⟨ψ,e4⟩ t1 ω).s ?_⟩;rintro r V9 l9 ⟨y,d8,rfl,y0,y1,t2,b0⟩;have T:∀{W:un},V9.shut.Le W->V2.Le W:=λl b o h=>l b o (l9 b o (l8 b o (CO b o h)));have N:∀{W:un},V9.shut.Le W->V7.shut.Le W:=λl b o h=>l b o (l9 b o (l8 b o h));refine ⟨_,rfl,_,_,_,_,b0,λg1 fD E U s O=>(eE (V:=fD.au [U]) (L.length:Int) (hr.le λb o h=>T E b o (D b o h)) hn s ⟨ψ,O⟩ t2 ω).s ?_,λg1=>⟨λg2 nq iF U s O=>(c_Q (V:=nq.au [U]) (hr.le λb o h=>T iF b o (D b o h)) hn s ⟨ψ,O⟩ t2).s ?_,λg2 vP oY U s O=>(any (W':=V) (D.m (T oY)) t2 s O).s ?_⟩⟩
 ·rintro r eX dq ⟨z,F,rfl,z0,z1,t3,G⟩;obtain ⟨j,rfl⟩:∃j:Nat,z=j:=⟨z.toNat,ω⟩;have hj:j<L.length:=ω;have C:V2.Le eX.shut:=λb o h=>dq b o (T E b o h);have ⟨is,b5,b6,b7,b8,b9,c0,c4,c5,c6,c7,c8,c9,a',P,d0,d1,d2,d3,d4,d5,d6⟩:=IG (Z.le C) hj;have Q:=(hb _ (ú hj)).iP;generalize L[j]=B at *;have R:V7.shut.Le eX.shut:=λb o h=>dq b o (N E b o h);refine ⟨_,rfl,_,_,_,_,G,is,ų,b5,b6,b7,b8,b9,c0,c4,c5,c6,c7,c8,c9,a',P,d0,d1,d2,d3,d4,d5,λgQ eJ=>(OP (M.le (R.m eJ)) (d6.le eJ) v Q).s ?_⟩;rintro r ji fk ⟨u,rfl,q0,q1⟩;have ⟨s1,s2⟩:=Jq v Q;by_cases hc:Þ A B=0;{have:=q0 hc;unfold PF at this;subst this;refine wqK ⟨rfl,λh=>by simp [hc] at h,λ_ mJ iE Nv S e8=>(any (W':=V) (D.m (C.m (eJ.m (fk.m iE)))) t3 S e8).s ?_⟩;rintro r ko gV ⟨x,y,at',f,I,J,t0,k⟩;have d:=f;obtain ⟨_,rfl,-⟩:=Ÿ f;exact qxW ⟨rfl,_,_,_,_,k,λV5 K s=>⟨(x,y),at',d.le λb o h=>K b o h,I.s ω,J.s ω,t0,s⟩⟩};have f:=q1 hc;have d:=f;obtain ⟨_,rfl,-⟩:=Ÿ f;refine wqK ⟨rfl,λ_ lH iL S=>⟨(meX A B,meY A B),F,d.le iL,s1.s ω,s2.s ω,t3,S⟩,λh=>by simp [hc] at h⟩
 ·rintro r qM lD ⟨qq,F,hq,sq,t3,G⟩;have d7:=hq;obtain ⟨_,rfl⟩:=Ŷ hq.shape;refine qxQ ⟨rfl,_,_,_,_,G,λuJ kN=>(Zl (M.le λb o h=>kN b o (lD b o (N iF b o h))) (d7.le λb o h=>kN b o h) a8 v (sq.s ω)).s ?_⟩;rintro r tM rI f;have d:=f;obtain ⟨_,rfl,-⟩:=Ÿ f;exact qxW ⟨rfl,λvO oX S=>⟨(dm A qq,du A qq),F,d.le oX,(DM v (sq.s ω)).s ω,(DN v (sq.s ω)).s ω,t3,S⟩⟩
 ·rintro r EL tO ⟨x,y,at',f,I,J,t0,k⟩;have d:=f;obtain ⟨_,rfl,-⟩:=Ÿ f;exact qxW ⟨rfl,_,_,_,_,k,λV5 K s=>⟨(x,y),at',d.le λb o h=>K b o h,I.s ω,J.s ω,t0,s⟩⟩
def GR.snoc2 {α:Type}{sz:Nat}{R:un->um->α->Prop}{l:zA α}(h:GR sz R V n c vs l){xs ys:zA um}{a b:α}(u:xs.length=sz)(E:ys.length=sz)(F:R V (.agg xs.toArray) a)(M:R V (.agg ys.toArray) b)(z:0<sz){sp:zA um}(N:n+2<=c')(O:c'*sz<=(n+2)*sz+sp.length):GR sz R V (n+2) c' (vs.take (n*sz)++(xs++ys)++sp) (l++[a,b]):=by have j:=h.row.eH z;have d:=h.len;have hc:=h.cap;have hm:n*sz<=c*sz:=Ă _ h.le;have i:=h.row.snoc (sp:=ys++sp) u F z;have g:=i.snoc (sp:=sp) E M z;have f:(vs.take (l.length*sz)).length=l.length*sz:=by{rw [ë];omega};have e:(vs.take (l.length*sz)++xs++(ys++sp)).take ((l++[a]).length*sz)=vs.take (l.length*sz)++xs:=by{have:(vs.take (l.length*sz)++xs).length=(l++[a]).length*sz:=by{rw [í,f,u,í,Đ];simp};rw [<-this,List.take_left' rfl]};rw [e] at g;refine ⟨by rw [í,d];rfl,N,?_,?_⟩;{rw [<-d] at f;simp only [í,f,u,E];rw [Đ] at O;omega};rw [d];simpa using g
def Ow (p:Rat×Rat):Rat×Rat:=(-p.1,-p.2)
def Zm (l:L3):List (Rat×Rat):=[mX (ao.aD l),Ow (mX (ao.aD l))]
def mY (M:List L3):List (Rat×Rat):=M.flatMap Zm
def wY (M N:zA L3):mY (M++N)=mY M++mY N:=Qc3 ..
def WZ {p:Rat×Rat}(s1:Sz k p.1)(s2:Sz k p.2):Sz (3*k+3) (mX p).1/\Sz (3*k+3) (mX p).2:=
 ⟨(Sz.mul s1 (iG (ik s1 s2))).s ω,(Sz.mul s2 (iG (ik s1 s2))).s ω⟩
def one12 {a b:Int}{c d:Int}{e f:Int}{r:OA}{g h:Int}{s:OA}:∀v∈([Ô Ŵ a,Ô Ŵ b,qvJ p,Ô Ŵ c,Ô Ŵ d,qvJ q,Ô Ŵ e,Ô Ŵ f,qvJ r,Ô Ŵ g,Ô Ŵ h,qvJ s]:zA um),v.oneCell'=true:=by intro v hm;simp only [ç,ě,Ì] at hm;rcases hm with rfl|rfl|rfl|rfl|rfl|rfl|rfl|rfl|rfl|rfl|rfl|rfl<;>rfl
theorem WE {q:Rat}:q.num.sign≥0↔q≥0:=by have:=@ao.xy q;constructor;{intro h;by_cases g:q≥0;{exact g};{have:=this.2 χ;omega}};intro h;by_cases g:q.num.sign≥0;{exact g};{have:=this.1 ω;grind}
theorem WG {q:Rat}:q.num.sign<=0↔q<=0:=by have:=@ao.mr q;constructor;{intro h;by_cases g:q<=0;{exact g};{have:=this.2 χ;omega}};intro h;by_cases g:q.num.sign<=0;{exact g};{have:=this.1 ω;grind}
def ND {pv:um}{p:Rat×Rat}(s1:Sz 3000000000 p.1)(s2:Sz 3000000000 p.2):∀(t:Tr) {V:un} {q:OA} {lb n c:Nat} {vs:zA um} {o:zA (Rat×Rat)},RT V q t->t.dG Bd->kt V pv p.1 p.2 ->(vs≠[]->V.w.heap[lb]?=some (.cells vs.toArray 113 (0,0)))->(vs≠[]->V.X lb)->GR 6 o_ V n c vs o->(vs≠[]->0<n)->n+2*t.size<=1000000 ->À 102 #[qvJ q,pv,yG (mA lb c) n c] V λr V'=>∃(bm:Nat)(vm:zA um)(n' c':Nat),(vm≠[]->V'.w.heap[bm]?=some (.cells vm.toArray 113 (0,0)))/\(vm≠[]->V.w.heap.size<=bm\/(vs≠[]/\bm=lb))/\r=yG (mA bm c') n' c'/\GR 6 o_ (V'.aY (vm≠[]) bm) n' c' vm (o++mY (ao.dW t p))/\(vm≠[]->0<n')/\n'<=n+2*t.size:=by
 intro t
 induction t with
 | leaf i=>
  intro V q lb n c vs o h ha hp hw hx K f hn;obtain ⟨x1,x2,x3,y1,y2,y3,rfl,-⟩:=hp;refine uD q x1 x2 x3 y1 y2 y3 lb n c vs V _ hw hx λV1 D=>(cu (h.le D)).s ?_;rintro r V2 M rfl;have Nk:∀{A B:Prop},A\/B\/False->A\/B:=λh=>h.imp id λh=>h.elim id False.elim;refine ⟨_,rfl,λhl V3 s hle m e3=>⟨s,vs,n,c,m,λh=>Nk (e3 h),rfl,?_,f,ω⟩,λhl=>by cases hl⟩;show GR 6 o_ _ n c vs (o++[]);rw [ć];exact K.up ((D.m M).m hle)
 | node ln a b iha ihb=>
  intro V q lb n c vs o h ha hp hw hx K f hn;have E:=hp;obtain ⟨x1,x2,x3,y1,y2,y3,rfl,-⟩:=hp;refine uD q x1 x2 x3 y1 y2 y3 lb n c vs V _ hw hx λV1 D=>(cu (h.le D)).s ?_;rintro r V2 M rfl;have Nk:∀{A B:Prop},A\/B\/False->A\/B:=λh=>h.imp id λh=>h.elim id False.elim;refine ⟨_,rfl,π,λ_=>?_⟩;obtain ⟨bb,u1,u2,u3,v1,v2,v3,w1,w2,w3,pl,pr,i,rfl,hb,N,a0,a6⟩:=h.le (D.m M);obtain ⟨a7,a8,a9⟩:=ha;simp only [Tr.size] at hn
  have d:∀{W:un},V2.Le W->∀j v,([Ô Ŵ u1,Ô Ŵ u2,qvJ u3,Ô Ŵ v1,Ô Ŵ v2,qvJ v3,Ô Ŵ w1,Ô Ŵ w2,qvJ w3,qvJ pl,qvJ pr,dB i]:zA um)[j]?=some v->W.at ((⟨bb,0,none⟩:Addr).add j) v:=by intro W hW j v hv;rw [add_zero'];exact dM (xs:=[_,_,_,_,_,_,_,_,_,_,_,_]) (hW _ _ hb) hv
  have u:=Ó.Le.refl V2;have sl:=a7.iP;refine ⟨rfl,rfl,_,_,_,_,_,_,_,_,_,⟨bb,0,none⟩,rfl,d u 0 _ rfl,d u 1 _ rfl,d u 2 _ rfl,d u 3 _ rfl,d u 4 _ rfl,d u 5 _ rfl,d u 6 _ rfl,d u 7 _ rfl,d u 8 _ rfl,λV4 l4=>(Oj (L:=ln) (N.le l4) (E.le (D.m (M.m l4))) (k:=3000000000) ⟨sl.1.s ω,sl.2.1.s ω,sl.2.2.s ω⟩ s1 s2).s ?_⟩;rintro r V5 l5 rfl;have e:=l4.m l5;have L5:=D.m (M.m e);have O:GR 6 o_ V5 n c vs o:=K.up L5;refine ⟨_,rfl,λz V'=>GR 6 o_ V' z.1 z.2.1 z.2.2 (o++mY (if aw ln p.1 p.2=0 then [ln] else []))/\(z.2.2≠[]->0<z.1)/\z.1<=n+2,⟨λx=>?_,λx=>?_⟩,?_⟩
  ·have x:aw ln p.1 p.2=0:=ao.bJ.1 (by simpa using x);refine ⟨rfl,rfl,_,_,_,_,_,_,_,_,_,⟨bb,0,none⟩,rfl,d e 0 _ rfl,d e 1 _ rfl,d e 2 _ rfl,d e 3 _ rfl,d e 4 _ rfl,d e 5 _ rfl,d e 6 _ rfl,d e 7 _ rfl,d e 8 _ rfl,λV6 l6=>(pF (N.le (e.m l6)) sl.1 sl.2.1 sl.2.2 ω).s ?_⟩;rintro r V7 l7 gd;have b0:kt V7 r (ao.aD ln).1 (ao.aD ln).2:=gd;obtain ⟨d1,d2,d3,d4,d5,d6,rfl,-⟩:=gd;have P:Sz 1000 (ao.aD ln).1:=sl.2.1;have Q:Sz 1000 (ao.aD ln).2:=sl.1.neg;refine qyJ ⟨rfl,λV8 l8=>(BV (p:=ao.aD ln) (b0.le l8) P Q).s ?_⟩;rintro r V9 l9 ge;have R:=ge;obtain ⟨y,m,e3,e4,e5,e6,rfl,-⟩:=ge;have ⟨F,G⟩:=WZ P Q;refine qyJ ⟨rfl,λfD H=>(Uc (p:=mX (ao.aD ln)) (R.le H) F G).s ?_⟩;rintro r eX dq gf;have b5:=gf;obtain ⟨f1,f2,f3,f4,f5,f6,rfl,-⟩:=gf;refine qyJ ⟨rfl,ω,K.le,K.cap,rfl,one12,λsp c' S T=>⟨(n+2,c',_),σ,?_,λ_=>Nat.succ_pos _,Ù _⟩⟩;rw [Ä x];have b6:=l6.m (l7.m (l8.m (l9.m (H.m dq))));exact (O.up b6).snoc2 (xs:=[_,_,_,_,_,_]) (ys:=[_,_,_,_,_,_]) rfl rfl ⟨R.le (H.m dq),F.s ω,G.s ω⟩ ⟨b5,F.neg.s ω,G.neg.s ω⟩ φ S T
  ·have x:¬aw ln p.1 p.2=0:=λh=>by{rw [ao.bJ.2 h] at x;cases x};refine ⟨(n,c,vs),σ,?_,f,ω⟩;rw [Ã x];show GR 6 o_ _ n c vs (o++[]);rw [ć];exact O
  ·rintro ⟨n1,c1,U⟩ gQ eJ ⟨S,I,b7⟩;dsimp only at S I b7 ⊢;have l:=e.m eJ;refine ⟨rfl,λz V'=>GR 6 o_ V' z.1 z.2.1 z.2.2 (o++mY ((if aw ln p.1 p.2=0 then [ln] else [])++(if aw ln p.1 p.2≥0 then ao.dW a p else [])))/\(z.2.2≠[]->0<z.1)/\z.1<=n+2+2*a.size,⟨λy=>?_,λy=>?_⟩,?_⟩;{have y:aw ln p.1 p.2≥0:=WE.1 (Á y);refine ⟨rfl,rfl,pl,yR (l _ _ hb) 9 rfl,λY fk s f1 f2=>?_⟩;refine (iha (V:=Y.au [vb U Y.w.heap.size s]) (lb:=s) (RT.le (V:=V2) (V':=Y.au _) (λb o h=>(l.m fk) b o h) a0) a8 (kt.le (V:=V) (V':=Y.au _) E λb o h=>(L5.m (eJ.m fk)) b o h) f1 (λh=>⟨by simp [mB h],f2 h⟩) (S.s (V':=Y.au _) λ_ _ g=>o_.le g λb o h=>fk b o h) I ω).s ?_;rintro r lH iL ⟨bm,vm,n2,c2,a1,a2,rfl,a3,a4,a5⟩;refine ⟨bm,vm,a1,a2,none,n2,c2,rfl,(n2,c2,vm),σ,?_,a4,ω⟩;rw [wY,Ä y,<-Ĝ];exact a3.s λ_ _ g=>o_.le g λb o h=>h};{have y:¬aw ln p.1 p.2≥0:=λh=>(Â y) (WE.2 h);refine ⟨(n1,c1,U),σ,?_,I,ω⟩;rw [Ã y,ć];exact S};rintro ⟨n2,c2,Z⟩ mJ iE ⟨T,J,b8⟩;dsimp only at T J b8 ⊢;have C:=l.m iE;refine ⟨rfl,λm=>?_,λm qM s hle k1 k2=>⟨s,Z,n2,c2,k1,λh=>Nk (k2 h),rfl,?_,J,by simp only [Tr.size];omega⟩⟩;{have m:aw ln p.1 p.2<=0:=WG.1 (Á m);refine ⟨rfl,rfl,pr,yR (C _ _ hb) 10 rfl,λko gV s f1 f2=>?_⟩;refine (ihb (V:=ko.au [vb Z ko.w.heap.size s]) (lb:=s) (RT.le (V:=V2) (V':=ko.au _) (λb o h=>(C.m gV) b o h) a6) a9 (kt.le (V:=V) (V':=ko.au _) E λb o h=>(L5.m (eJ.m (iE.m gV))) b o h) f1 (λh=>⟨by simp [mB h],f2 h⟩) (T.s (V':=ko.au _) λ_ _ g=>o_.le g λb o h=>gV b o h) J ω).s ?_;rintro r nk kf ⟨bm,vm,n3,c3,a1,a2,rfl,a3,a4,a5⟩;refine ⟨bm,vm,a1,a2,none,n3,c3,rfl,λnq b9 hle k1 k2=>⟨b9,vm,n3,c3,k1,λh=>Nk (k2 h),rfl,?_,a4,by simp only [Tr.size];omega⟩⟩;simp only [ao.dW];rw [Ä m,<-Ĝ,wY,<-Ĝ];exact a3.s λ_ _ g=>o_.le g λb o h=>hle b o h};have m:¬aw ln p.1 p.2<=0:=λh=>(Â m) (WG.2 h);simp only [ao.dW];rw [Ã m,ć];exact T.up hle
structure TC (V:Ó) (n:Nat) (vs:List Value) (l:List (Rat×Rat)):Prop where
 row:è 6 o_ V vs l
 len:n=l.length
 kM:l.length<20000
def TC.le {V V':un}{l:zA (Rat×Rat)}(h:TC V n vs l)(e:V.Le V'):TC V' n vs l:=⟨h.row.le λ_ _ g=>o_.le g e,h.len,h.kM⟩
def TC.get {l:zA (Rat×Rat)}(h:TC V n vs l){k:Nat}(F:k<l.length):∃(x y:Int)(p:OA)(u z:Int)(E:OA),((0+k*6)+6<=vs.length/\(vs.drop (0+k*6)).take 6=[Ô Ŵ x,Ô Ŵ y,qvJ p,Ô Ŵ u,Ô Ŵ z,qvJ E])/\o_ V (hF #[Ô Ŵ x,Ô Ŵ y,qvJ p,Ô Ŵ u,Ô Ŵ z,qvJ E]) (l.getD k E9):=by obtain ⟨xs,-,a,b,c⟩:=h.row.get (d:=E9) F φ;obtain ⟨x,y,p,u,z,E,e⟩:=a.shape;have e:=Æ Array.toList (Value.agg.inj e);dsimp only at e;subst e;rw [ĉ];exact ⟨x,y,p,u,z,E,⟨b,c⟩,a⟩
def o_.cells {c:Rat×Rat}(h:o_ V v c):∃xs:zA um,v=.agg xs.toArray/\xs.length=6/\∀x∈xs,x.oneCell'=true:=by obtain ⟨_,rfl⟩:=Ŷ h.shape;exact ⟨_,rfl,rfl,ħ.1 rfl⟩
def Kn {lb:Nat}{l:zA (Rat×Rat)}(hw:V.w.heap[lb]?=some (.cells vs.toArray 113 (0,0)))(z:V.X lb)(h:TC V n vs l):À 162 #[yG (some ⟨lb,0,none⟩) n c,.func (.func 163) #[] #[]] V λr W=>r=å #[]/\∃u l',W.w.heap[lb]?=some (.cells u.toArray 113 (0,0))/\TC W n u l'/\l'.Perm l/\l'.Pairwise λx y=>¬Rx y x<0:=by have kM:=h.kM;refine (DB (R:=o_) (cf:=Rx) Hs aggP sizP o_.le o_.cells ordCP BZ φ hw z h.row h.len).s λr V' b ⟨rfl,u,l',e,row,pm,a⟩=>⟨rfl,u,l',e,⟨row,h.len.m pm.length_eq.symm,by rw [pm.length_eq];exact kM⟩,pm,a⟩
def Ae:À 162 #[yG none 0 0,.func (.func 163) #[] #[]] V λr W=>r=å #[]:=
 (tF Hs).s λ_ _ _ h=>h.1
set_option maxHeartbeats 1000000 in
def BT {V:un}{lb n c:Nat}{vs:zA um}{l:zA (Rat×Rat)}(hw:V.w.heap[lb]?=some (.cells vs.toArray 113 (0,0)))(hx:V.X lb)(h:TC V n vs l)(hc:n<=c):À 164 #[yG (some ⟨lb,0,none⟩) n c,.func (.func 165) #[] #[]] V λr W=>∃vs',r=yG (some ⟨lb,0,none⟩) (fh eP l).length c/\W.w.heap[lb]?=some (.cells vs'.toArray 113 (0,0))/\è 6 o_ W vs' (fh eP l)/\vs'.length=vs.length:=by
 have kM:=h.kM;have len:=h.len;have a0:=h.row.eH φ;refine oU lb n c vs V _ hw hx ⟨λx V1 l1 J=>?_,λx=>⟨λz V'=>∃k:Nat,z=((k+1:Nat):Int)/\k+1<=n/\fh eP (l.take (k+1))=l.take (k+1),λz=>n-z.toNat,⟨1,σ,0,rfl,by have:=Â x;omega,wo (by rw [ë];omega)⟩,?_⟩⟩
 ·have x:(n:Int)<2:=Á x;have e:=wo (e:=eP) (l:=l);rw [e,<-len];exact ⟨vs,rfl,J,h.row.le λ_ _ g=>o_.le g l1,rfl⟩
 have x:¬(n:Int)<2:=Â x;rintro z V2 l2 ⟨k,rfl,hk,j⟩;have H:=h.le l2;refine ⟨rfl,λb=>?_,λb V9 l9 K=>?_⟩;rotate_left
 ·have b:¬((k+1:Nat):Int)<n:=Â b;have e:l.take (k+1)=l:=ŋ ω;rw [e] at j;rw [j,<-len];exact ⟨vs,rfl,K,h.row.le λ_ _ g=>o_.le g aA,rfl⟩
 have b:((k+1:Nat):Int)<n:=Á b;have w1:Ŵ.wrap (((k+1:Nat):Int)-1)=(k:Int):=by rw [ay ω];omega
 have w2:Ŵ.wrap (((k+1:Nat):Int)+1)=((k+1+1:Nat):Int):=by rw [ay ω];rfl
 rw [w1,w2,Ý,Ý];obtain ⟨y,A,B,C,D,E,I,W⟩:=H.get (k:=k+1) ω;obtain ⟨L,M,N,O,P,Q,R,Y⟩:=H.get (k:=k) ω;refine ⟨⟨ω,b⟩,y,A,B,C,D,E,I,ų,L,M,N,O,P,Q,R,λV3 l3=>(Ui ra ra).s ?_⟩;rintro r V4 l4 rfl;have step:=lB (e:=eP) (d:=E9) (l:=l) (k:=k);refine ⟨_,rfl,λhe=>⟨ų,?_⟩,λhe=>⟨((k+1+1:Nat):Int),ω,σ,k+1,rfl,ω,?_⟩⟩;rotate_left
 ·have p:eP (l.getD (k+1) E9) (l.getD k E9)=false:=he;rw [step,j,p];show l.take (k+1)++[_]=_;have F:k+1<l.length:=ω;rw [show l.getD (k+1) E9=l[k+1] by rw [Ę,ñ F];rfl,ť F]
 have p:eP (l.getD (k+1) E9) (l.getD k E9)=true:=he;have tO:=l3.m l4;have Z:∀{m:Nat},m<c->qO 0 c m 6=m*6:=λhm=>by unfold qO;rw [Ã ω,ĉ]
 refine ⟨λz V'=>∃(q t:Nat)(m:zA (Rat×Rat)),z.1=(q:Int)/\z.2.1=((t+1:Nat):Int)/\q<=k+1+t/\k+1+t+1<=n/\TC V' n z.2.2 m/\z.2.2.length=vs.length/\(∀i,k+1+t<=i->m.getD i E9=l.getD i E9)/\m.take q=fh eP (l.take (k+1+t+1)),λz=>n-z.2.1.toNat,
  ⟨(((k+1:Nat):Int),1,vs),σ,k+1,0,l,rfl,rfl,ω,ω,ra,rfl,λi _=>rfl,?_⟩,?_⟩
 ·rw [ġ,step,p,Ä rfl,ć,j]
 rintro ⟨zq,zt,us⟩ V5 l5 ⟨q,t,m,e1,e2,hq,ht,s,S,hm,G⟩;dsimp only at e1 e2 s S;subst e1 e2;dsimp only;have ml:=s.len;have a3:=s.row.eH φ;refine ⟨rfl,λa=>?_,λa=>?_⟩
 ·have a:((t+1:Nat):Int)<((n-(k+1):Nat):Int):=Á a;have w3:Ŵ.wrap (((t+1:Nat):Int)-1)=(t:Int):=ŵ;have w4:Ŵ.wrap (((t+1:Nat):Int)+1)=((t+1+1:Nat):Int):=ŵ;have w5:Ŵ.wrap ((q:Int)+1)=((q+1:Nat):Int):=ŵ;rw [w3,w4,w5,Ý,Ý,Ý,Z ω];obtain ⟨y,A,B,C,D,E,I,W⟩:=s.get (k:=k+1+(t+1)) ω;obtain ⟨L,M,N,O,P,Q,R,Y⟩:=s.get (k:=k+1+t) ω;have a1:(k+1)*6+(t+1)*6=0+(k+1+(t+1))*6:=ω;have a2:(k+1)*6+t*6=0+(k+1+t)*6:=ω;rw [a1,a2];rw [hm _ ω] at W;rw [hm _ ω] at Y;refine ⟨⟨ω,a⟩,y,A,B,C,D,E,I,ų,L,M,N,O,P,Q,R,λV6 l6=>(Ui ra ra).s ?_⟩;rintro r V7 l7 rfl;have Xw:=l6.m l7;have f:=lB (e:=eP) (d:=E9) (l:=l) (k:=k+1+t);refine ⟨_,rfl,λT=>⟨⟨ω,a⟩,y,A,B,C,D,E,I,ų,ω,(((q+1:Nat):Int),((t+1+1:Nat):Int),_),ω,σ,q+1,t+1,m.set q (l.getD (k+1+(t+1)) E9),rfl,rfl,ω,ω,?_,?_,λi F=>?_,?_⟩,λT=>⟨(((q:Nat):Int),((t+1+1:Nat):Int),us),ω,σ,q,t+1,m,rfl,rfl,ω,ω,ra,S,λi F=>hm i ω,?_⟩⟩;{refine ⟨?_,by rw [Qg1];exact ml,by rw [Qg1];exact s.kM⟩;have:=(s.le Xw).row.put (i:=q) ω φ (xs:=[Ô Ŵ y,Ô Ŵ A,qvJ B,Ô Ŵ C,Ô Ŵ D,qvJ E]) rfl ra;dsimp only;rw [ĉ];exact this};{exact (r_ (vs:=us) (xs:=[Ô Ŵ y,Ô Ŵ A,qvJ B,Ô Ŵ C,Ô Ŵ D,qvJ E]) (o:=0+q*6) (by show 0+q*6+6<=_;omega)).m S};{rw [Ę,Qn8 ω,<-Ę];exact hm i ω};{have u:eP (l.getD (k+1+(t+1)) E9) (l.getD (k+1+t) E9)=false:=by{simpa using T};have v:eP (l.getD (k+1+t+1) E9) (l.getD (k+1+t) E9)=false:=u;have F:q<m.length:=ω;rw [show k+1+(t+1)+1=k+1+t+2 from rfl,f,v,<-G,Ã φ];rw [Qp9,ł,ñ F,show (some m[q]).toList=[m[q]] from rfl];rw [List.set_append_right _ _ (by rw [ë];omega),ë,Ħ ω,Nat.sub_self];rfl};have u:eP (l.getD (k+1+(t+1)) E9) (l.getD (k+1+t) E9)=true:=by{simpa using T};have v:eP (l.getD (k+1+t+1) E9) (l.getD (k+1+t) E9)=true:=u;rw [show k+1+(t+1)+1=k+1+t+2 from rfl,f,v,Ä rfl,ć,G]
 ·have a:¬((t+1:Nat):Int)<((n-(k+1):Nat):Int):=Â a;have hl:l.take (k+1+t+1)=l:=ŋ ω;rw [hl] at G;have a4:q<n:=by{have:=P7 (e:=eP) (d:=E9) (l:=l) (k:=k) ω p;rw [<-G,ë] at this;omega};rw [Ý,Z ω];have hz:q*6+(n-q)*6=n*6:=by{rw [<-Đ];congr 1;omega};rw [hz];refine ⟨ų,ω,ų,λV8 l8 U=>⟨_,?_,U,?_,?_⟩⟩;{rw [<-G,ë,Ħ ω]};{rw [<-G,Ĝ];exact (s.row.le λ_ _ g=>o_.le g l8).P0 ω φ};simp only [í,ë,Ĵ,qm,Ww8,Wy3,List.sum_replicate_nat,Ċ,Ŀ];omega
def uR:À 164 #[yG none 0 0,.func (.func 165) #[] #[]] V λr W=>r=yG none 0 0:=
 lq V _ ⟨λ_ a b=>rfl,λh=>Å (Â h) φ⟩
def HJ (n c:Nat)(l:List (Rat×Rat)):Prop:=∀(V:Ó)(lb:Nat)(vs:List Value),V.w.heap[lb]?=some (.cells vs.toArray 113 (0,0))->V.X lb->TC V n vs l ->
 À 162 #[.slice (some ⟨lb,0,none⟩) n c,.func (.func 163) #[] #[]] V λr W=>r=.tuple #[]/\∃u l',W.w.heap[lb]?=some (.cells u.toArray 113 (0,0))/\TC W n u l'/\l'.Perm l/\l'.Pairwise λx y=>¬Rx y x<0
def sortsP (n c:Nat)(l:zA (Rat×Rat)):HJ n c l:=λ_ _ _ hw a h=>Kn hw a h
end
end Go.Proofs.Tryz
