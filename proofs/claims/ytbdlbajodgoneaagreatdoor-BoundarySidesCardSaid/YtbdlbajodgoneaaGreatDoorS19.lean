import Derived.Laws.IdiomCopy
import Derived.Lib.Overlaps
import Derived.Lib.JoinLaws
import Derived.Lib.AppendZerosOnto
import Derived.Shelf.RegionOpenPlain
import Derived.Lib.Walk
import Derived.Lib.SliceRun
import Derived.Laws.NewBlocks
import Derived.Test.YtbdlbajodgoneaaGreatDoorS18
set_option linter.all false
open Go.IntKind (i64 u64 u32)
open Go.Value renaming slice→yD,agg→dB,bool→gF,pointer→Õ,tuple→ê,int→Ô
namespace Go.Proofs.Tryz.ax
def mx (x:Rat×Rat)(t:Rat):Rat:=x.1+t*(x.2-x.1)
def Ut {x:Rat×Rat}{t:Rat}(z:x.1>0)(u:x.2>0)(t0:t>0)(t1:t<=1):mx x t>0:=by have a:=mn (show 1-t≥0 by grind) (show x.1≥0 by grind);have b:=mp t0 u;unfold mx;grind
def Qq {y:Rat×Rat}(z:y.1>0){s:Rat}(D:s>0)(u:mx y s<=0):∃t,t>0/\t<=s/\mx y t=0:=by have a:y.1-y.2>0:=by{by_cases c:y.1-y.2>0;{exact c};{have:=mn (show s≥0 by grind) (show y.2-y.1≥0 by grind);unfold mx at u;grind}};have e:=inv_mul (show y.1-y.2≠0 by grind) y.1;refine ⟨y.1*(y.1-y.2)⁻¹,(mp z (Qt9.2 a)),?_,?_⟩;{generalize y.1*(y.1-y.2)⁻¹=t at *;by_cases c:t<=s;{exact c};{have:=mp (show t-s>0 by grind) a;unfold mx at u;grind}};grind [mx]
def Oj:∀(L:zA (Rat×Rat)),(∀x∈L,x.1>0)->∃s,s>0/\∀x∈L,x.1+s*x.2>0
 | [],_=>⟨1,φ,λx h=>by cases h⟩
 | y::L,u=>by
  have ⟨s,D,h⟩:=Oj L λx d=>u x (ā y d);by_cases c:y.1+s*y.2>0
  ·exact ⟨s,D,λz a=>by rcases í.1 a with rfl|a;exact c;exact h z a⟩
  ·have b:-y.2>0:=by
    by_cases q:y.2<0
    ·grind
    ·have:=mn (show s≥0 by grind) (show y.2≥0 by grind);grind
   have e:=inv_mul (show -y.2≠0 by grind) y.1;have p:=mp (u y (ď ..)) (Qt9.2 b);generalize y.1*(-y.2)⁻¹=r at *
   have g:r<=s:=by by_cases q:r<=s;{exact q};{have:=mp (show r-s>0 by grind) b;grind}
   refine ⟨r*(1/2),χ,λz a=>?_⟩;rcases í.1 a with rfl|a
   ·grind
   ·have f:=u z (ā _ a);by_cases q:z.2≥0;{have:=mn (show r*(1/2)≥0 by grind) q;grind};{have:=mn (show s-r*(1/2)≥0 by grind) (show -z.2≥0 by grind);grind}
def pos (M:List L3)(p:V2):Prop:=∀m∈M,aG m p.1 p.2>0
def Es (M:List L3)(l:L3):Prop:=∃p:V2,aG l p.1 p.2=0/\∀m∈M,m≠l->aG m p.1 p.2>0
def Dif (M:List L3):Prop:=∀l∈M,∀m∈M,l≠m->∀p:V2,aG l p.1 p.2=0->aG m p.1 p.2=0->cr (bj l) (bj m)≠0
def W6 (u:V2):cr u u=0:=by unfold cr;grind
def Bv (m:L3)(q p:V2)(t:Rat):aG m (q.1+t*(p.1-q.1)) (q.2+t*(p.2-q.2))=aG m q.1 q.2+t*(aG m p.1 p.2-aG m q.1 q.2):=by unfold aG;grind
def ess {M:zA L3}(F:Dif M){q p:V2}(D:pos M q)(O:∀m∈M,Es M m->aG m p.1 p.2>0):pos M p:=by
 have key:∀(n:Nat)(N:zA L3),N.length<=n->(∀m∈N,m∈M)->(∀z,pos N z->pos M z)->pos M p:=by
  intro n
  induction n with
  | zero=>exact λN b a h=>h p λm hm=>by rw [Ĥ.1 (Nat.le_zero.1 b)] at hm;cases hm
  | succ n Z=>
   intro N b a h;by_cases all:∀l∈N,Es N l
   ·refine h p λl b=>O l (a l b) ?_;have ⟨x,d,j⟩:=all l b
    have u:∀x:V2,aG l x.1 x.2=0->(∀m∈N,m≠l->aG m x.1 x.2>0)->∀m∈M,aG m x.1 x.2≥0:=λx d j m hm=>by
     by_cases c:aG m x.1 x.2≥0
     ·exact c
     exfalso;have ⟨t,t0,t1,e⟩:=Qq (y:=(aG m q.1 q.2,aG m x.1 x.2)) (D m hm) (s:=1) φ (by unfold mx;grind)
     have:=h (q.1+t*(x.1-q.1),q.2+t*(x.2-q.2)) (λk E=>by
      rw [Bv];by_cases g:k=l
      ·subst g;rw [d];have B:t≠1:=λg=>c (by unfold mx at e;dsimp only at e;rw [g] at e;grind);have:=mp (show 1-t>0 by grind) (D k (a k E));grind
      ·exact Ut (x:=(aG k q.1 q.2,aG k x.1 x.2)) (D k (a k E)) (j k E g) t0 t1) m hm
     rw [Bv] at this;unfold mx at e;grind
    refine ⟨x,d,λm hm ne=>?_⟩;by_cases c:aG m x.1 x.2>0
    ·exact c
    have z:aG m x.1 x.2=0:=by have:=u x d j m hm;grind
    have sl:=F l (a l b) m hm (λe=>ne e.symm) x d z
    obtain ⟨w,v,C⟩:∃w:V2,nv l w=0/\nv m w<0:=by by_cases g:nv m (bj l)<0;{exact ⟨bj l,by rw [UD];exact W6 _,g⟩};refine ⟨(-(bj l).1,-(bj l).2),?_,?_⟩<;>rw [UD] at*<;>unfold cr at*<;>grind
    have ⟨s,A,o⟩:=Oj ((N.filter λk=>decide (k≠l)).map λk=>(aG k x.1 x.2,nv k w)) χ
    have:=u (x.1+s*w.1,x.2+s*w.2) (by rw [pX,d,v];grind) (λk E ne=>by
     rw [pX];exact o _ (ÿ.2 ⟨k,ļ.2 ⟨E,by simpa using ne⟩,rfl⟩)) m hm
    rw [pX,z] at this;have:=mp A (show -nv m w>0 by grind);grind
   ·obtain ⟨l,i,ne⟩:∃l∈N,¬Es N l:=by{simpa using all};have:=(List.length_filter_lt_length_iff_exists (p:=λk=>decide (k≠l))).2 ⟨l,i,ψ⟩;refine Z (N.filter λk=>decide (k≠l)) ω (λm hm=>a m (ļ.1 hm).1) λz f=>h z ?_;have f:∀m∈N,m≠l->aG m z.1 z.2>0:=λm hm e=>f m (ļ.2 ⟨hm,by simpa using e⟩);by_cases c:aG l z.1 z.2>0;{intro m hm;by_cases e:m=l;{exact e▸c};exact f m hm e};exfalso;have ⟨t,t0,t1,e⟩:=Qq (y:=(aG l q.1 q.2,aG l z.1 z.2)) (D l (a l i)) (s:=1) φ (by unfold mx;grind);refine ne ⟨(q.1+t*(z.1-q.1),q.2+t*(z.2-q.2)),?_,λm hm r=>?_⟩;{rw [Bv];exact e};rw [Bv];exact Ut (x:=(aG m q.1 q.2,aG m z.1 z.2)) (D m (a m hm)) (f m hm r) t0 t1
 exact key M.length M (Ú _) (λm hm=>hm) λz f=>f
def XY (l:L3):V2:=((l.1:Rat),(l.2.1:Rat))
def sq_p {x y:Rat}(h:x≠0\/y≠0):x*x+y*y>0:=by have p:∀z:Rat,z≠0->z*z>0:=λz a=>by{by_cases c:z>0;{exact mp c c};{have:=mp (show -z>0 by grind) (show -z>0 by grind);grind}};have q:∀z:Rat,z*z≥0:=λz=>by{by_cases c:z≥0;{exact mn c c};{have:=mn (show -z≥0 by grind) (show -z≥0 by grind);grind}};rcases h with h|h;{have:=p x h;have:=q y;grind};{have:=p y h;have:=q x;grind}
def nv_nrm {l:L3}(h:(bj l).1≠0\/(bj l).2≠0):nv l (XY l)>0:=by have:nv l (XY l)=(l.1:Rat)*(l.1:Rat)+(l.2.1:Rat)*(l.2.1:Rat):=rfl;refine sq_p ?_;rcases h with h|h;{exact .inr h};left;intro e;apply h;show -(l.1:Rat)=0;rw [e];grind
def es_pos {M:zA L3}{l:L3}(u:(bj l).1≠0\/(bj l).2≠0){x:V2}(z:aG l x.1 x.2=0)(h:∀m∈M,m≠l->aG m x.1 x.2>0)(L:zA L3)(D:∀m∈L,aG m x.1 x.2>0):∃q:V2,pos M q/\aG l q.1 q.2>0/\pos L q:=by
 have ⟨s,c,a⟩:=Oj (((M.filter λm=>decide (m≠l))++L).map λm=>(aG m x.1 x.2,nv m (XY l))) (λy d=>by
  obtain ⟨m,hm,rfl⟩:=ÿ.1 d;rcases ü.1 hm with hm|hm
  ·have:=ļ.1 hm;exact h m this.1 (by simpa using this.2)
  ·exact D m hm)
 have b:aG l (x.1+s*(XY l).1) (x.2+s*(XY l).2)>0:=by rw [pX,z];have:=mp c (nv_nrm u);grind
 refine ⟨(x.1+s*(XY l).1,x.2+s*(XY l).2),λm hm=>?_,b,λm hm=>?_⟩
 ·by_cases e:m=l;{rw [e];exact b};rw [pX];exact a (aG m x.1 x.2,nv m (XY l)) (ÿ.2 ⟨m,Ń _ (ļ.2 ⟨hm,by simpa using e⟩),rfl⟩)
 ·rw [pX];exact a (aG m x.1 x.2,nv m (XY l)) (ÿ.2 ⟨m,ŝ _ hm,rfl⟩)
end Go.Proofs.Tryz.ax
namespace Go.Proofs.Tryz
open Go.Eng Go.Big
section
variable{l:L3}
theorem wM {s u:Sp}{t:Rat}:(s.meet u).inn t↔s.inn t/\u.inn t:=by have c:uX s.lo u.lo<t↔s.lo<t/\u.lo<t:=by{unfold uX;rcases cE u.lo s.lo with ⟨h,e⟩|⟨h,e⟩|⟨h,e⟩<;>rw [e]<;>simp<;>grind};have d:t<uY s.hi u.hi↔t<s.hi/\t<u.hi:=by{unfold uY;rcases cE u.hi s.hi with ⟨h,e⟩|⟨h,e⟩|⟨h,e⟩<;>rw [e]<;>simp<;>grind};unfold Sp.inn Sp.meet;cases s.a<;>cases s.b<;>cases u.a<;>cases u.b<;>simp<;>grind
theorem reg_one {s:Sp}(h:s.good):uu [s]:=⟨λx a=>(show x=s by simpa using a)▸h,ψ⟩
theorem we {s u:Sp}(D:s.can)(hu:u.can):Ü 2 [s] [u]=if (s.meet u).emp=true then [] else [s.meet u]:=by have key:∀t,ð (Ü 2 [s] [u]) t=true->t∉á ([s]++[u])->(s.meet u).inn t:=λt h a=>by{rw [comb_inB _ _ _ a] at h;have h:(ð [s] t&&ð [u] t)=true:=h;rw [Đ] at h;have e:∀x:Sp,ð [x] t=x.innB t:=λx=>by{unfold ð;simp};grind [innB_iff,wM.2]};refine reg_eq (á ([s]++[u])) (comb_reg _ _ _) ?_ λt a=>?_;{split;{exact ⟨ű,List.Pairwise.nil⟩};rename_i h;exact reg_one ⟨Sp.CQ D hu,by simpa using h⟩};refine A_ ⟨λh=>?_,λh=>?_⟩;{have z:=key t h a;split;{rename_i he;obtain ⟨b,c⟩:=z;generalize s.meet u=m at he b c;unfold Sp.emp at he;rw [Đ,Đ,ŋ,ŋ,Ñ] at he;obtain ⟨⟨d,E⟩,hc⟩:=he;rw [d] at b;rw [E] at c;rcases cE m.lo m.hi with ⟨h,e⟩|⟨h,e⟩|⟨h,e⟩<;>grind};exact kU.2 ⟨_,ψ,z⟩};rw [comb_inB _ _ _ a];show (ð [s] t&&ð [u] t)=true;split at h;{cases h};have ⟨x,f,hi⟩:=kU.1 h;obtain rfl:x=s.meet u:=by{simpa using f};have ⟨b,c⟩:=wM.1 hi;rw [Đ];exact ⟨kU.2 ⟨s,ψ,b⟩,kU.2 ⟨u,ψ,c⟩⟩
theorem Bg {s:Sp}{t:Rat}:s.has t=true↔(s.a=true\/s.lo<=t)/\(s.b=true\/t<=s.hi):=by unfold Sp.has;rcases cE s.lo t with ⟨d,c⟩|⟨d,c⟩|⟨d,c⟩<;>rcases cE s.hi t with ⟨u,e2⟩|⟨u,e2⟩|⟨u,e2⟩<;>rw [c,e2]<;>cases s.a<;>cases s.b<;>simp<;>grind
theorem uE (h:Nz l)(t:Rat):aG l (cu l t) (cw l t)=0/\er l (cu l t) (cw l t)=t:=by have a:=h.norm;unfold aG er cu cw;unfold fK at *;constructor<;>grind
theorem VK {m:L3}(h:Ý l m≠0):aG l (PE l m) (PF l m)=0/\aG m (PE l m) (PF l m)=0:=by have a:=Ŭ _ h;unfold aG PE PF;constructor;{have e:(l.1:Rat)*(((l.2.1:Rat)*(m.2.2:Rat)-(l.2.2:Rat)*(m.2.1:Rat))*(Ý l m)⁻¹)+(l.2.1:Rat)*(((l.2.2:Rat)*(m.1:Rat)-(l.1:Rat)*(m.2.2:Rat))*(Ý l m)⁻¹)+(l.2.2:Rat)=(l.2.2:Rat)*(1-Ý l m*(Ý l m)⁻¹):=by{unfold Ý;grind};rw [e,a];grind};have e:(m.1:Rat)*(((l.2.1:Rat)*(m.2.2:Rat)-(l.2.2:Rat)*(m.2.1:Rat))*(Ý l m)⁻¹)+(m.2.1:Rat)*(((l.2.2:Rat)*(m.1:Rat)-(l.1:Rat)*(m.2.2:Rat))*(Ý l m)⁻¹)+(m.2.2:Rat)=(m.2.2:Rat)*(1-Ý l m*(Ý l m)⁻¹):=by{unfold Ý;grind};rw [e,a];grind
def TF (l:L3)(s:Sp):List (Rat×Rat):=(if s.a then [] else [(cu l s.lo,cw l s.lo)])++(if s.b then [] else [(cu l s.hi,cw l s.hi)])
theorem WW (l:L3):bM (bM l)=bM l:=by unfold bM;by_cases h:l.1<0\/l.1=0/\l.2.1<0;{rw [Ä h,Ã];unfold Ö;dsimp only;omega};rw [Ã h,Ã h]
theorem ok_can (h:cq l=true):cq (bM l)=true:=by unfold bM;split;{unfold cq Ö cj at *;grind};exact h
theorem ZC (h:cq l=true):¬(l.1=0/\l.2.1=0):=by unfold cq at h;rw [Đ,decide_eq_true_iff] at h;exact h.1
theorem HU {s:Sp}:s.emp=false↔∃t,s.inn t:=by constructor;{intro h;have ⟨c,d⟩:=Sp.Yv h;refine ⟨s.rX,?_,?_⟩;{cases u:s.a;{exact .inr (c u)};exact .inl rfl};cases z:s.b;{exact .inr (d z)};exact .inl rfl};rintro ⟨t,c,d⟩;grind [Sp.iS]
theorem pk {l:L3}{s:Sp}{m:L3}:(cW l s m=true->∀t,(bF l s m).inn t↔s.inn t/\0<aG m (cu l t) (cw l t))/\(s.emp=false->cW l s m=false->∀t,s.inn t->¬0<aG m (cu l t) (cw l t)):=by have key:Û m l≠0->∀t,(bF l s m).inn t↔s.inn t/\0<jW m l+Û m l*t:=λa t=>by{unfold bF;rcases b_ (Û m l) with ⟨h,e⟩|⟨h,e⟩|⟨h,e⟩;{exact Å h a};{rw [e];show (s.meet ⟨Ø m l,0,false,true⟩).inn t↔_;rw [wM];have b:Û m l*(t-Ø m l)=jW m l+Û m l*t:=by{unfold Ø;grind};have:(⟨Ø m l,0,false,true⟩:Sp).inn t↔Ø m l<t:=by{unfold Sp.inn;simp};rw [this,<-b];refine and_congr_right λ_=>⟨λd=>ı h χ,λd=>?_⟩;by_cases c:Ø m l<t;{exact c};{have:=Wv0 (show 0<=Û m l by grind) (show 0<=Ø m l-t by grind);grind}};rw [e];show (s.meet ⟨0,Ø m l,true,false⟩).inn t↔_;rw [wM];have b:-Û m l*(Ø m l-t)=jW m l+Û m l*t:=by{unfold Ø;grind};have:(⟨0,Ø m l,true,false⟩:Sp).inn t↔t<Ø m l:=by{unfold Sp.inn;simp};rw [this,<-b];refine and_congr_right λ_=>⟨λd=>ı χ χ,λd=>?_⟩;by_cases c:t<Ø m l;{exact c};{have:=Wv0 (show 0<=-Û m l by grind) (show 0<=t-Ø m l by grind);grind}};by_cases a:Û m l=0;{have g:bF l s m=s:=by{unfold bF;rw [a];rfl};have f:cW l s m=decide ((jW m l).num.sign>0):=by{unfold cW;rw [a];rfl};grind [jE,b_]};have f:cW l s m=!(bF l s m).emp:=by{unfold cW;grind [b_]};grind [jE,HU.2]
theorem lN {s:Sp}{m:L3}(u:s.good)(z:cW l s m=true):(bF l s m).good:=⟨Ty u.1,Tx u.2 z⟩
theorem nq (l:L3):bM l=l\/bM l=Ö l:=by unfold bM;split;exact .inr rfl;exact .inl rfl
theorem rev_rev (l:L3):Ö (Ö l)=l:=by unfold Ö;simp
theorem Bb (l:L3):ax.bj (Ö l)=(-(ax.bj l).1,-(ax.bj l).2):=by unfold ax.bj Ö;simp only [Qt2]
theorem nz_d (h:cq l=true):(ax.bj l).1≠0\/(ax.bj l).2≠0:=by unfold ax.bj;by_cases e:l.2.1=0;{right;intro a;have:(l.1:Rat)=0:=χ;exact ZC h ⟨by exact_mod_cast this,e⟩};left;show (l.2.1:Rat)≠0;exact_mod_cast e
theorem ZJ {m:L3}(ol:cq l=true)(z:cq m=true){p:ax.V2}(D:aG l p.1 p.2=0)(E:aG m p.1 p.2=0)(hc:ax.cr (ax.bj l) (ax.bj m)=0):l=m\/l=Ö m:=by have a:∀{x:L3},aG x p.1 p.2=0->aG (bM x) p.1 p.2=0:=λ{x} h=>by{grind [nq,val_rev]};have b:ax.cr (ax.bj (bM l)) (ax.bj (bM m))=0:=by{unfold ax.cr at *;rcases nq l with e|e<;>rcases nq m with u|u<;>rw [e,u]<;>(try rw [Bb l])<;>(try rw [Bb m])<;>(try dsimp only)<;>grind};grind [ax.R4,ok_can,WW,nq,rev_rev]
theorem dif_of {M:zA L3}(u:∀m∈M,cq m=true){q:ax.V2}(z:ax.pos M q):ax.Dif M:=by intro l d m hm c p f g hc;rcases ZJ (u l d) (u m hm) f g hc with e|e;{exact c e};have a:=z l d;have b:=z m hm;grind [val_rev]
theorem PM (h:Nz l){x y:Rat}(u:aG l x y=0):∃t,x=cu l t/\y=cw l t:=by have a:=Ŭ _ h.norm;unfold aG at u;refine ⟨er l x y,?_,?_⟩;{unfold cu er fK at *;grind};unfold cw er fK at *;grind
def æ:Sp:=⟨0,0,true,true⟩
theorem iE:æ.good:=⟨⟨λ_=>rfl,λ_=>rfl⟩,rfl⟩
theorem full_inn (t:Rat):æ.inn t:=⟨.inl rfl,.inl rfl⟩
end
section
variable{l:L3}
theorem cross_dot (l m:L3):Ý l m=-Û m l:=by unfold Ý Û;grind
theorem Tt (m l:L3):ax.cr (ax.bj m) (ax.bj l)=Û m l:=by unfold ax.cr ax.bj Û;grind
def pN (l m:L3):Rat:=er l (PE l m) (PF l m)
theorem C9 {m:L3}(u:Nz l)(h:Ý l m≠0):pN l m=Ø m l:=by have ⟨v1,v2⟩:=VK h;have ⟨t,a,b⟩:=PM u v1;have c:pN l m=t:=by{unfold pN;rw [a,b];exact (uE u t).2};rw [a,b,jE] at v2;have d:Û m l≠0:=λe=>h (by rw [cross_dot,e];grind);unfold Ø;grind
def wq (l m:L3)(s:Sp):Option Sp:=
 if Ý l m=0 then (if (aG m (cu l 0) (cw l 0)).num.sign<=0 then none else some s)
 else
  let s':Sp:=if 0<(Û m l).num.sign then (if s.a=true\/s.lo<pN l m then ⟨pN l m,s.hi,false,s.b⟩ else s) else (if s.b=true\/pN l m<s.hi then ⟨s.lo,pN l m,s.a,false⟩ else s)
  if s'.a=false/\s'.b=false/\s'.hi<=s'.lo then none else some s'
theorem TE {s:Sp}:s.emp=true↔s.a=false/\s.b=false/\s.hi<=s.lo:=by cases h:s.emp;{grind [Sp.iS.1]};refine ⟨λ_=>?_,λ_=>rfl⟩;have d:¬(s.a=true\/s.b=true\/s.lo<s.hi):=λg=>by{rw [<-Sp.iS] at g;rw [h] at g;cases g};refine ⟨?_,?_,?_⟩;{cases e:s.a;{rfl};grind};{cases e:s.b;{rfl};grind};by_cases c:s.lo<s.hi<;>grind
theorem Cj {m:L3}{s:Sp}(u:Nz l)(z:s.good):wq l m s=if cW l s m=true then some (bF l s m) else none:=by unfold wq;by_cases hc:Ý l m=0;{have c:Û m l=0:=by{rw [cross_dot] at hc;grind};have f:bF l s m=s:=by{unfold bF;rw [c];rfl};have d:cW l s m=decide ((jW m l).num.sign>0):=by{unfold cW;rw [c];rfl};rw [Ä hc,f,d];show (if (jW m l).num.sign<=0 then none else some s)=_;grind};have c:Û m l≠0:=λe=>hc (by rw [cross_dot,e];grind);rw [Ã hc,C9 u hc];have es:(if 0<(Û m l).num.sign then (if s.a=true\/s.lo<Ø m l then (⟨Ø m l,s.hi,false,s.b⟩:Sp) else s) else (if s.b=true\/Ø m l<s.hi then ⟨s.lo,Ø m l,s.a,false⟩ else s))=bF l s m:=by{obtain ⟨g,i⟩:=z.1;obtain ⟨lo,hi,a,b⟩:=s;unfold bF;rcases b_ (Û m l) with ⟨h,e⟩|⟨h,e⟩|⟨h,e⟩;{exact Å h c};{rw [e,Ä φ];unfold Sp.meet uX;grind [cE]};rw [e,Ã φ];unfold Sp.meet uY;grind [cE]};have d:cW l s m=!(bF l s m).emp:=by{unfold cW;grind [b_]};grind [TE.2,TE.1]
def fh (l:L3):List L3->Sp->Option Sp
 | [],s=>some s
 | m::r,s=>if m=l then fh l r s else match wq l m s with
  | some s'=>fh l r s'
  | none=>none
theorem yx (u:Nz l):∀{c:zA L3} {s w:Sp},s.good->fh l c s=some w->w.good/\∀t,w.inn t↔s.inn t/\∀m∈c,m≠l->0<aG m (cu l t) (cw l t)
 | [],s,w,h,e=>by cases e;exact ⟨h,λt=>⟨λg=>⟨g,λm hm=>by cases hm⟩,λg=>g.1⟩⟩
 | m::c,s,w,h,e=>by
  unfold fh at e;by_cases hm:m=l
  ·rw [Ä hm] at e;have ⟨g1,g2⟩:=yx u h e;grind
  ·rw [Ã hm,Cj u h] at e;by_cases z:cW l s m=true
   ·rw [Ä z] at e;have ⟨g1,g2⟩:=yx u (lN h z) e;grind [pk.1]
   grind
theorem yw (z:Nz l):∀{c:zA L3} {s:Sp},s.good->fh l c s=none->∀t,s.inn t->¬∀m∈c,m≠l->0<aG m (cu l t) (cw l t)
 | [],s,h,e=>by cases e
 | m::c,s,h,e=>by
  intro t D hall;have ⟨E,F⟩:=List.forall_mem_cons.1 hall;unfold fh at e;by_cases hm:m=l
  ·rw [Ä hm] at e;exact yw z h e t D F
  ·rw [Ã hm,Cj z h] at e;by_cases u:cW l s m=true
   ·rw [Ä u] at e;exact yw z (lN h u) e t ((pk.1 u t).2 ⟨D,E hm⟩) F
   ·exact pk.2 h.2 (by simpa using u) t D (E hm)
theorem Pl (u:Nz l){c:zA L3}:(fh l c æ).isSome=true↔ax.Es c l:=by constructor;{intro h;have ⟨w,hw⟩:=Qd9.1 h;have ⟨b,d⟩:=yx u iE hw;have ⟨t,e⟩:=HU.1 b.2;exact ⟨(cu l t,cw l t),(uE u t).1,((d t).1 e).2⟩};rintro ⟨p,f,a⟩;have ⟨t,g,i⟩:=PM u f;(cases h:fh l c æ with|some w=>rfl|none=>{rw [g,i] at a;exact Å a (yw u iE h t (full_inn t))})
def rF (l:L3):List L3->List L3
 | []=>[l]
 | u::r=>if ax.fg (ax.bj u) (ax.bj l)<0 then u::rF l r else if u=l then u::r else l::u::r
def rR (c:List L3):List L3->List L3->List L3
 | [],out=>out
 | l::r,out=>rR c r (if (fh l c æ).isSome=true then rF l out else out)
theorem wF {x:L3}:∀{r:zA L3},x∈rF l r↔x=l\/x∈r
 | []=>by simp [rF]
 | u::r=>by
  unfold rF;split
  ·rw [í,wF,í];exact or_left_comm
  split
  ·rename_i e;subst e;rw [í];exact ⟨.inr,λh=>h.elim .inl id⟩
  ·rw [í]
theorem yL (h:cq l=true):cq (Ö l)=true:=by unfold cq Ö cj at *;grind
end
section
theorem dot_rev (l m:L3):Û (Ö l) m=-Û l m:=by unfold Û Ö;simp only [Qt2];grind
theorem O4 (l m:L3):jW (Ö l) m=-jW l m:=by unfold jW;exact val_rev ..
theorem cutP_rev {l m:L3}(h:Û l m≠0):Ø (Ö l) m=Ø l m:=by unfold Ø;rw [dot_rev,O4];grind
end
section
variable{l:L3}{q x y:Rat}
theorem rev_ne (h:cq l=true):Ö l≠l:=λe=>by
 have b:=nz_d h;rw [<-e,Bb] at b;have a:=Æ ax.bj e;rw [Bb] at a;have c:=Æ Prod.fst a;have d:=Æ Prod.snd a;dsimp only at c d b;grind
theorem SQ:∀(L:zA Rat) {lo hi:Rat},lo<hi->∃t,lo<t/\t<hi/\∀r∈L,t≠r
 | [],lo,hi,h=>⟨(lo+hi)/2,χ,χ,(λr u=>by cases u)⟩
 | r::L,lo,hi,h=>by
  by_cases c:lo<r/\r<hi
  ·have ⟨t,z,D,E⟩:=SQ L c.1;grind
  ·have ⟨t,z,D,E⟩:=SQ L h;grind
theorem TV {s:Sp}(h:s.good):∃lo hi,lo<hi/\∀t,lo<t->t<hi->s.inn t:=by have ⟨t,e⟩:=HU.1 h.2;obtain ⟨lo,hi,a,b⟩:=s;unfold Sp.inn at *;cases a<;>cases b<;>simp at e ⊢;{exact ⟨lo,hi,χ,λt c d=>⟨c,d⟩⟩};{exact ⟨lo,lo+1,χ,λt c d=>c⟩};{exact ⟨hi-1,hi,χ,λt c d=>d⟩};exact ⟨0,1,φ⟩
theorem Bo {m:L3}(hm:cq m=true)(u:cq l=true){t:Rat}(z:t≠Ø m l):m=l\/m=Ö l\/aG m (cu l t) (cw l t)≠0:=by by_cases b:Û m l=0;{by_cases a:aG m (cu l t) (cw l t)=0;{have c:=(uE (ZC u) t).1;have hc:ax.cr (ax.bj m) (ax.bj l)=0:=by{rw [Tt];exact b};rcases ZJ (p:=(cu l t,cw l t)) hm u a c hc with g|g<;>grind};exact .inr (.inr a)};refine .inr (.inr λa=>z ?_);rw [jE] at a;unfold Ø;grind
theorem Tr.sU {P:L3->Prop}:∀{t:Tr},(∀l∈t.cJ,P l)->t.dU P
 | .leaf _,_=>trivial
 | .node l x y,h=>⟨h l (ď ..),sU λm hm=>h m (ā _ (Ń _ hm)),sU λm hm=>h m (ā _ (ŝ _ hm))⟩
theorem HW {a b:md}:fe [⟨x,y,a,b⟩]=(if a then 0 else 1)+(if b then 0 else 1):=by unfold fe zH Sp.Jw Sp.H2;cases a<;>cases b<;>rfl
theorem Ul (h:y<=x):uX x y=x:=by unfold uX;rcases cE y x with ⟨g,e⟩|⟨g,e⟩|⟨g,e⟩<;>rw [e]<;>simp<;>grind
theorem maxQ_r (h:x<=y):uX x y=y:=by unfold uX;rcases cE y x with ⟨g,e⟩|⟨g,e⟩|⟨g,e⟩<;>rw [e]<;>simp<;>grind
theorem Un (h:x<=y):uY x y=x:=by unfold uY;rcases cE y x with ⟨g,e⟩|⟨g,e⟩|⟨g,e⟩<;>rw [e]<;>simp<;>grind
theorem minQ_r (h:y<=x):uY x y=y:=by unfold uY;rcases cE y x with ⟨g,e⟩|⟨g,e⟩|⟨g,e⟩<;>rw [e]<;>simp<;>grind
theorem TD:(⟨x,y,false,false⟩:Sp).emp=decide (y<=x):=by unfold Sp.emp;rcases cE x y with ⟨g,e⟩|⟨g,e⟩|⟨g,e⟩<;>simp only<;>simp<;>grind
theorem Y8 {b:md}:(⟨x,y,true,b⟩:Sp).emp=false:=rfl
theorem Y9 {a:md}:(⟨x,y,a,true⟩:Sp).emp=false:=by cases a<;>rfl
theorem halves {v:Sp}(h:v.good)(p:Rat):(v.innB p=true/\(v.meet ⟨p,0,false,true⟩).emp=false/\(v.meet ⟨0,p,true,false⟩).emp=false/\fe [v.meet ⟨p,0,false,true⟩]+fe [v.meet ⟨0,p,true,false⟩]<=fe [v]+2) \/ (v.meet ⟨p,0,false,true⟩=v/\(v.meet ⟨0,p,true,false⟩).emp=true)\/(v.meet ⟨0,p,true,false⟩=v/\(v.meet ⟨p,0,false,true⟩).emp=true):=by obtain ⟨⟨c,d⟩,he⟩:=h;obtain ⟨e,f,a,b⟩:=v;unfold Sp.meet Sp.innB;cases a<;>cases b;{grind [TD,Ul,minQ_r,Un,maxQ_r,HW]};{grind [TD,Ul,HW,Y9]};{grind [TD,Un,HW,Y8]};left;simp [HW,Y8,Y9]
def bh (l:L3)(e:Bool):Tr->Sp->List Sp
 | .leaf i,v=>if i=true then [v] else []
 | .node m x y,v=>
  if m=l/\e=true\/m=Ö l/\e=false then bh l e x v
  else if m=l\/m=Ö l then bh l e y v
  else (if cW l v m=true then bh l e x (bF l v m) else [])++(if cW l v (Ö m)=true then bh l e y (bF l v (Ö m)) else [])
def ZX (l:L3)(P:List Rat)(t:Tr):Prop:=t.dU λm=>Û m l≠0->Ø m l∈P
theorem KQ {s w:Sp}(h:(s.meet w).cV q):s.cV q\/w.cV q:=by unfold Sp.cV Sp.meet at *;have mx:∀x y,uX x y=x\/uX x y=y:=λx y=>by{unfold uX;split<;>simp};have mn:∀x y,uY x y=x\/uY x y=y:=λx y=>by{unfold uY;split<;>simp};have a:=mx s.lo w.lo;have b:=mn s.hi w.hi;obtain ⟨s1,s2,s3,s4⟩:=s;obtain ⟨e,f,c,d⟩:=w;cases s3<;>cases c<;>cases s4<;>cases d<;>simp at h a b⊢<;>grind
theorem W9 {m:L3}{s:Sp}(h:(bF l s m).cV q):s.cV q\/Û m l≠0/\q=Ø m l:=by unfold bF at h;rcases b_ (Û m l) with ⟨g,e⟩|⟨g,e⟩|⟨g,e⟩<;>rw [e] at h;{exact .inl h};{rcases KQ h with h|⟨_,h⟩|⟨h,_⟩;{exact .inl h};{exact .inr ⟨χ,h⟩};cases h};rcases KQ h with h|⟨h,_⟩|⟨_,h⟩;{exact .inl h};{cases h};exact .inr ⟨χ,h⟩
theorem cnt3 {f g h k:Rat->md}(H:∀c,(f c).toNat+(g c).toNat+(h c).toNat<=(k c).toNat):∀l:zA Rat,l.countP f+l.countP g+l.countP h<=l.countP k
 | []=>ψ
 | c::l=>by
  have u:=cnt3 H l;have a:=H c;have e:∀b:md,(if b=true then 1 else 0)=b.toNat:=λb=>by cases b<;>rfl
  grind
theorem W8 {m:L3}{s:Sp}(h:Û m l=0):bF l s m=s:=by unfold bF;rw [h];rfl
theorem Tw {m:L3}{s:Sp}(h:Û m l=0):cW l s m=decide ((jW m l).num.sign>0):=by unfold cW;rw [h];rfl
theorem VI {l m:L3}{v:Sp}(u:v.good):(cW l v m=true/\cW l v (Ö m)=true/\Û m l≠0/\v.innB (Ø m l)=true/\fe [bF l v m]+fe [bF l v (Ö m)]<=fe [v]+2)\/(bF l v m=v/\cW l v (Ö m)=false)\/(bF l v (Ö m)=v/\cW l v m=false):=by
 have key:Û m l≠0->∀s,cW l s m=!(bF l s m).emp:=λf s=>by unfold cW;grind [b_]
 have g:Û (Ö m) l≠0->∀s,cW l s (Ö m)=!(bF l s (Ö m)).emp:=λf s=>by unfold cW;grind [b_]
 by_cases f:Û m l=0
 ·grind [dot_rev,b_,W8,Tw,O4]
 ·have k:Û (Ö m) l≠0:=by rw [dot_rev];grind
  rw [key f,g k];have H:=halves u (Ø m l);have j:=cutP_rev f
  have mk:∀{x y:Sp},bF l v m=x->bF l v (Ö m)=y->(v.innB (Ø m l)=true/\x.emp=false/\y.emp=false/\fe [x]+fe [y]<=fe [v]+2)\/(x=v/\y.emp=true)\/(y=v/\x.emp=true) ->
    ((!(bF l v m).emp)=true/\(!(bF l v (Ö m)).emp)=true/\Û m l≠0/\v.innB (Ø m l)=true/\fe [bF l v m]+fe [bF l v (Ö m)]<=fe [v]+2)\/(bF l v m=v/\(!(bF l v (Ö m)).emp)=false)\/(bF l v (Ö m)=v/\(!(bF l v m).emp)=false):=by
   rintro x y rfl rfl (⟨a,b,c,d⟩|⟨a,b⟩|⟨a,b⟩)
   ·exact .inl ⟨by rw [b];rfl,by rw [c];rfl,f,a,d⟩
   ·exact .inr (.inl ⟨a,by rw [b];rfl⟩)
   ·exact .inr (.inr ⟨a,by rw [b];rfl⟩)
  rcases b_ (Û m l) with ⟨h,e⟩|⟨h,e⟩|⟨h,e⟩
  ·exact Å h f
  ·have i:(Û (Ö m) l).num.sign=-1:=by{grind [b_,dot_rev]};exact mk (by unfold bF;rw [e];rfl) (by unfold bF;rw [j,i];rfl) H
  ·have i:(Û (Ö m) l).num.sign=1:=by{grind [b_,dot_rev]};refine mk (x:=v.meet ⟨0,Ø m l,true,false⟩) (y:=v.meet ⟨Ø m l,0,false,true⟩) (by unfold bF;rw [e];rfl) (by unfold bF;rw [j,i];rfl) ?_<;>grind
theorem wP {P:zA Rat}{e:md}:∀{t:Tr} {v:Sp},v.good->ZX l P t->(∀q,v.cV q->q∈P) ->(∀s∈bh l e t v,s.good/\∀q,s.cV q->q∈P)/\fe (bh l e t v)<=fe [v]+2*P.countP v.innB/\(bh l e t v).length<=1+P.countP v.innB
 | .leaf i,v,z,_,D=>by
  cases i
  ·exact ⟨λs h=>(nomatch h),å _,å _⟩
  ·exact ⟨λs h=>by rw [ú.1 h];exact ⟨z,D⟩,Qr6 ..,Qr6 ..⟩
 | .node m x y,v,z,hc,D=>by
  obtain ⟨M,E,F⟩:=hc;unfold bh;split
  ·exact wP z E D
  ·split
   ·exact wP z F D
   ·have ends:∀{k:L3},(k=m\/k=Ö m)->∀q,(bF l v k).cV q->q∈P:=λ{k} N q h=>by rcases W9 h with g|⟨g,eq⟩<;>grind [dot_rev,cutP_rev]
    have A:(cW l v m=true->(∀s∈bh l e x (bF l v m),s.good/\∀q,s.cV q->q∈P)/\fe (bh l e x (bF l v m))<=fe [bF l v m]+2*P.countP (bF l v m).innB/\(bh l e x (bF l v m)).length<=1+P.countP (bF l v m).innB):=λh=>wP (lN z h) E (ends (.inl rfl));have B:(cW l v (Ö m)=true->(∀s∈bh l e y (bF l v (Ö m)),s.good/\∀q,s.cV q->q∈P)/\fe (bh l e y (bF l v (Ö m)))<=fe [bF l v (Ö m)]+2*P.countP (bF l v (Ö m)).innB/\(bh l e y (bF l v (Ö m))).length<=1+P.countP (bF l v (Ö m)).innB):=λh=>wP (lN z h) F (ends (.inr rfl));refine ⟨λs h=>?_,?_⟩
    ·rcases ü.1 h with h|h<;>grind
    ·rw [Nq,ï];rcases VI (l:=l) (m:=m) z with ⟨a,b,j,n,r⟩|⟨d,b⟩|⟨d,a⟩
     ·rw [Ä a,Ä b];have o:=(A a).2;have p:=(B b).2;have u:0<P.countP λc=>decide (c=Ø m l):=Qs1.2 ⟨_,M j,ψ⟩
      have H:=cnt3 (f:=(bF l v m).innB) (g:=(bF l v (Ö m)).innB) (h:=λc=>decide (c=Ø m l)) (k:=v.innB) (λc=>by
       have i1:=(pk (l:=l) (s:=v) (m:=m)).1 a c;have i2:=(pk (l:=l) (s:=v) (m:=Ö m)).1 b c;rw [val_rev] at i2;rw [<-innB_iff,<-innB_iff] at i1 i2
       have i3:c=Ø m l->v.innB c=true/\aG m (cu l c) (cw l c)=0:=by
        rintro rfl;refine ⟨n,?_⟩;rw [jE];unfold Ø;grind
       cases o:(bF l v m).innB c<;>cases p:(bF l v (Ö m)).innB c<;>cases O:v.innB c<;>by_cases w:c=Ø m l<;>simp at i1 i2 i3⊢<;>grind) P
      omega
     ·rw [Ã (c:=cW l v (Ö m)=true) (by rw [b];simp)];split;{rename_i g;have:=(A g).2;rw [d] at this ⊢;exact this};exact ⟨å _,å _⟩
     ·rw [Ã (c:=cW l v m=true) (by rw [a];simp)];split;{rename_i g;have:=(B g).2;rw [d] at this ⊢;exact ⟨by show 0+_<=_;omega,by show 0+_<=_;omega⟩};exact ⟨å _,å _⟩
def eH (l:L3)(e:Bool):Rat×Rat:=if e=true then ((l.1:Rat),(l.2.1:Rat)) else (-(l.1:Rat),-(l.2.1:Rat))
theorem wO (ol:cq l=true){e:md}:∀{t:Tr} {v:Sp},v.good->(t.dU λm=>cq m=true/\(Û m l≠0->Ø m l≠q)) ->ð (bh l e t v) q=(v.innB q&&(ax.pV t (cu l q,cw l q) (eH l e)).1)
 | .leaf i,v,_,_=>by cases i<;>simp [bh,ax.pV,ð]
 | .node m x y,v,D,hc=>by
  obtain ⟨⟨M,N⟩,E,F⟩:=hc
  have nl:(l.1:Rat)*l.1+(l.2.1:Rat)*l.2.1>0:=by
   have h:=eI ol
   have n:∀z:Rat,z≠0->z*z>0:=λz c=>by rcases b_ z with ⟨g,_⟩|⟨g,_⟩|⟨g,_⟩;{exact Å g c};{exact ı g g};{have:=ı (show -z>0 by grind) (show -z>0 by grind);grind}
   have d:∀z:Rat,z*z≥0:=λz=>by by_cases c:z=0;{rw [c];grind};{have:=n z c;grind}
   have f:=d l.1;have j:=d l.2.1;by_cases p:l.1=0
   ·have o:l.2.1≠0:=λo=>h ⟨p,o⟩;have:=n l.2.1 (by exact_mod_cast o);grind
   ·have:=n l.1 (by exact_mod_cast p);grind
  have v0:=(uE (eI ol) q).1
  have r:∀{z:Rat} ,0<z->z.num.sign=1:=λ{z} c=>by rcases b_ z with ⟨h,_⟩|⟨h,e⟩|⟨h,_⟩;{grind};{exact e};grind
  have u:∀{z:Rat} ,z<0->z.num.sign=-1:=λ{z} c=>by rcases b_ z with ⟨h,_⟩|⟨h,_⟩|⟨h,e⟩;{grind};{grind};exact e
  unfold bh ax.pV;have sd:∀z,ax.Lu m (cu l q,cw l q) (eH l e)=z↔(if (aG m (cu l q) (cw l q)).num.sign=0 then (ax.nv m (eH l e)).num.sign else (aG m (cu l q) (cw l q)).num.sign)=z:=λz=>Wv3;split
  ·rename_i h;have:ax.Lu m (cu l q,cw l q) (eH l e)=1:=by{rw [sd];rcases h with ⟨rfl,rfl⟩|⟨rfl,rfl⟩;{rw [v0];exact r (by unfold ax.nv eH;simpa using nl)};rw [val_rev,v0];exact r (by unfold ax.nv eH Ö;simp;grind)};rw [Ä this];exact wO ol D E
  ·split;{rename_i f h;have:ax.Lu m (cu l q,cw l q) (eH l e)=-1:=by{rw [sd];cases e;{rcases h with rfl|rfl;{rw [v0];exact u (by unfold ax.nv eH;simp;grind)};exact Å (.inr ⟨rfl,rfl⟩) f};rcases h with rfl|rfl;{exact Å (.inl ⟨rfl,rfl⟩) f};rw [val_rev,v0];exact u (by unfold ax.nv eH Ö;simp;grind)};rw [this,Ã φ,Ä rfl];exact wO ol D F};rename_i f h;have A:aG m (cu l q) (cw l q)≠0:=by{by_cases w:Û m l=0;{rcases Bo M ol (t:=Ø m l+1) χ with g|g|g;{exact Å (.inl g) h};{exact Å (.inr g) h};rw [jE,w] at *;grind};grind [Bo]};have app:∀a b:zA Sp,ð (a++b) q=(ð a q||ð b q):=λa b=>by{unfold ð;rw [List.any_append]};have one:∀{k:L3} {z:Tr},(∀{v:Sp},v.good->ð (bh l e z v) q=(v.innB q&&(ax.pV z (cu l q,cw l q) (eH l e)).1))->ð (if cW l v k=true then bh l e z (bF l v k) else []) q=(v.innB q&&decide (0<aG k (cu l q) (cw l q))&&(ax.pV z (cu l q,cw l q) (eH l e)).1):=λ{k z} c=>by{split;{rename_i g;rw [c (lN D g)];congr 1;have:=(pk (l:=l) (s:=v) (m:=k)).1 g q;rw [<-innB_iff,<-innB_iff] at this;(cases f:(bF l v k).innB q<;>cases j:v.innB q<;>simp [j] at this⊢<;>first|exact this|grind)};rename_i g;have:=(pk (l:=l) (s:=v) (m:=k)).2 D.2 (by simpa using g) q;rw [<-innB_iff] at this;cases j:v.innB q;{simp [ð]};simp [ð,this j]};rw [app,one λD=>wO ol D E,one λD=>wO ol D F,val_rev];grind [ax.Lu]
def qE (l:L3)(t:Tr):List Sp:=Ü 3 (Ü 1 (bh l true t bV) []) (Ü 1 (bh l false t bV) [])
theorem lQ:bV.good:=⟨⟨λ_=>rfl,λ_=>rfl⟩,rfl⟩
theorem Rc (q:Rat):bV.innB q=true:=rfl
theorem TO (q:Rat):¬bV.cV q:=by rintro (⟨h,_⟩|⟨h,_⟩)<;>cases h
section
variable{l:L3}{P:List Rat}{e:Bool}{t:Tr}(hc:ZX l P t)
include hc
theorem PV:(∀s∈bh l e t bV,s.good/\∀q,s.cV q->q∈P)/\fe (bh l e t bV)<=2*P.length/\(bh l e t bV).length<=1+P.length:=by have ⟨a,b,c⟩:=wP (e:=e) lQ hc λq h=>Å h (TO q);have:P.countP bV.innB<=P.length:=List.countP_le_length ..;have:fe [bV]=0:=rfl;grind
theorem oE:∀q∈á (Ü 1 (bh l e t bV) []),q∈P:=λq b=>by
 have ⟨s,c,h⟩:=fC.1 b;have ⟨d,f⟩:=oh s c;have:q∈á (bh l e t bV++[]):=by rcases h with ⟨a,rfl⟩|⟨a,rfl⟩;exact d a;exact f a
 have ⟨u,hu,h⟩:=fC.1 this;rw [ý] at hu;exact ((PV hc).1 u hu).2 q h
theorem U2 (u:asc P):fe (Ü 1 (bh l e t bV) [])<=P.length:=by refine A9 (IB (comb_reg 1 _ _)) u λx a=>oE hc (e:=e) x (fC.2 ?_);have ⟨s,b,a⟩:=ė.1 a;rcases ü.1 a with a|a;{exact ⟨s,b,.inl (mS a)⟩};exact ⟨s,b,.inr (pG a)⟩
theorem on_end:∀s∈qE l t,∀q,s.cV q->q∈P:=λs b q h=>by
 have ⟨c,d⟩:=oh s b;have:q∈á (Ü 1 (bh l true t bV) []++Ü 1 (bh l false t bV) []):=by rcases h with ⟨a,rfl⟩|⟨a,rfl⟩;exact c a;exact d a
 have ⟨u,hu,h⟩:=fC.1 this;rcases ü.1 hu with hu|hu<;>grind [oE,fC.2]
theorem ZE (ol:cq l=true)(D:t.dU λm=>cq m=true){q:Rat}(z:q∉P):ð (qE l t) q=((ax.pV t (cu l q,cw l q) (eH l true)).1&&!(ax.pV t (cu l q,cw l q) (eH l false)).1):=by
 have a:t.dU λm=>cq m=true/\(Û m l≠0->Ø m l≠q):=by
  induction t with
  | leaf=>trivial
  | node m x y E F=>exact ⟨⟨D.1,λh g=>z (g▸hc.1 h)⟩,E hc.2.1 D.2.1,F hc.2.2 D.2.2⟩
 have one:∀e,ð (Ü 1 (bh l e t bV) []) q=(ax.pV t (cu l q,cw l q) (eH l e)).1:=λe=>by
  rw [comb_inB 1 _ _ (λh=>by
   have ⟨u,hu,h⟩:=fC.1 h;rw [ý] at hu;exact z (((PV hc).1 u hu).2 q h)),wO ol lQ a]
  simp [ĥ,ð,Rc]
 unfold qE
 rw [comb_inB 3 _ _ (λh=>by
  have ⟨u,hu,h⟩:=fC.1 h;rcases ü.1 hu with hu|hu
  ·exact z (oE hc (e:=true) q (fC.2 ⟨u,hu,h⟩))
  ·exact z (oE hc (e:=false) q (fC.2 ⟨u,hu,h⟩))),one,one]
 rfl
theorem YL {q r:Rat}(h:∀x∈P,(x<q↔x<r)/\(q<x↔r<x))(v:Rat×Rat):ax.pV t (cu l q,cw l q) v=ax.pV t (cu l r,cw l r) v:=by
 induction t with
 | leaf=>rfl
 | node m x y D E=>
  have i:(aG m (cu l q) (cw l q)).num.sign=(aG m (cu l r) (cw l r)).num.sign:=by rw [jE,jE];by_cases f:Û m l=0;{rw [f];congr 2;grind};have ⟨j,n⟩:=h _ (hc.1 f);have g:∀z,jW m l+Û m l*z=Û m l*(z-Ø m l):=λz=>by{unfold Ø;grind};rw [g,g];generalize Ø m l=p at *;have key:∀k z:Rat,k≠0->((k*z).num.sign=if 0<k then z.num.sign else -z.num.sign):=λk z F=>by{rcases b_ k with ⟨a,_⟩|⟨a,_⟩|⟨a,_⟩;{exact Å a F};{rw [Ä a];rcases b_ z with ⟨b,d⟩|⟨b,d⟩|⟨b,d⟩<;>rcases b_ (k*z) with ⟨c,u⟩|⟨c,u⟩|⟨c,u⟩<;>rw [d,u]<;>exfalso;{rw [b] at c;grind};{rw [b] at c;grind};{have:=ı a b;grind};{have:=ı a b;grind};{have:=ı a (show 0< -z by grind);grind};{have:=ı a (show 0< -z by grind);grind}};rw [Ã χ];have e:0< -k:=χ;(rcases b_ z with ⟨b,d⟩|⟨b,d⟩|⟨b,d⟩<;>rcases b_ (k*z) with ⟨c,u⟩|⟨c,u⟩|⟨c,u⟩<;>rw [d,u]<;>first|rfl|exfalso);{rw [b] at c;grind};{rw [b] at c;grind};{have:=ı e b;grind};{have:=ı e b;grind};{have:=ı e (show 0< -z by grind);grind};{have:=ı e (show 0< -z by grind);grind}};grind [b_]
  unfold ax.pV ax.Lu;rw [i,D hc.2.1,E hc.2.2]
theorem X1 (ol:cq l=true)(z:t.dU λm=>cq m=true)(u:asc P){ms:zA md}(hm:ms=(bE P).map λx=>(ax.pV t (cu l x,cw l x) (eH l true)).1&&!(ax.pV t (cu l x,cw l x) (eH l false)).1):rC P ms=qE l t:=by have f:ms.length=P.length+1:=by{rw [hm,Č,eK]};have F:=fi (ms:=ms) u (Ú (P.length+1));have rg:uu (rC P ms):=by{unfold rC;rw [f];exact F.r};refine reg_eq P rg (comb_reg _ _ _) λq c=>?_;rw [ZE hc ol z c];have mk:∀j,j<=P.length->(dO P j).inn q->ms.getD j false=((ax.pV t (cu l q,cw l q) (eH l true)).1&&!(ax.pV t (cu l q,cw l q) (eH l false)).1):=λj b a=>by{have g:=Lb u b;rw [hm,ě,Qt7,ô (by rw [eK];omega)];have e:(bE P)[j]'(by rw [eK];omega)=(bE P).getD j 0:=by{rw [ě,ô (by rw [eK];omega)];rfl};simp only [Ww9,Qf8,e];have T:=λv=>YL hc (λx h=>⟨(lR u b g a h).1,(lR u b g a h).2.1⟩) v;rw [T,T]};refine A_ ?_;unfold rC;rw [f,kU,F.mem q c];constructor;{rintro ⟨j,b,d,k⟩;rw [<-mk j ω k];exact d};intro d;have ⟨i,n,a⟩:=TQ u c;exact ⟨i,ω,by rw [mk i n a];exact d,a⟩
end
end
section
variable{v:Value}{V:Ó}{c k n:Nat}{vs:List Value}{A B l ss:List Sp}{p q:OA}{x1 x2 y1 y2:Int}
theorem Ud (V:ut):V.Le V.shut:=λ_ _ h=>h
def dC:qc:=(0,0,0)
def cC (a b:qc):Int:=ç a.1 b.1
theorem ordC:Ř cC:=⟨λa b h=>by unfold cC at *;rcases cE a.1 b.1 with ⟨c,e⟩|⟨c,e⟩|⟨c,e⟩<;>rcases cE b.1 a.1 with ⟨z,u⟩|⟨z,u⟩|⟨z,u⟩<;>rw [e] at h<;>rw [u]<;>grind,
 λa b d h f=>by unfold cC at *;rcases cE a.1 b.1 with ⟨c,e⟩|⟨c,e⟩|⟨c,e⟩<;>rcases cE b.1 d.1 with ⟨z,u⟩|⟨z,u⟩|⟨z,u⟩<;>rcases cE a.1 d.1 with ⟨E,D⟩|⟨E,D⟩|⟨E,D⟩<;>rw [e] at h<;>rw [u] at f<;>rw [D]<;>grind⟩
def RC (V:Ó)(v:Value)(c:qc):Prop:=∃(x y:Int)(p:OA),v=.agg #[.int .i64 x,.int .i64 y,.pointer p,.int .i64 c.2.1,.int .i64 c.2.2]/\RR V (.agg #[.int .i64 x,.int .i64 y,.pointer p]) c.1/\Sz 1000000 c.1
theorem RC.le {V V':ut}{c:qc}(h:RC V v c)(l:V.Le V'):RC V' v c:=by obtain ⟨x,y,p,e,b,a⟩:=h;exact ⟨x,y,p,e,ra,a⟩
theorem RC.shape {c:qc}(h:RC V v c):∃(x y:Int)(p:OA)(a b:Int),v=dB #[Ô .i64 x,Ô .i64 y,Õ p,Ô .i64 a,Ô .i64 b]:=by obtain ⟨x,y,p,e,-⟩:=h;exact ⟨x,y,p,_,_,e⟩
theorem QG {w:un}{a b:qc}(h:RC V v a)(u:RC V w b):À 270 #[v,w] V λr W=>r=Ô .i64 (cC a b):=by obtain ⟨x,y,p,rfl,f,d⟩:=h;obtain ⟨g,i,j,rfl,e,c⟩:=u;refine DU V _ λk l=>(iO ra ra d c).s ?_;rintro r V2 m rfl;exact ⟨_,rfl,λn o=>rfl⟩
structure SR (V:Ó) (n:Nat) (vs:List Value) (l:List qc):Prop where
 row:é 5 RC V vs l
 len:n=l.length
 kS:l.length<4000
theorem SR.le {V V':ut}{l:zA qc}(h:SR V n vs l)(e:V.Le V'):SR V' n vs l:=⟨h.row.le λ_ _ g=>RC.le g e,h.len,h.kS⟩
theorem SR.get {l:zA qc}(h:SR V n vs l){k:Nat}(u:k<l.length):∃(x y:Int)(p:OA)(a b:Int),((0+k*5)+5<=vs.length/\(vs.drop (0+k*5)).take 5=[Ô .i64 x,Ô .i64 y,Õ p,Ô .i64 a,Ô .i64 b])/\RC V (dB #[Ô .i64 x,Ô .i64 y,Õ p,Ô .i64 a,Ô .i64 b]) (l.getD k dC):=by obtain ⟨xs,-,c,f,g⟩:=h.row.get (d:=dC) u φ;obtain ⟨x,y,p,a,b,e⟩:=c.shape;have e:=Æ Array.toList (Value.agg.inj e);subst e;rw [č];exact ⟨x,y,p,a,b,⟨f,g⟩,c⟩
theorem RC.cells {c:qc}(h:RC V v c):∃xs:zA un,v=.agg xs.toArray/\xs.length=5/\∀x∈xs,x.oneCell'=true:=by obtain ⟨_,_,_,_,_,rfl⟩:=h.shape;exact ⟨_,rfl,rfl,Į.1 rfl⟩
theorem MY {lb:Nat}{l:zA qc}(hw:V.w.heap[lb]?=some (.cells vs.toArray 350 (0,0)))(z:V.X lb)(h:SR V n vs l):À 269 #[yD (some ⟨lb,0,none⟩) n c,.func (.func 270) #[] #[]] V λr W=>r=ê #[]/\∃u l',W.w.heap[lb]?=some (.cells u.toArray 350 (0,0))/\SR W n u l'/\l'.Perm l/\l'.Pairwise λx y=>x.1<=y.1:=by have kS:=h.kS;refine (Du (R:=RC) (cf:=cC) G5 aggC sizC RC.le RC.cells ordC QG φ hw z h.row h.len).s λr V' i ⟨rfl,u,l',e,row,pm,g⟩=>⟨rfl,u,l',e,⟨row,h.len.m pm.length_eq.symm,by rw [pm.length_eq];exact kS⟩,pm,g.imp λ{a b} d=>?_⟩;unfold cC at d;rcases cE b.1 a.1 with ⟨f,e⟩|⟨f,e⟩|⟨f,e⟩<;>rw [e] at d<;>grind
theorem BQ:À 269 #[yD none 0 0,.func (.func 270) #[] #[]] V λr W=>r=ê #[]:=
 (tM G5).s λ_ _ _ h=>h.1
def qM (m:Nat):Prop:=∀(V:Ó)(lb n c:Nat)(vs:List Value)(l:List qc),l.length=m->V.w.heap[lb]?=some (.cells vs.toArray 350 (0,0))->V.X lb->SR V n vs l ->
 À 269 #[.slice (some ⟨lb,0,none⟩) n c,.func (.func 270) #[] #[]] V λr W=>r=.tuple #[]/\∃u l',W.w.heap[lb]?=some (.cells u.toArray 350 (0,0))/\SR W n u l'/\l'.Perm l/\l'.Pairwise λx y=>x.1<=y.1
theorem IL (m:Nat):qM m:=λ_ _ _ _ _ _ _ hw a h=>MY hw a h
theorem Gj {V:ut}{u z D:Nat}{x y:Int}{acc:md->md->md}(hw:V.w.heap[u]?=some (.cells #[.func (.func D) #[] #[]] 305 (0,0)))(M:V.X u)(E:V.w.heap[z]?=some (.cells #[Ô .i64 x,Ô .i64 y] 348 (0,0)))(F:V.X z)(hne:u≠z)(N:∀a b (W:ut),À D #[gF a,gF b] W λr _=>r=gF (acc a b)):À 271 #[Õ (some ⟨u,0,none⟩),Õ (some ⟨z,0,none⟩)] V λr W=>r=gF (acc (decide ((0:Int)<x)) (decide ((0:Int)<y)))/\W.w.heap[u]?=some (.cells #[.func (.func D) #[] #[]] 305 (0,0))/\W.w.heap[z]?=some (.cells #[Ô .i64 x,Ô .i64 y] 348 (0,0)):=by refine DV u z D x y V _ hw M E F hne ⟨φ,φ,λc f=>(N _ _ c).s ?_⟩;rintro r V2 g rfl;exact ⟨_,rfl,λh i d e=>⟨rfl,d,e⟩⟩
def PS (A:List Sp)(k:Nat)(m:Int):List Value:=if k=0 then [.int .i64 m,.int .i64 0] else if k=1 then [.int .i64 (nR A),.int .i64 m] else []
theorem X5 {m:Int}(u:k<2):(PS A k m)[0+k*1]?=some (Ô .i64 m):=by obtain rfl|rfl:k=0\/k=1:=ω;{rfl};rfl
theorem X7 {m:Int}(u:k<2):(PS A k m).length=2:=by obtain rfl|rfl:k=0\/k=1:=ω;{rfl};rfl
theorem X8 {m u:Int}(z:k<2):(PS A k m).set (0+k*1) (Ô .i64 u)=PS A k u:=by obtain rfl|rfl:k=0\/k=1:=ω;{rfl};rfl
theorem X2 {a b:zA Sp}:nR (a++b)=nR a+nR b:=by
 induction a with
 | nil=>simp [nR]
 | cons s r u=>simp only [Qc2,nR];omega
theorem Il:∀{a:zA Sp},0<=nR a/\nR a<=a.length
 | []=>⟨Wx9 _,Wx9 _⟩
 | s::r=>by
  have ⟨u,z⟩:=Il (a:=r);simp only [nR,Ĉ];split<;>omega
theorem WY {c:qc}:c∈rk A B->(c.2.1=0\/c.2.1=1)/\(c.2.2=1\/c.2.2=-1):=by intro h;have one:∀{k:Int} {s:Sp},c∈ko k s->c.2.1=k/\(c.2.2=1\/c.2.2=-1):=λ{k s} h=>by{rcases ü.1 h with h|h;{split at h;{cases h};rw [ú.1 h];exact ⟨rfl,.inl rfl⟩};split at h;{cases h};rw [ú.1 h];exact ⟨rfl,.inr rfl⟩};rcases ü.1 h with h|h<;>grind
theorem IQ {k:Int}:∀{l:zA qc},(∀c∈l,c.2.2=1\/c.2.2=-1)->-(l.length:Int)<=iY k l/\iY k l<=l.length
 | [],_=>⟨Wx9 _,Wx9 _⟩
 | c::r,h=>by
  have ⟨u,z⟩:=IQ (k:=k) (l:=r) λx a=>h x (by simp [a]);have:=h c ψ;simp only [iY,Ĉ];split<;>omega
def K3 (A B:List Sp)(l:List qc):List Value:=[.int .i64 (nR A+iY 0 l),.int .i64 (nR B+iY 1 l)]
def osX (A B:List Sp)(l:List qc)(k:Int):Int:=if k=0 then nR A+iY 0 l else nR B+iY 1 l
theorem X_ {l:zA qc}{k:Int}(u:k=0\/k=1):(K3 A B l)[0+k.toNat*1]?=some (Ô .i64 (osX A B l k)):=by rcases u with rfl|rfl<;>rfl
theorem Ya {l:zA qc}{c:qc}(u:c.2.1=0\/c.2.1=1):(K3 A B l).set (0+c.2.1.toNat*1) (Ô .i64 (osX A B l c.2.1+c.2.2))=K3 A B (l++[c]):=by unfold K3 osX;rw [DA,DA];simp only [iY];rcases u with h|h<;>rw [h];{simp [Int.add_assoc]};simp [Int.add_assoc]
structure CR (V:Ó) (n c:Nat) (vs:List Value) (l:List qc):Prop where
 len:n=l.length
 le:n<=c
 cap:c*5<=vs.length
 row:é 5 RC V vs l
 ne:vs≠[]->l≠[]
theorem CR.snoc {l:zA qc}(h:CR V n c vs l){x y:Int}{q:Rat}(z:RR V (dB #[Ô .i64 x,Ô .i64 y,Õ p]) q)(D:Sz 1000000 q)(k d:Int){sp:zA un}{u:Nat}(E:n+1<=u)(F:u*5<=(n+1)*5+sp.length):CR V (n+1) u (vs.take (n*5)++([Ô .i64 x,Ô .i64 y,Õ p,Ô .i64 k,Ô .i64 d]:zA un)++sp) (l++[(q,k,d)]):=by have b:=h.len;have hc:=h.cap;have e:=h.le;refine ⟨by rw [ï,b];rfl,E,?_,?_,λ_=>ψ⟩;{have f:(vs.take (n*5)).length=n*5:=by{rw [ì];omega};grind};{have:=h.row.snoc (sp:=sp) (xs:=[Ô .i64 x,Ô .i64 y,Õ p,Ô .i64 k,Ô .i64 d]) (a:=(q,k,d)) rfl ⟨x,y,p,rfl,z,D⟩ φ;grind}
structure IR (V:Ó) (n c:Nat) (vs:List Value) (l:List Sp):Prop where
 len:n=l.length
 le:n<=c
 cap:c*8<=vs.length
 row:é 8 kJ V vs l
theorem IR.s {V':ut}(h:IR V n c vs l)(e:V.Le V'):IR V' n c vs l:=⟨h.len,h.le,h.cap,h.row.le λ_ _ g=>kJ.le g e⟩
theorem IR.nil {V:ut}:IR V 0 0 [] []:=⟨rfl,Ú _,Ú _,é.nil⟩
theorem IR.snoc (h:IR V n c vs l){s:Sp}(D:RR V (dB #[Ô .i64 x1,Ô .i64 x2,Õ p]) s.lo)(u:RR V (dB #[Ô .i64 y1,Ô .i64 y2,Õ q]) s.hi){sp:zA un}{z:Nat}(E:n+1<=z)(F:z*8<=(n+1)*8+sp.length):IR V (n+1) z (vs.take (n*8)++([Ô .i64 x1,Ô .i64 x2,Õ p,Ô .i64 y1,Ô .i64 y2,Õ q,gF s.a,gF s.b]:zA un)++sp) (l++[s]):=by have d:=h.len;have hc:=h.cap;have e:=h.le;refine ⟨by rw [ï,d];rfl,E,?_,?_⟩;{have f:(vs.take (n*8)).length=n*8:=by{rw [ì];omega};grind [List.length_cons]};{have:=h.row.snoc (sp:=sp) (xs:=[Ô .i64 x1,Ô .i64 x2,Õ p,Ô .i64 y1,Ô .i64 y2,Õ q,gF s.a,gF s.b]) (a:=s) rfl (qyJ ⟨rfl,D,u⟩) φ;grind}
theorem one5 {x y:Int}{a b:Int}:∀v∈([Ô .i64 x,Ô .i64 y,Õ p,Ô .i64 a,Ô .i64 b]:zA un),v.oneCell'=true:=by intro v hm;simp only [í,Ğ,Ì] at hm;rcases hm with rfl|rfl|rfl|rfl|rfl<;>rfl
theorem one8 {a b:md}:∀v∈([Ô .i64 x1,Ô .i64 x2,Õ p,Ô .i64 y1,Ô .i64 y2,Õ q,gF a,gF b]:zA un),v.oneCell'=true:=by intro v hm;simp only [í,Ğ,Ì] at hm;rcases hm with rfl|rfl|rfl|rfl|rfl|rfl|rfl|rfl<;>rfl
def LK (A B:List Sp)(k:Nat):List Sp:=if k=0 then A else B
def Y0 (A B:List Sp)(k:Nat):List qc:=if k=0 then [] else if k=1 then A.flatMap (ko 0) else rk A B
def osA (A B:List Sp)(k:Nat):List Value:=if k=2 then K3 A B [] else PS A k 0
theorem JM {A B:zA Sp}(u:k<2):Y0 A B k++(LK A B k).flatMap (ko k)=Y0 A B (k+1):=by obtain rfl|rfl:k=0\/k=1:=ω;{rfl};rfl
theorem US (u:k<2):PS A k (nR (LK A B k))=osA A B (k+1):=by obtain rfl|rfl:k=0\/k=1:=ω;{rfl};simp [PS,osA,K3,LK,iY]
theorem mA_pos {b:Nat}(h:0<c):mA b c=some ⟨b,0,none⟩:=by unfold mA;rw [Ã ω]
theorem Ra {f:Sp->zA qc}{j:Nat}(h:j<l.length):(l.take (j+1)).flatMap f=(l.take j).flatMap f++f l[j]:=by rw [ĳ,ô h,Qn5];simp
theorem UM {j:Nat}(h:j<l.length):nR (l.take (j+1))=nR (l.take j)+if l[j].a then 1 else 0:=by rw [ĳ,ô h,X2];simp [nR]
theorem WK {A B:zA Sp}{k j:Nat}(u:k<2):(Y0 A B k++((LK A B k).take j).flatMap (ko k)).length<=fe A+fe B:=by have b:((LK A B k).flatMap (ko k)).length=(((LK A B k).take j).flatMap (ko k)).length+(((LK A B k).drop j).flatMap (ko k)).length:=by{grind [List.take_append_drop]};have a:=Æ List.length (JM (A:=A) (B:=B) u);rw [ï] at a;have c:(Y0 A B (k+1)).length<=(rk A B).length:=by{obtain rfl|rfl:k=0\/k=1:=ω;{unfold rk;rw [ï];exact Qr6 _ _};exact Ú _};grind [HM]
theorem Yz {acc:md->md->md}{cs:zA qc}{was:md}{last:Sp}{out:zA Sp}(h:YU acc A B cs cs.length was last out){op:Int}(u:∀t,acc (ð A t) (ð B t)=ĥ op (ð A t) (ð B t)):DD was last out=Ü op A B:=by refine reg_eq (á (A++B)) h.rg (comb_reg _ _ _) λt a=>?_;rw [comb_inB _ _ _ a,h.inn t (λs b he=>a (fC.2 ⟨s,b,he⟩)) λh=>Å h (Ww6 _)];exact u t
theorem J7 {p0 p1:OA}{n0 c0 n1 c1 fa:Nat}{op:Int}{acc:md->md->md}(hacc:∀t,acc (ð A t) (ð B t)=ĥ op (ð A t) (ð B t))(hA:aZ 8 kJ V p0 n0 A)(hB:aZ 8 kJ V p1 n1 B)(gA:∀s∈A,s.good)(gB:∀s∈B,s.good)(sA:∀s∈A,s.sz 1000000)(sB:∀s∈B,s.sz 1000000)(nA:A.length<=1000)(nB:B.length<=1000)(kS:fe A+fe B<200)(so:qM (fe A+fe B))(hf:∀a b (W:ut),À fa #[gF a,gF b] W λr _=>r=gF (acc a b)):À 215 #[dB #[yD p0 n0 c0,yD p1 n1 c1],.func (.func fa) #[] #[]] V λr W=>∃q m e,r=yD q m e/\aZ 8 kJ W q m (Ü op A B):=by
 obtain rfl:=hA.len;obtain rfl:=hB.len
 refine I5 p0 _ c0 p1 _ c1 fa V _ ⟨λz V'=>∃k:Nat,z.2.2.2.1=(k:Int)/\k<=2/\CR V' z.1 z.2.1 z.2.2.1 (Y0 A B k)/\z.2.2.2.2=osA A B k,λz=>2-z.2.2.2.1.toNat,
  ⟨(0,0,[],0,[Ô .i64 0,Ô .i64 0]),σ,0,rfl,φ,⟨rfl,Ú _,Ú _,é.nil,λh=>Å rfl h⟩,rfl⟩,?_⟩
 rintro ⟨z1,z2,vs,z4,os⟩ V1 l1 ⟨k,e4,d2,hc,I⟩;dsimp only at e4 hc I;subst e4 I;dsimp only;refine ⟨rfl,λK=>?_,λK=>?_⟩
 ·have K:=Á K;have hk:k<2:=ω
  have S:i64.wrap ((k:Int)+1)=((k+1:Nat):Int):=by rw [aq ω];rfl
  rw [S,ß]
  obtain ⟨p,n,c,el,hL⟩:∃p n c,([(p0,A.length,c0),(p1,B.length,c1)]:zA (OA×Nat×Nat)).getD k (none,0,0)=(p,n,c)/\aZ 8 kJ V p n (LK A B k):=by obtain rfl|rfl:k=0\/k=1:=ω;{exact ⟨_,_,_,rfl,hA⟩};exact ⟨_,_,_,rfl,hB⟩
  rw [el];dsimp only
  have c2:(∀s∈LK A B k,s.sz 1000000)/\(LK A B k).length<=1000:=by obtain rfl|rfl:k=0\/k=1:=ω;{exact ⟨sA,nA⟩};exact ⟨sB,nB⟩
  obtain ⟨sL,nL⟩:=c2;obtain rfl:=hL.len
  refine ⟨Ź,λz V'=>∃j:Nat,z.2.2.2.1=(j:Int)/\j<=(LK A B k).length/\CR V' z.1 z.2.1 z.2.2.1 (Y0 A B k++((LK A B k).take j).flatMap (ko k))/\z.2.2.2.2=PS A k (nR ((LK A B k).take j)),λz=>(LK A B k).length-z.2.2.2.1.toNat,
   ⟨(z1,z2,vs,0,osA A B k),σ,0,rfl,å _,by simpa using hc,by rw [Qd4];unfold osA;rw [Ã ω];rfl⟩,?_⟩
  rintro ⟨S,w2,us,w4,os⟩ V2 l2 ⟨j,e4,pH,E,I⟩;dsimp only at e4 E I;subst e4 I;dsimp only;refine ⟨rfl,λhj=>?_,λhj=>?_⟩
  ·have hj:=Á hj;have O:j<(LK A B k).length:=ω
   have w3:i64.wrap ((j:Int)+1)=((j+1:Nat):Int):=by rw [aq ω];rfl
   rw [ß,w3];obtain ⟨ad,ha,xs,-,hv,D⟩:=(hL.le (l1.m l2)).at_ j O;obtain ⟨x1,x2,q,y1,y2,q',ex,T,r2⟩:=hv;have ex:=Æ Array.toList (Value.agg.inj ex);dsimp only at ex;subst ex;have hs:=sL _ (ò O);have ft:=Ra (f:=ko (k:Int)) O;have ot:=UM O;have ob:=Il (a:=(LK A B k).take j);rw [ì] at ob;have cn:=E.len;have bl:=WK (A:=A) (B:=B) (j:=j) hk;rw [<-cn] at bl;have c1:ko (k:Int) (LK A B k)[j]=(if (LK A B k)[j].a then [] else [((LK A B k)[j].lo,(k:Int),1)])++(if (LK A B k)[j].b then [] else [((LK A B k)[j].hi,(k:Int),-1)]):=rfl;rw [c1] at ft;generalize (LK A B k)[j]=s at *
   refine ⟨aW ha,Ź,_,_,_,_,_,_,_,_,ad,ha,D 0 _ rfl,D 1 _ rfl,D 2 _ rfl,D 3 _ rfl,D 4 _ rfl,D 5 _ rfl,D 6 _ rfl,D 7 _ rfl,
    λz V'=>CR V' z.1 z.2.1 z.2.2.1 (Y0 A B k++((LK A B k).take j).flatMap (ko k)++(if s.a then [] else [(s.lo,(k:Int),1)]))/\z.2.2.2=PS A k (nR ((LK A B k).take (j+1))),⟨λhb=>?_,λhb=>?_⟩,?_⟩
   ·rw [hb,Ä rfl] at ot;rw [hb,Ä rfl,ý];refine ⟨Ź,_,X5 hk,Ź,by rw [X7 hk];omega,(S,w2,us,PS A k (nR ((LK A B k).take (j+1)))),?_,E,rfl⟩;have e:(PS A k (nR ((LK A B k).take j))).set (0+k*1) (Ô .i64 (i64.wrap (nR ((LK A B k).take j)+1)))=PS A k (nR ((LK A B k).take (j+1))):=by{rw [X8 hk,aq ω,ot]};(and_intros<;>first|rfl|exact e)
   ·rw [hb,Ã φ,Wy7] at ot;rw [hb,Ã φ];refine ⟨ω,E.le,E.cap,rfl,one5,λsp c' C P=>⟨(S+1,c',_,PS A k (nR ((LK A B k).take j))),σ,E.snoc T hs.1 _ _ C P,by dsimp only;rw [ot]⟩⟩
   ·rintro ⟨k1,k2,ks,os⟩ V3 l3 ⟨F,I⟩;dsimp only at F I;subst I;dsimp only;have d3:k1<=S+1:=by{rw [F.len,cn,ï];split<;>simp};refine ⟨rfl,λz V'=>CR V' z.1 z.2.1 z.2.2 (Y0 A B k++((LK A B k).take (j+1)).flatMap (ko k)),⟨λhb=>?_,λhb=>?_⟩,?_⟩;{have hb:s.b=false:=by{simpa using hb};simp only [hb] at ft;rw [ft,<-Ě,<-Ě];refine ⟨ω,F.le,F.cap,rfl,one5,λsp c' C P=>⟨(k1+1,c',_),σ,F.snoc ra hs.2 _ _ C P⟩⟩};{have hb:s.b=true:=by{simpa using hb};simp only [hb,Ï,ý] at ft;rw [ft,<-Ě];exact ⟨(k1,k2,ks),σ,F⟩};rintro ⟨N,U,ms⟩ V4 l4 a3;dsimp only at a3;exact ⟨rfl,(N,U,ms,((j+1:Nat):Int),_),ω,σ,j+1,rfl,ω,a3,rfl⟩
  ·have hj:=Â hj;obtain rfl:j=(LK A B k).length:=ω;rw [Ė] at *;refine ⟨(S,w2,us,((k+1:Nat):Int),PS A k (nR (LK A B k))),ω,σ,k+1,rfl,ω,?_,US hk⟩;rw [<-JM hk];exact E
 have K:=Â K;obtain rfl:k=2:=ω
 have hc:CR V1 z1 z2 vs (rk A B):=hc;have cl:(rk A B).length<4000:=by rw [HM];omega
 have c3:=hc.len;have d4:=hc.le;rw [show osA A B 2=K3 A B [] from rfl];have J:∀l:zA qc,K3 A B l≠[]:=λl h=>by cases h
 refine ⟨λz V'=>∃cs:zA qc,SR V' z1 z cs/\cs.Perm (rk A B)/\cs.Pairwise (λx y=>x.1<=y.1),⟨λh0=>?_,λh0 V7 l7 bk e7 h7=>?_⟩,?_⟩
 ·subst h0;have C:=hc.cap;rw [ĺ] at C;obtain rfl:z2=0:=ω;obtain rfl:z1=0:=ω;have a4:rk A B=[]:=List.eq_nil_of_length_eq_zero ω;exact ⟨rfl,λV5 l5=>BQ.s λr V6 l6 hr=>⟨hr,[],σ,[],⟨é.nil,rfl,ψ⟩,by rw [a4],List.Pairwise.nil⟩⟩
 ·have d5:=Qh6.2 (hc.ne h0);show À _ _ _ _;rw [mY h0,mA_pos (show 0<z2 by omega)];refine (so (V7.ao [bk]) bk _ _ _ (rk A B) HM (e7 h0) ⟨ψ,h7 h0⟩ ⟨hc.row.le λ_ _ g=>RC.le g λb o h=>l7 b o h,c3,cl⟩).s λr V8 l8 ⟨rfl,a5,cs,e8,a6,hp,M⟩=>⟨rfl,h0,a5,λe=>?_,e8,a5,σ,cs,a6.le (Ud _),hp,M⟩;have C:=a6.row.eX φ;rw [e,hp.length_eq,ĺ] at C;omega
 rintro d6 V9 l9 ⟨cs,a7,hp,M⟩;have zl:=a7.len;have a1:=λc (h:c∈cs)=>WY (hp.mem_iff.1 h);refine ⟨rfl,λeV c4 ab ob ea ha I ho c5=>?_⟩;rw [mY (J [])];refine (Gj (V:=eV.ao [ab,ob]) (x:=nR A+iY 0 []) (y:=nR B+iY 1 []) (acc:=acc) ea ⟨ψ,ha⟩ (I (J _)) ⟨ψ,ho (J _)⟩ (c5 (J _)) hf).s ?_;rintro r eW cU ⟨rfl,e1,e2⟩
 refine ⟨_,rfl,e1,J _,K3 A B [],J _,e2,λz V'=>∃(i:Nat)(last:Sp)(out:zA Sp),z.2.2.2.2.1=(i:Int)/\i<=cs.length/\out.length<=i/\YU acc A B cs i z.2.2.2.1 last out/\z.2.2.2.2.2.1=K3 A B (cs.take i)/\IR V' z.1 z.2.1 z.2.2.1 out /\
   RR V' (dB #[Ô .i64 z.2.2.2.2.2.2.1,Ô .i64 z.2.2.2.2.2.2.2.1,Õ z.2.2.2.2.2.2.2.2.1]) last.lo/\RR V' (dB #[Ô .i64 z.2.2.2.2.2.2.2.2.2.1,Ô .i64 z.2.2.2.2.2.2.2.2.2.2.1,Õ z.2.2.2.2.2.2.2.2.2.2.2.1]) last.hi/\last.a=z.2.2.2.2.2.2.2.2.2.2.2.2.1/\last.b=z.2.2.2.2.2.2.2.2.2.2.2.2.2,
  λz=>cs.length-z.2.2.2.2.1.toNat,⟨(0,0,[],_,0,K3 A B [],0,0,none,0,0,none,true,false),σ,0,⟨0,0,true,false⟩,[],rfl,å _,å _,VE (acc:=acc) (by show acc (decide ((0:Int)<nR A+0)) (decide ((0:Int)<nR B+0))=_;rw [Wy7,Wy7]) hp gA gB M,rfl,IR.nil,RR.zero _,RR.zero _,rfl,rfl⟩,?_⟩
 rintro ⟨N,U,us,d,iz,ov,x1,x2,p,y1,y2,q,la,lb⟩ gC dI ⟨i,last,out,e5,NF,oi,hI,a8,v,T,r2,f1,f2⟩;dsimp only at e5 hI a8 v T r2 f1 f2;subst e5 a8 f1 f2;dsimp only;have ml:=v.len;refine ⟨rfl,λhi=>?_,λhi=>?_⟩
 ·have hi:=Á hi;have G:i<cs.length:=ω
  have X:=a7.le λb o h=>dI b o (cU b o (c4 b o h));have gd:∀j (h:j<cs.length),cs.getD j dC=cs[j]:=λj h=>by rw [ě,ô h];rfl
  have ⟨x,y,pp,a,b,g,x',y',p',ev,hr,a9⟩:=X.get G;rw [gd i G] at ev hr a9;rw [č] at g;have ev:=Æ Array.toList (Value.agg.inj ev);simp only [Í] at ev;obtain ⟨rfl,rfl,rfl,rfl,rfl⟩:=ev;have ⟨ck,cd⟩:=a1 _ (ò G);have S:i64.wrap ((i:Int)+1)=((i+1:Nat):Int):=by rw [aq ω];rfl
  have tk:cs.take (i+1)=cs.take i++[cs[i]]:=by rw [ĳ,ô G];rfl
  have b6:(K3 A B (cs.take i)).set (0+cs[i].2.1.toNat*1) (Ô .i64 (i64.wrap (osX A B (cs.take i) cs[i].2.1+cs[i].2.2)))=K3 A B (cs.take (i+1)):=by have b1:=Il (a:=A);have b2:=Il (a:=B);have b3:=IQ (k:=0) (l:=cs.take i) λc hc=>(a1 c (ţ hc)).2;have b4:=IQ (k:=1) (l:=cs.take i) λc hc=>(a1 c (ţ hc)).2;rw [ì] at b3 b4;have b5:-9000<=osX A B (cs.take i) cs[i].2.1/\osX A B (cs.take i) cs[i].2.1<=9000:=by{unfold osX;split<;>omega};rw [aq ω,Ya ck,tk]
  rw [S,ß,ß];refine ⟨Ź,ω,x,y,pp,_,_,g,Ź,_,X_ ck,Ź,by rw [show (K3 A B (cs.take i)).length=2 from rfl];omega,?_⟩;rw [b6];refine ⟨λt V'=>(t=true->∃h:i+1<cs.length,cs[i].1=cs[i+1].1)/\(t=false->∀h:i+1<cs.length,cs[i].1<cs[i+1].1),⟨λC=>?_,λC=>?_⟩,?_⟩
  ·have C:=Á C;have Q:i+1<cs.length:=ω;have ⟨u,w,pw,a',b',g',x',y',p',R,c6,Y⟩:=X.get Q;rw [gd _ Q] at c6 Y;rw [č] at g';have R:=Æ Array.toList (Value.agg.inj R);simp only [Î] at R;obtain ⟨rfl,rfl,rfl,-⟩:=R;refine ⟨Ź,ω,u,w,pw,⟨ω,?_⟩,λiI dS=>(nV ra ra Y a9 φ).s ?_⟩;{have:∀l:zA un,l.take 3=(l.take 5).take 3:=λl=>by{rw [Wq0];rfl};rw [this,ğ,g'.2];rfl};rintro r kK fH rfl;refine ⟨_,rfl,_,σ,λh=>⟨Q,Eq.symm (Á h)⟩,λh _=>?_⟩;have h:=Â h;have:=Qv6.1 M i (i+1) G Q ω;grind
  ·have C:=Â C;exact ⟨false,σ,π,λ_ h=>Å h ω⟩
  rintro t ke fB ⟨ht,c7⟩;refine ⟨rfl,λe=>?_,λe kf e_ c8 c9 ea ha I ho b7=>?_⟩
  ·obtain ⟨C,P⟩:=ht e;exact ⟨(N,U,us,d,((i+1:Nat):Int),K3 A B (cs.take (i+1)),x1,x2,p,y1,y2,q,last.a,last.b),ω,σ,i+1,last,out,rfl,ω,ω,YA hI C P,rfl,v.s fB,T.le fB,ra,rfl,rfl⟩
  rw [mY (J _)];refine (Gj (V:=kf.ao [c8,c9]) (x:=nR A+iY 0 (cs.take (i+1))) (y:=nR B+iY 1 (cs.take (i+1))) (acc:=acc) ea ⟨ψ,ha⟩ (I (J _)) ⟨ψ,ho (J _)⟩ (b7 (J _)) hf).s ?_;rintro r lu gX ⟨rfl,d0,d1⟩;have st:=YB hI G (c7 e) hp gA gB M rfl;generalize acc (decide ((0:Int)<nR A+iY 0 (cs.take (i+1)))) (decide ((0:Int)<nR B+iY 1 (cs.take (i+1))))=now at st ⊢;have L:gC.Le lu.shut:=λb o h=>gX b o (e_ b o (fB b o h))
  have same:now=d->IR lu.shut N U us (DC d now last cs[i].1 out)/\RR lu.shut (dB #[Ô .i64 x1,Ô .i64 x2,Õ p]) (mw d now last cs[i].1).lo/\RR lu.shut (dB #[Ô .i64 y1,Ô .i64 y2,Õ q]) (mw d now last cs[i].1).hi /\
    last.a=(mw d now last cs[i].1).a/\last.b=(mw d now last cs[i].1).b:=λh=>by
   subst h;unfold DC mw;cases now<;>exact ⟨v.s L,T.le L,r2.le L,rfl,rfl⟩
  refine ⟨_,rfl,d0,J _,K3 A B (cs.take (i+1)),J _,d1,λz V'=>IR V' z.1 z.2.1 z.2.2.1 (DC d now last cs[i].1 out)/\RR V' (dB #[Ô .i64 z.2.2.2.1,Ô .i64 z.2.2.2.2.1,Õ z.2.2.2.2.2.1]) (mw d now last cs[i].1).lo /\
   RR V' (dB #[Ô .i64 z.2.2.2.2.2.2.1,Ô .i64 z.2.2.2.2.2.2.2.1,Õ z.2.2.2.2.2.2.2.2.1]) (mw d now last cs[i].1).hi/\z.2.2.2.2.2.2.2.2.2.1=(mw d now last cs[i].1).a/\z.2.2.2.2.2.2.2.2.2.2=(mw d now last cs[i].1).b,
   ⟨λhn=>⟨λhw=>?_,λhw=>⟨λa2=>⟨λH=>?_,λ_=>?_⟩,λa2=>?_⟩⟩,λhn=>⟨λhw=>⟨λH=>?_,λH=>?_⟩,λhw=>?_⟩⟩,?_⟩
  ·have hw:d=false:=by{simpa using hw};subst hn hw;exact ⟨(N,U,us,x,y,pp,0,0,none,false,false),σ,v.s L,hr.le L,RR.zero _,rfl,rfl⟩
  ·rw [hn] at H;cases H
  ·exact ⟨(N,U,us,x1,x2,p,y1,y2,q,last.a,last.b),σ,same (hn.m a2.symm)⟩
  ·rw [a2] at hw;cases hw
  ·subst hn hw;exact ⟨ω,v.le,v.cap,rfl,one8,λsp c' C P=>⟨(N+1,c',_,x1,x2,p,x,y,pp,last.a,last.b),σ,(v.s L).snoc (s:=⟨last.lo,cs[i].1,last.a,last.b⟩) (T.le L) (hr.le L) C P,T.le L,hr.le L,rfl,rfl⟩⟩
  ·rw [hn] at H;cases H
  ·exact ⟨(N,U,us,x1,x2,p,y1,y2,q,last.a,last.b),σ,same (hn.m hw.symm)⟩
  ·rintro ⟨k1,k2,ks,u1,u2,pu,t1,t2,pt,ua,ub⟩ mD gj ⟨Z,b8,b9,g1,g2⟩;dsimp only at Z b8 b9 g1 g2;subst g1 g2;dsimp only;have ol:(DC d now last cs[i].1 out).length<=i+1:=by{unfold DC;split;{rw [ï];simp;omega};omega};exact ⟨rfl,(k1,k2,ks,now,((i+1:Nat):Int),K3 A B (cs.take (i+1)),u1,u2,pu,t1,t2,pt,_,_),ω,σ,i+1,_,_,rfl,ω,ol,st,rfl,Z,b8,b9,rfl,rfl⟩
 ·have hi:=Â hi;obtain rfl:i=cs.length:=ω;have fin:=Yz hI hacc;refine ⟨λz V'=>IR V' z.1 z.2.1 z.2.2 (Ü op A B),⟨λhw=>?_,λhw=>?_⟩,?_⟩;{subst hw;refine ⟨ω,v.le,v.cap,rfl,one8,λsp c' C P=>⟨(N+1,c',_),σ,?_⟩⟩;rw [<-fin];have:=hI.fr rfl;rw [this.1] at r2;exact v.snoc (s:=ou last) T r2 C P};{subst hw;refine ⟨(N,U,us),σ,?_⟩;rw [<-fin];simpa [DD] using v};rintro ⟨k1,k2,ks⟩ nf je h;dsimp only at h;obtain rfl:=h.len;exact ⟨rfl,λkg il bk hb=>⟨_,_,_,rfl,aZ.bo hb (h.row.le λ_ _ g=>kJ.le g il) φ h.le⟩⟩
theorem c_J1 (a b:md)(W:ut):À 218 #[gF a,gF b] W λr _=>r=gF ((λx _=>x:md->md->md) a b):=
 Fg W _ λV l=>rfl
theorem BT (F:aZ 8 kJ V p n A)(u:∀s∈A,s.good)(z:∀s∈A,s.sz 1000000)(D:A.length<=1000)(M:fe A<200)(E:qM (fe A)):À 162 #[yD p n c] V λr W=>∃q m e,r=yD q m e/\aZ 8 kJ W q m (Ü 1 A []):=by refine LX V _ λa b=>(J7 (op:=1) (acc:=λx _=>x) (λt=>by simp [ĥ,ð]) ra (aZ.nil (p:=none)) u (λs h=>by cases h) z (λs h=>by cases h) D φ (by have:fe []=0:=rfl;omega) E c_J1).s ?_;rintro r V2 d ⟨q,m,e,rfl,g⟩;exact ⟨_,_,_,rfl,λf i=>⟨_,_,_,rfl,ra⟩⟩
theorem MO.lst (h:MO V p n ss):aZ 8 oO V p n ss:=by refine ⟨h.len,λi b=>?_⟩;have ⟨c,d,xs,a,hc⟩:=h.at_ i b;obtain ⟨_,_,_,_,_,_,_,_,_,_,_,_,_,_,e,-,-⟩:=wW a;exact ⟨c,d,xs,by rw [e];rfl,a,hc⟩
theorem tC (h:aZ 8 oO V p n ss):MO V p n ss:=
 ⟨h.len,λi a=>by obtain ⟨b,c,xs,-,d,hc⟩:=h.at_ i a;exact ⟨b,c,xs,d,hc⟩⟩
theorem Lt (h:é 8 oO V vs ss){m:Nat}(hm:m<ss.length*8)(u:vs[m]?=some v):v.oneCell'=true:=by have c:m/8<ss.length:=ω;have ⟨xs,d,f,hc⟩:=h.at_ (m/8) c;obtain ⟨_,_,_,_,_,_,_,_,_,_,_,_,_,_,e,-,-⟩:=wW f;have b:m%8<xs.length:=by{rw [d];exact ġ _ φ};have g:m=m/8*8+m%8:=ω;have:=hc (m%8) _ (ô b);rw [<-g,u] at this;obtain rfl:=ś this;have a:=ò b;generalize xs[m%8]=v at a;subst e;simp only [í,Ğ,Ì] at a;rcases a with rfl|rfl|rfl|rfl|rfl|rfl|rfl|rfl<;>rfl
theorem sz_hlf {x:Rat}(h:Sz k x):Sz (k+3) (x*((2:Int):Rat)⁻¹):=by have a:Sz 2 (((2:Int):Rat))⁻¹:=by{unfold Sz;decide +kernel};exact (h.mul a).s ω
theorem GX {c:zA Rat}(h:∀q∈c,Sz k q){q:Rat}(u:q∈bE c):Sz (2*k+4) q:=by have g:∀i,i<c.length->Sz k (c.getD i 0):=λi a=>by{rw [jN a];exact h _ (ò a)};have z:Sz (2*k+4) 0:=by{have b:(1:Nat)<2^(2*k+4):=Qf1 ω;exact ⟨ň (å _) b,b⟩};unfold bE at u;by_cases d:c.length=0;{rw [Ä d] at u;obtain rfl:q=0:=by{simpa using u};exact z};rw [Ã d] at u;rcases ü.1 u with u|u;{unfold EY at u;rcases í.1 u with rfl|u;{exact ((g 0 ω).sub jV).s ω};obtain ⟨i,a,rfl⟩:=ÿ.1 u;rw [Wj6] at a;exact (sz_hlf ((g i ω).add (g (i+1) ω))).s ω};obtain rfl:q=_:=by{simpa using u};exact ((g _ ω).add jV).s ω
theorem kn {op:Int}{ap bp:OA}{an ac bn bc:Nat}{la' lb':zA Sp}(ha:MO V ap an la')(hb:MO V bp bn lb')(hl:la'.length+lb'.length<10000000)(sa:∀s∈la',s.sz k)(sb:∀s∈lb',s.sz k)(hk:4*k+8<2^38):À 82 #[Ô .i64 op,yD ap an ac,yD bp bn bc] V λr W=>∃p n c,r=yD p n c/\MO W p n (Ü op la' lb'):=by
 have la:=ha.len;have lb:=hb.len;have ⟨xs,x1,x2,X⟩:=cQ ha.lst φ;have ⟨Y,y1,y2,Z⟩:=cQ hb.lst φ;refine y_ V _ ⟨xs,x1,ω,ω,Ú _,å _,ω,?_,λSn J5 D c3 h1 u=>⟨Y,y1,ω,ω,ω,?_,ω,?_,λWe a4 I c8 w A V1 l1 E J=>?_⟩⟩
 ·intro v B;obtain ⟨m,hm,rfl⟩:=Qc3 B;exact Lt X ω (ô hm)
 ·rw [List.take_nil,Ŝ,ï];omega
 ·intro v B;obtain ⟨m,hm,rfl⟩:=Qc3 B;exact Lt Z ω (ô hm)
 have F:é 8 oO V1 ((([]:zA un).take (0*8)++xs++D).take ((0+an)*8)++Y++I) (la'++lb'):=by have e:(([]:zA un).take (0*8)++xs++D).take ((0+an)*8)=xs.take (la'.length*8):=by{rw [List.take_nil,Ŝ,la,č,Ww0 ω]};rw [e];exact (eM X Z φ).le λ_ _ h=>h.le l1
 have hL:MO V1 (some ⟨E,0,none⟩) (0+an+bn) (la'++lb'):=by have:=tC (aZ.eY J F);rwa [show (la'++lb').length=0+an+bn by rw [ï];omega] at this
 have f:∀s∈la'++lb',s.sz k:=λs f=>by rcases ü.1 f with f|f;{exact sa s f};exact sb s f
 refine (HK hL (by rw [ï];omega) f).s ?_;rintro r V2 l2 ⟨K,L,M,rfl,hc⟩;have cl:=Gt (la'++lb');rw [ï] at cl
 have cs:∀q∈á (la'++lb'),Sz k q:=λq hq=>by have ⟨s,G,e⟩:=yy hq;rcases e with rfl|rfl;{exact (f s G).1};exact (f s G).2
 have o:Ü op la' lb'=rC (á (la'++lb')) (ju op la' lb' (á (la'++lb'))):=rfl;rw [o];generalize á (la'++lb')=cuts at hc cl cs;refine ⟨K,L,M,rfl,λa5 V3 l3=>(q_ (hc.le l3) ω cs).s ?_⟩;rintro r V4 l4 ⟨N,t,O,rfl,hp⟩;have P:=hp.len;rw [eK] at P;have ml:=lq op la' lb' cuts
 have Q:∀i (C:i<(bE cuts).length),(ju op la' lb' cuts).take (i+1)=(ju op la' lb' cuts).take i++[ĥ op (n_ la' (bE cuts)[i]==2) (n_ lb' (bE cuts)[i]==2)]:=λi C=>by rw [eK] at C;rw [ĳ,ô ω];unfold ju;rw [Qr8];rfl
 refine ⟨N,t,O,rfl,λz V'=>∃i:Nat,z.2.2.2=(i:Int)/\i<=cuts.length+1/\z.1=i/\z.1<=z.2.1/\z.2.1*1<=z.2.2.1.length/\é 1 RBl V' z.2.2.1 ((ju op la' lb' cuts).take i),λz=>cuts.length+1-z.2.2.2.toNat,
  ⟨(0,0,[],0),σ,0,rfl,å _,rfl,Ú _,Ú _,é.nil⟩,?_⟩
 rintro ⟨g,z2,vs,z4⟩ V5 l5 ⟨i,e4,NF,e1,ic,B,d⟩;dsimp only at e4 e1 ic B d;subst e4 e1;refine ⟨rfl,λj=>?_,λj gC dI a3 l=>?_⟩
 ·have j:(g:Int)<t:=Á j;have C:g<(bE cuts).length:=by{rw [eK];omega};dsimp only;rw [ß];have ⟨ad,b,p1,n1,c1,p2,n2,c2,H,hq,a0,a1,a2⟩:=Dl (hp.le l5) C;have sq:=GX cs (ò C);have R:∀s∈la',s.sz (2*k+4):=λs f=>⟨(sa s f).1.s ω,(sa s f).2.s ω⟩;have S:∀s∈lb',s.sz (2*k+4):=λs f=>⟨(sb s f).1.s ω,(sb s f).2.s ω⟩;refine ⟨aW H,Ź,b,p1,n1,c1,p2,n2,c2,ad,H,a0,a1,a2,λV6 l6=>(B7 ra ra R sq ω).s ?_⟩;rintro r V7 l7 rfl;refine ⟨_,rfl,λV8 l8=>(B7 ra ra S sq ω).s ?_⟩;rintro r V9 l9 rfl;have hm:=Q g C;generalize (n_ la' (bE cuts)[g]==2)=x at hm;generalize (n_ lb' (bE cuts)[g]==2)=y at hm;refine ⟨_,rfl,λz V'=>V9.Le V'/\z=(x||y),⟨λd=>⟨true,σ,Ó.Le.refl _,by rw [d];rfl⟩,λd=>⟨y,σ,Ó.Le.refl _,by rw [d];rfl⟩⟩,?_⟩;rintro a6 eV a7 ⟨a8,rfl⟩;refine ⟨rfl,λz V'=>eV.Le V'/\z=ĥ op x y,⟨λu=>?_,λu=>⟨λw=>?_,λw=>⟨λA=>?_,λA=>?_⟩⟩⟩,?_⟩;{obtain rfl:=Ê u;exact ⟨λd=>⟨y,σ,Ó.Le.refl _,by rw [d];rfl⟩,λd=>⟨false,σ,Ó.Le.refl _,by rw [d];rfl⟩⟩};{obtain rfl:=Ê w;exact ⟨λd=>⟨!y,σ,Ó.Le.refl _,by rw [d];rfl⟩,λd=>⟨false,σ,Ó.Le.refl _,by rw [d];rfl⟩⟩};{obtain rfl:=Ê A;exact ⟨_,σ,Ó.Le.refl _,rfl⟩};{refine ⟨_,σ,Ó.Le.refl _,?_⟩;have u:¬op=2:=λe=>by{subst e;cases u};have w:¬op=3:=λe=>by{subst e;cases w};have A:¬op=4:=λe=>by{subst e;cases A};unfold ĥ;rw [Ã u,Ã w,Ã A]};rintro a9 eW cU ⟨b1,rfl⟩;(refine ⟨rfl,ω,ic,B,rfl,?_,λsp c' h5 h6=>⟨(g+1,c',_,(g:Int)+1),ω,by and_intros<;>first|rfl|exact aq ω,g+1,rfl,ω,rfl,h5,?_,?_⟩⟩);{intro v hm;obtain rfl:v=_:=by{simpa using hm};rfl};{dsimp only;have ht:(vs.take (g*1)).length=g*1:=by{rw [ì];omega};rw [ï,ï,ht];simp only [Ĉ,ĺ];omega};dsimp only;have hlen:((ju op la' lb' cuts).take g).length=g:=by{rw [ì];omega};rw [hm];have:=(d.le (V':=eW) λ_ _ h=>h).snoc (sp:=sp) (xs:=[gF (ĥ op x y)]) (a:=ĥ op x y) rfl rfl φ;rw [hlen] at this;exact this
 ·have j:¬(g:Int)<t:=Â j;obtain rfl:g=cuts.length+1:=ω;(try dsimp only at l ⊢);rw [ō ω] at d;have hM:=aZ.bo (c:=z2) l (d.le (V':=gC) λ_ _ h=>h) φ ω;rw [ml] at hM;refine (vU (hc.le au) hM ml).s ?_;rintro r iI dS ⟨T,U,W,rfl,hr⟩;exact ⟨T,U,W,rfl,λb2 kK fH=>⟨_,_,_,rfl,tC (hr.le fH)⟩⟩
theorem Y1:À 214 #[] V λr W=>r=dB #[Ô .i64 0,Ô .i64 0,Õ none,Ô .i64 0,Ô .i64 0,Õ none,gF true,gF true]:=
 Oy V _ λa b=>rfl
theorem c_D1 (a b:md)(W:ut):À 216 #[gF a,gF b] W λr _=>r=gF (ĥ 3 a b):=
 qH W _ ⟨λh V l=>by subst h;simp [ĥ],λh V l=>by subst h;simp [ĥ]⟩
theorem iL.up {k K:Nat}{l:L3}(h:iL k l)(u:k<=K):iL K l:=⟨h.1.s u,h.2.1.s u,h.2.2.s u⟩
theorem Bs {L M:L3}{s:Sp}{K:Nat}(sl:iL k L)(sm:iL k M)(u:s.sz K)(D:60*k+60<=K):(bF L s M).sz K:=by have z:=DF K;have c:=(kW sl sm).s D;unfold bF;split;{exact u};split;{exact Sp.Ic u ⟨c,z⟩};exact Sp.Ic u ⟨z,c⟩
theorem Xg (u:0<k:=by omega):æ.sz k:=⟨DF k u,DF k u⟩
theorem one17 {u:Int}{z:Int}{r:OA}{u1:Int}{u2:Int}{t:OA}{D:Int}{E:Int}{o:OA}{c d:md}:∀v∈([Ô .i64 x1,Ô .i64 x2,Õ p,Ô .i64 y1,Ô .i64 y2,Õ q,Ô .i64 u,Ô .i64 z,Õ r,Ô .i64 u1,Ô .i64 u2,Õ t,Ô .i64 D,Ô .i64 E,Õ o,gF c,gF d]:zA un),v.oneCell'=true:=by intro v hm;simp only [í,Ğ,Ì] at hm;rcases hm with rfl|rfl|rfl|rfl|rfl|rfl|rfl|rfl|rfl|rfl|rfl|rfl|rfl|rfl|rfl|rfl|rfl<;>rfl
end
section
variable{V:Ó}{v:Value}{k:Nat}
theorem Ga {p:Rat×Rat}(h:kd V v p.1 p.2)(s1:Sz k p.1)(s2:Sz k p.2)(Z:k<=2^40:=by omega):À 181 #[v] V λr W=>r=Ô .i64 (ax.half p):=by obtain ⟨i,j,q,l,m,n,rfl,s,t⟩:=h;refine DT V _ λu w=>(fP ra s2 Z).s ?_;rintro r V2 x rfl;refine ⟨_,rfl,λb y z=>?_,λb=>⟨λc A B=>(fP ra s1 Z).s ?_,λc=>⟨λa C f=>?_,λa D E=>(fP ra s1 Z).s ?_⟩⟩⟩;{have b:p.2.num.sign>0:=Á b;unfold ax.half;rw [Ä (.inl b)]};{have b:¬p.2.num.sign>0:=Â b;have c:p.2.num.sign=0:=by{simpa using c};rintro r F G rfl;refine ⟨_,rfl,λa H I=>?_,λa=>⟨λe J K=>?_,λe L M=>(fP ra s1 Z).s ?_⟩⟩;{have a:p.1.num.sign>0:=Á a;unfold ax.half;rw [Ä (.inr ⟨c,a⟩)]};{have e:p.2.num.sign<0:=Á e;omega};have a:¬p.1.num.sign>0:=Â a;have g:¬(p.2.num.sign>0\/p.2.num.sign=0/\p.1.num.sign>0):=ω;rintro r N O rfl;refine ⟨_,rfl,λd P o=>?_,λd Q R=>?_⟩;{have d:p.1.num.sign<0:=Á d;unfold ax.half;rw [Ã g,Ä (.inr d)]};have d:¬p.1.num.sign<0:=Â d;unfold ax.half;rw [Ã g,Ã ω]};{have b:¬p.2.num.sign>0:=Â b;have c:¬p.2.num.sign=0:=by{simpa using c};have a:p.2.num.sign<0:=Á a;unfold ax.half;rw [Ã ω,Ä (.inl a)]};have b:¬p.2.num.sign>0:=Â b;have c:¬p.2.num.sign=0:=by{simpa using c};have a:¬p.2.num.sign<0:=Â a;omega
theorem Yx (q:Rat):-1<=q.num.sign/\q.num.sign<=1:=by rcases Qr1 q.num 0 with h|h|h;{rw [Qd2 h];omega};{rw [h];decide};rw [Qf7 h];omega
theorem JU {w:un}{a b:Rat×Rat}(h:kd V v a.1 a.2)(Z:kd V w b.1 b.2)(s1:Sz k a.1)(s2:Sz k a.2)(s3:Sz k b.1)(s4:Sz k b.2)(hk:4*k+3<2^38:=by omega):À 109 #[v,w] V λr W=>r=Ô .i64 (ax.fg a b):=by have x:=h;have d:=Z;obtain ⟨e,f,q,i,j,l,rfl,-⟩:=h;obtain ⟨m,n,t,o,p,s,rfl,-⟩:=Z;refine I3 V _ λy z=>(Ga ra s1 s2).s ?_;rintro r V2 A rfl;refine ⟨_,rfl,λB C=>(Ga ra s3 s4).s ?_⟩;rintro r D E rfl;refine ⟨_,rfl,λg F G=>?_,λg=>⟨λc H I=>?_,λc J K=>(BW ra ra s1 s2 s3 s4 hk).s ?_⟩⟩;{unfold ax.fg;rw [Ä (Á g)]};{unfold ax.fg;rw [Ã (Â g),Ä (Á c)]};rintro r L M gc;obtain ⟨N,O,P,rfl⟩:=gc.shape;refine ⟨_,_,_,rfl,λQ R=>(fP ra (zo s1 s2 s3 s4)).s λr S u rfl=>⟨_,rfl,λT U=>?_⟩⟩;have W:=Yx (a.1*b.2-a.2*b.1);rw [aq ω];unfold ax.fg;rw [Ã (Â g),Ã (Â c)];show _=Value.int .i64 (-(a.1*b.2-a.2*b.1).num.sign);congr 1;omega
def EP:Rat×Rat:=(0,0)
def WL (a b:Rat×Rat):Int:=ax.fg a b
theorem ordCP:Ř WL:=⟨ax.Hp,ax.BG⟩
def qf (V:Ó)(v:Value)(c:Rat×Rat):Prop:=kd V v c.1 c.2/\Sz 100000 c.1/\Sz 100000 c.2
theorem qf.le {V V':ut}{c:Rat×Rat}(h:qf V v c)(l:V.Le V'):qf V' v c:=⟨h.1.le l,h.2⟩
theorem qf.shape {c:Rat×Rat}(h:qf V v c):∃(x y:Int)(p:OA)(u z:Int)(D:OA),v=dB #[Ô .i64 x,Ô .i64 y,Õ p,Ô .i64 u,Ô .i64 z,Õ D]:=by obtain ⟨⟨a,b,p,d,f,q,e,-⟩,-⟩:=h;exact qyJ e
theorem BR {w:un}{a b:Rat×Rat}(h:qf V v a)(u:qf V w b):À 109 #[v,w] V λr W=>r=Ô .i64 (WL a b):=
 JU h.1 u.1 h.2.1 h.2.2 u.2.1 u.2.2
def eP (a b:Rat×Rat):Bool:=ax.eP a b
theorem Tl {w:un}{a b:Rat×Rat}(h:qf V v a)(u:qf V w b):À 111 #[v,w] V λr W=>r=gF (eP a b):=by have d:=h;have c:=u;obtain ⟨_,_,_,_,_,_,rfl⟩:=h.shape;obtain ⟨_,_,_,_,_,_,rfl⟩:=u.shape;refine tS V _ λe f=>(BR ra ra).s λr V2 g rfl=>⟨_,rfl,λi j=>?_⟩;unfold eP ax.eP WL;congr 1
theorem vO {p:Rat×Rat}(h:kd V v p.1 p.2)(s1:Sz k p.1)(s2:Sz k p.2)(D:k<=2^40:=by omega):À 43 #[v] V λr W=>kd W r (-p.1) (-p.2):=by obtain ⟨c,d,q,e,f,g,rfl,j,l⟩:=h;refine Fp V _ λm n=>(oR ra s1 D).s λr V2 o a=>RR.ex a λ_ a=>λs t=>(oR ra s2 D).s ?_;rintro r u w b;have i:=b;obtain ⟨x,y,z,rfl⟩:=b.shape;exact ⟨_,_,_,rfl,λA B=>⟨_,_,_,_,_,_,rfl,ra,ra⟩⟩
def eN (p:Rat×Rat):Rat×Rat:=(p.1*(eG p.1 p.2)⁻¹,p.2*(eG p.1 p.2)⁻¹)
theorem BP {p:Rat×Rat}(h:kd V v p.1 p.2)(s1:Sz k p.1)(s2:Sz k p.2)(M:8*k+8<2^38:=by omega):À 39 #[v] V λr W=>kd W r (eN p).1 (eN p).2:=by obtain ⟨d,e,q,f,g,i,rfl,m,n⟩:=id h;refine tT V _ λo s=>(lD ra ra s1 s2).s λr V2 t b=>RR.ex b λ_ b=>λu w=>(O8 ra (ig s1 s2)).s ?_;rintro r x y c;have j:=c;obtain ⟨z,A,B,rfl⟩:=c.shape;refine ⟨_,_,_,rfl,λC D=>(qU ra ra (k:=k+k+1) (s1.s ω) (s2.s ω) (iA (ig s1 s2)) ω).s λr E F a=>kd.ex a λ_ _ a _ _=>λG l=>a.le l⟩
theorem k_Dir {l:L3}(h:vF V v l)(u:Bd l):À 38 #[v] V λr W=>kd W r (ax.bj l).1 (ax.bj l).2:=oU h u.eO.1 u.eO.2.1 u.eO.2.2 ω
theorem pU {l:L3}(u:Bd l):Sz 1000 (ax.bj l).1/\Sz 1000 (ax.bj l).2:=⟨u.eO.2.1,u.eO.1.neg⟩
theorem Uc {V V':ut}{P:Prop}{b:Nat}(l:V.Le V')(h:P->V.w.heap.size<=b\/V.H b):V.Le (V'.shut.bq P b):=λx o a=>by
 have c:=l x o a;refine ⟨λd=>d.elim c.1 ?_,c.2⟩;rintro ⟨e,rfl,-⟩;rcases h e with h|h
 ·have:=(Qr3.1 a.2).1;omega
 ·exact a.1 h
end
end Go.Proofs.Tryz
