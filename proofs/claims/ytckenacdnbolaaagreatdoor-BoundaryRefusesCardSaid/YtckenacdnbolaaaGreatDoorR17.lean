import Derived.Test.YtckenacdnbolaaaGreatDoorR16
import Derived.Test.YtckenacdnbolaaaGreatDoorR11
import Derived.Test.YtckenacdnbolaaaGreatDoorR12
import Derived.Test.YtckenacdnbolaaaGreatDoorR5
import Derived.WalkKit
import Derived.LaidEql
import Derived.Stop.Asserts
import Derived.RowKitTokens
import Derived.Test.YtckenacdnbolaaaGreatDoorR8
import Derived.Test.YtckenacdnbolaaaGreatDoorR15
import Derived.Test.YtckenacdnbolaaaGreatDoorR7
import Derived.Test.YtckenacdnbolaaaGreatDoorR14
import Derived.Shelf.SlSortCmp.WholeK
import Derived.Shelf.SlSortCmp.NoneTotal
set_option linter.all false
open Go.IntKind (i64 u64 u32)
namespace Go.Proofs.Tryz
open Go.Eng Go.Big
set_option linter.unusedSectionVars false
def XP {a b:pz Rat}{i:Nat}(h:i<a.length:=by omega):(a++b).getD i 0=a.getD i 0:=by grind
def asc (c:List Rat):Prop:=c.Pairwise (·< ·)
theorem An {x q:Rat}:∀{o:pz Rat},q∈dz x o↔q=x\/q∈o:=by
 intro o
 induction o with
 | nil=>simp [dz]
 | cons y r ih=>
  unfold dz;split
  ·grind
  ·split
   ·rename_i e;subst e;exact ⟨.inr,λh=>h.elim (λe=>by subst e;simp) id⟩
   ·rw [Qq6]
theorem H3 {x:Rat}:∀{o:pz Rat},asc o->asc (dz x o):=by
 intro o
 induction o with
 | nil=>intro _;simp [dz,asc]
 | cons y r ih=>
  intro h;have ⟨d,a⟩:=Qx4.1 h;unfold dz;split
  ·rename_i c;refine Qx4.2 ⟨λq b=>?_,ih a⟩<;>grind [An.1]
  ·split
   ·exact h
   ·rename_i e f;refine Qx4.2 ⟨λq b=>?_,h⟩<;>grind
def Sp.cN (s:Sp)(q:Rat):Prop:=(s.a=false/\q=s.lo)\/(s.b=false/\q=s.hi)
theorem Sy {s:Sp}{o:pz Rat}{q:Rat}:q∈e_ s o 2↔s.cN q\/q∈o:=by
 show q∈(if s.b=true then (if s.a=true then o else dz s.lo o) else dz s.hi (if s.a=true then o else dz s.lo o))↔_;unfold Sp.cN;cases s.a<;>cases s.b<;>simp [An];grind
theorem Sx {s:Sp}{o:pz Rat}(h:asc o):asc (e_ s o 2):=by
 show asc (if s.b=true then (if s.a=true then o else dz s.lo o) else dz s.hi (if s.a=true then o else dz s.lo o));cases s.a<;>cases s.b<;>simp [H3,h]
def Ec:∀(ss:pz Sp)(o:pz Rat),(asc o->asc (ss.foldl (λo s=>e_ s o 2) o))/\∀q,q∈(ss.foldl (λo s=>e_ s o 2) o)↔q∈o\/∃s∈ss,s.cN q:=by
 intro ss
 induction ss<;>grind [Sx,Sy]
def HI (ss:pz Sp):asc (endsL ss):=(Ec ss []).1 List.Pairwise.nil
def jC {ss:pz Sp}{q:Rat}:q∈endsL ss↔∃s∈ss,s.cN q:=by
 have:=(Ec ss []).2 q;simpa [endsL] using this
section
variable {c:List Rat} (h:asc c)
include h
theorem vx {i j:Nat}(hij:i<j)(hj:j<c.length):c.getD i 0<c.getD j 0:=by
 rw [jt,jt hj];exact Qm9.1 h i j (by omega) hj hij
theorem Pn {i j:Nat}(hij:i<=j)(hj:j<c.length):c.getD i 0<=c.getD j 0:=by
 rcases Qz2 i j with a|a
 ·have:=vx h a hj;grind
 grind
omit h
theorem T5 {i:Nat}{t:Rat}:(dL c i).inn t↔(0<i->c.getD (i-1) 0<t)/\(i≠c.length->i<c.length->t<c.getD i 0)/\(i≠c.length->c.length<i->t<0):=by
 unfold dL Sp.inn;grind
theorem pM {i:Nat}(hi:i<=c.length:=by omega){t:Rat}:(dL c i).inn t↔(0<i->c.getD (i-1) 0<t)/\(i<c.length->t<c.getD i 0):=by grind [T5]
include h
theorem Qj {i:Nat}(hi:i<=c.length):(dL c i).good:=by
 refine ⟨⟨λe=>?_,λe=>?_⟩,Sp.iE.2 ?_⟩
 ·have e:i=0:=of_decide_eq_true e;subst e;rfl
 ·have e:i=c.length:=of_decide_eq_true e;subst e;exact if_neg (Wq6 _)
 ·by_cases a:i=0
  ·exact .inl (decide_eq_true a)
  ·by_cases b:i=c.length
   ·exact .inr (.inl (decide_eq_true b))
   ·refine .inr (.inr ?_);show (if 0<i then c.getD (i-1) 0 else 0)<(if i<c.length then c.getD i 0 else 0);grind [vx]
theorem XO {t:Rat}(ht:t∉c):∃i,i<=c.length/\(dL c i).inn t:=by
 have key:∀k,k<=c.length->(∀j,j<k->c.getD j 0<t)\/∃i,i<=c.length/\(dL c i).inn t:=by
  intro k
  induction k with
  | zero=>exact λ_=>.inl λj b=>absurd b (Qm0 j)
  | succ k ih=>
   intro e;rcases ih (by omega) with g|g
   ·by_cases d:c.getD k 0<t
    ·grind
    ·refine .inr ⟨k,by omega,(pM).2 ⟨λa=>g _ (by omega),λ_=>?_⟩⟩<;>grind
   ·exact .inr g
 rcases key c.length (Qq2 _) with g|g
 ·exact ⟨c.length,Qq2 _,(pM (Qq2 _)).2 ⟨λa=>g _ (by omega),λa=>by omega⟩⟩
 ·exact g
theorem pN {i:Nat}(hi:i<=c.length){t u x:Rat}(ht:(dL c i).inn t)(hu:(dL c i).inn u)(hx:x∈c):(x<t↔x<u)/\(t<x↔u<x)/\x≠t:=by
 obtain ⟨t1,t2⟩:=(pM hi).1 ht;obtain ⟨d,e⟩:=(pM hi).1 hu;obtain ⟨j,b,rfl⟩:=Qh3 hx;rcases Qz2 j i with a|a
 ·have:=Pn h (show j<=i-1 by omega) (by omega);grind
 ·have:=Pn h a b;grind
theorem RV {i:Nat}(hi:i<=c.length):(dL c i).inn ((dU c).getD i 0):=by
 rw [pM hi];unfold dU;by_cases a:c.length=0
 ·exact ⟨λ_=>by omega,λ_=>by omega⟩
 ·rw [if_neg a];have b:=AU c (show 1<=c.length by omega);by_cases d:i=c.length
  ·grind
  ·rw [XP];unfold CW;by_cases e:i=0
   ·grind
   ·obtain ⟨m,rfl⟩:∃m,i=m+1:=⟨i-1,by omega⟩;have:=vx h (show m<m+1 by omega) (by omega);grind
omit h
theorem kZ:(dU c).length=c.length+1:=by
 unfold dU;grind [AU]
end
section
variable {c:List Rat} {ms:List Bool}
structure FI (c:List Rat) (ms:List Bool) (i:Nat):Prop where
 r:wb (cD c ms i)
 mem:∀t,t∉c->(xP (cD c ms i) t↔∃j,j<i/\ms.getD j false=true/\(dL c j).inn t)
 top:0<i->i<=c.length->∀s∈cD c ms i,s.b=false/\s.hi<=c.getD (i-1) 0
 str:0<i->i<=c.length->ms.getD (i-1) false=false->∀s∈cD c ms i,s.hi<c.getD (i-1) 0
 last:0<i->i<=c.length->ms.getD (i-1) false=true->∃l0 l,cD c ms i=l0++[l]/\l.hi=c.getD (i-1) 0
theorem vW {ss:pz Sp}{s:Sp}{t:Rat}:xP (ss++[s]) t↔xP ss t\/s.inn t:=by
 constructor
 ·rintro ⟨x,a,b⟩;rcases Qw3.1 a with a|a
  ·exact .inl ⟨x,a,b⟩
  grind
 ·rintro (⟨x,a,b⟩|b)
  ·exact ⟨x,by simp [a],b⟩
  ·exact ⟨s,by simp,b⟩
theorem uw {ss:pz Sp}{s:Sp}(h:wb ss)(hs:s.good)(hb:∀x∈ss,x.OW s):wb (ss++[s]):=by
 refine ⟨λx a=>?_,Qp4.2 ⟨h.2,by simp,λx a y b=>?_⟩⟩
 ·rcases Qw3.1 a with a|a
  ·exact h.1 x a
  grind
 grind
theorem IH {ss:pz Sp}{s:Sp}(h:wb (ss++[s])):wb ss/\s.good/\∀x∈ss,x.OW s:=by
 obtain ⟨b,-,c⟩:=Qp4.1 h.2;exact ⟨⟨λx a=>h.1 x (by simp [a]),b⟩,h.1 s (by simp),λx a=>c x a s (by simp)⟩
theorem Fw {P:Nat->Prop}{i:Nat}:(∃j,j<i+1/\P j)↔(∃j,j<i/\P j)\/P i:=by grind
theorem TX (h:asc c){i:Nat}(hi:i<=c.length)(F:FI c ms i):FI c ms (i+1):=by
 have A:=Qj h hi;have D:i<c.length->(dL c i).hi=c.getD i 0:=λj=>if_pos j;have E:0<i->(dL c i).lo=c.getD (i-1) 0:=λj=>if_pos j;have B:0<i->(dL c i).a=false:=λj=>decide_eq_false (by omega);have I:i<c.length->(dL c i).b=false:=λj=>decide_eq_false (by omega);by_cases hm:ms.getD i false=true
 ·have y:¬ms.getD i false=false:=by rw [hm];decide
  by_cases j:0<i/\ms.getD (i-1) false=true
  ·have ⟨L,l,el,G⟩:=F.last j.1 hi j.2
   have e:cD c ms (i+1)=L++[⟨l.lo,(dL c i).hi,l.a,(dL c i).b⟩]:=by
    rw [cD,if_pos hm,if_pos ⟨j.1,j.2,by rw [el];simp⟩,el];simp [vT]
   have J:=F.r;rw [el] at J;have ⟨f1,f2,f3⟩:=IH J;have m:l.b=false:=(F.top j.1 hi l (by rw [el];simp)).1
   have q:(⟨l.lo,(dL c i).hi,l.a,(dL c i).b⟩:Sp).good:=by
    refine ⟨⟨f2.1.1,A.1.2⟩,Sp.iE.2 ?_⟩
    cases ha:l.a with
    | true=>exact .inl rfl
    | false=>
     cases w:(dL c i).b with
     | true=>exact .inr (.inl rfl)
     | false=>
      have n:=mY f2.2 ha m;have u:=mY A.2 (B j.1) w;exact .inr (.inr (by grind))
   refine ⟨?_,λt v=>?_,λ_ d s f=>?_,λ_ d k=>?_,λ_ d _=>?_⟩
   ·rw [e];exact uw f1 q λx k=>⟨(f3 x k).1,(f3 x k).2.1,(f3 x k).2.2⟩
   ·rw [e,Fw,←F.mem t v,vW,el,vW,or_assoc];refine or_congr Iff.rfl ?_
    have M:(dL c i).inn t↔c.getD (i-1) 0<t/\((dL c i).b=true\/t<(dL c i).hi):=by
     unfold Sp.inn;rw [B j.1,E j.1];simp
    have K:t≠c.getD (i-1) 0:=by
     rintro rfl;rw [jt] at v;exact v (Qq9 _)
    show (l.a=true\/l.lo<t)/\((dL c i).b=true\/t<(dL c i).hi)↔((l.a=true\/l.lo<t)/\(l.b=true\/t<l.hi))\/_;rw [G,m]
    have n:l.a=true\/l.lo<c.getD (i-1) 0:=by
     cases ha:l.a with
     | true=>exact .inl rfl
     | false=>have:=mY f2.2 ha m;rw [G] at this;exact .inr this
    have u:(dL c i).b=true\/c.getD (i-1) 0<(dL c i).hi:=by
     cases w:(dL c i).b with
     | true=>exact .inl rfl
     | false=>have:=mY A.2 (B j.1) w;rw [E j.1] at this;exact .inr this
    constructor
    ·rintro ⟨C,o⟩;by_cases g:t<c.getD (i-1) 0
     ·exact .inl ⟨C,.inr g⟩
     ·exact .inr ⟨hm,by grind,o⟩
    ·rintro (⟨C,o⟩|⟨-,C,o⟩)
     ·have N:t<c.getD (i-1) 0:=by
       rcases o with o|o
       ·cases o
       ·exact o
      exact ⟨C,u.imp_right λu=>by grind⟩
     ·exact ⟨n.imp_right λn=>by grind,o⟩
   ·rw [e] at f;rcases Qw3.1 f with f|f
    ·have b:=f3 s f;refine ⟨b.1,?_⟩;have n:l.lo<c.getD (i-1) 0:=by have:=mY f2.2 b.2.1 m;rwa [G] at this
     have u:=vx h (show i-1<i by omega) d;have:=b.2.2;grind
    ·obtain rfl:s=_:=by simpa using f
     refine ⟨I d,?_⟩;rw [D d];grind
   ·rw [Qf7] at k;exact absurd k y
   grind
  ·have e:cD c ms (i+1)=cD c ms i++[dL c i]:=by
    rw [cD,if_pos hm,if_neg (λg=>j ⟨g.1,g.2.1⟩)]
   have w:∀x∈cD c ms i,x.OW (dL c i):=λx k=>by
    by_cases p:0<i
    ·have H:ms.getD (i-1) false=false:=by
      cases hq:ms.getD (i-1) false with
      | false=>rfl
      | true=>exact absurd ⟨p,hq⟩ j
     exact ⟨(F.top p hi x k).1,B p,by rw [E p];exact F.str p hi H x k⟩
    ·obtain rfl:i=0:=by omega
     cases k
   refine ⟨?_,λt v=>?_,λ_ d s f=>?_,λ_ d k=>?_,λ_ d _=>?_⟩
   ·rw [e];exact uw F.r A w
   ·rw [e,Fw,←F.mem t v,vW];exact or_congr Iff.rfl ⟨λg=>⟨hm,g⟩,λg=>g.2⟩
   ·rw [e] at f;rcases Qw3.1 f with f|f
    ·refine ⟨(w s f).1,?_⟩;by_cases p:0<i
     ·have n:=(F.top p hi s f).2;have u:=vx h (show i-1<i by omega) d;grind
     ·obtain rfl:i=0:=by omega
      cases f
    ·obtain rfl:s=_:=by simpa using f
     refine ⟨I d,?_⟩;rw [D d];grind
   ·rw [Qf7] at k;exact absurd k y
   ·rw [Qf7];exact ⟨_,_,e,D d⟩
 ·have e:cD c ms (i+1)=cD c ms i:=by rw [cD,if_neg hm]
  have z:i<c.length->∀s∈cD c ms i,s.b=false/\s.hi<c.getD i 0:=λd s f=>by
   by_cases p:0<i
   ·have ⟨n,u⟩:=F.top p hi s f;have O:=vx h (show i-1<i by omega) d;exact ⟨n,by grind⟩
   ·obtain rfl:i=0:=by omega
    cases f
  refine ⟨by rw [e];exact F.r,λt v=>?_,λ_ d s f=>?_,λ_ d k s f=>?_,λ_ d k=>?_⟩
  ·rw [e,Fw,F.mem t v];exact ⟨.inl,λg=>g.elim id λg=>absurd g.1 hm⟩
  ·rw [e] at f;have ⟨n,u⟩:=z d s f;exact ⟨n,by grind⟩
  ·rw [e] at f;exact (z d s f).2
  ·rw [Qf7] at k;exact absurd k hm
theorem fi (h:asc c):∀{i:Nat},i<=c.length+1->FI c ms i:=by
 intro i
 induction i with
 | zero=>exact λ_=>⟨⟨(λ_ h=>by cases h),List.Pairwise.nil⟩,(λt _=>⟨(λ⟨_,h,_⟩=>by cases h),(λ⟨_,h,_⟩=>absurd h (Qm0 _))⟩),(λh=>absurd h (Wq6 _)),(λh=>absurd h (Wq6 _)),(λh=>absurd h (Wq6 _))⟩
 | succ i ih=>exact λa=>TX h (by omega) (ih (by omega))
end
def Sp.innB (s:Sp)(t:Rat):Bool:=(s.a||decide (s.lo<t))&&(s.b||decide (t<s.hi))
variable{t:Rat}{ss:List Sp}
def inB (ss:List Sp)(t:Rat):Bool:=ss.any λs=>s.innB t
theorem innB_iff {s:Sp}:s.innB t=true↔s.inn t:=by unfold Sp.innB Sp.inn;simp
theorem lT:inB ss t=true↔xP ss t:=by
 unfold inB xP;rw [Qt9];exact ⟨λ⟨s,a,b⟩=>⟨s,a,innB_iff.1 b⟩,λ⟨s,a,b⟩=>⟨s,a,innB_iff.2 b⟩⟩
theorem E5 {a b:md}(h:a=true↔b=true):a=b:=by cases a<;>cases b<;>simp at h<;>rfl
theorem TM (h:∀s∈ss,¬s.cN t):(qX ss t==2)=inB ss t:=by
 induction ss with
 | nil=>rfl
 | cons s r c=>
  have c:=c λx k=>h x (by simp [k]);have g:=h s (by simp)
  have d:s.innB t=decide (xI (s.la t) (s.lb t)=2)/\(xI (s.la t) (s.lb t)≠0->xI (s.la t) (s.lb t)=2):=by
   unfold Sp.cN at g;unfold Sp.innB Sp.la Sp.lb xI;rcases cR t s.lo with ⟨i,f⟩|⟨i,f⟩|⟨i,f⟩<;>rcases cR t s.hi with ⟨h2,e2⟩|⟨h2,e2⟩|⟨h2,e2⟩<;>rw [f,e2]<;>cases ha:s.a<;>cases d:s.b<;>simp at g⊢<;> grind
  have e:inB (s::r) t=(s.innB t||inB r t):=rfl;rw [e,←c,d.1];by_cases j:xI (s.la t) (s.lb t)=0
  ·simp [qX,j]
  ·have:=d.2 j;simp [qX,this]
def opB (op:Int)(x y:Bool):Bool:=if op=2 then x&&y else if op=3 then x&&!y else if op=4 then x != y else x||y
def iY (op:Int)(a b:List Sp)(c:List Rat):List Bool:=(dU c).map λt=>opB op (qX a t==2) (qX b t==2)
def combL (op:Int)(a b:List Sp):List Sp:=Ek (endsL (a++b)) (iY op a b (endsL (a++b)))
theorem ku (op:Int)(a b:pz Sp)(c:pz Rat):(iY op a b c).length=c.length+1:=by unfold iY;rw [Qk3,kZ]
theorem comb_reg (op:Int)(a b:pz Sp):wb (combL op a b):=by
 unfold combL Ek;rw [ku];exact (fi (HI _) (Qq2 _)).r
theorem T4 {c:pz Rat}(h:asc c)(hc:∀s∈ss,∀q,s.cN q->q∈c){i:Nat}(hi:i<=c.length){u:Rat}(ht:(dL c i).inn t)(hu:(dL c i).inn u):inB ss t=inB ss u:=by
 induction ss with
 | nil=>rfl
 | cons s r f=>
  have f:=f λx g=>hc x (by simp [g]);have e:∀t,inB (s::r) t=(s.innB t||inB r t):=λ_=>rfl;rw [e,e,f];congr 1;have d:=hc s (by simp);unfold Sp.innB;cases ha:s.a<;>cases hb:s.b<;>simp
  ·have j:=pN h hi ht hu (d s.lo (.inl ⟨ha,rfl⟩));have k:=pN h hi ht hu (d s.hi (.inr ⟨hb,rfl⟩));grind
  ·exact (pN h hi ht hu (d s.lo (.inl ⟨ha,rfl⟩))).1
  ·exact (pN h hi ht hu (d s.hi (.inr ⟨hb,rfl⟩))).2.1
theorem comb_inB (op:Int)(a b:pz Sp)(ht:t∉endsL (a++b)):inB (combL op a b) t=opB op (inB a t) (inB b t):=by
 have e:=HI (a++b);have f:∀s∈a++b,∀q,s.cN q->q∈endsL (a++b):=λs d q k=>jC.2 ⟨s,d,k⟩;unfold combL Ek;generalize endsL (a++b)=c at ht e f;rw [ku];have l:∀s∈a,∀q,s.cN q->q∈c:=λs d=>f s (by simp [d]);have m:∀s∈b,∀q,s.cN q->q∈c:=λs d=>f s (by simp [d])
 have mk:∀j,j<=c.length->(dL c j).inn t->(iY op a b c).getD j false=opB op (inB a t) (inB b t):=λj g n=>by
  have h:=RV e g;have i:(dU c).getD j 0∉c:=λhm=>(pN e g h h hm).2.2 rfl;grind [iY,kZ,TM,T4]
 refine E5 ?_;rw [lT,(fi e (Qq2 _)).mem t ht];grind [XO]
theorem reg_eq {xs ys:pz Sp}(E:pz Rat)(hx:wb xs)(hy:wb ys)(h:∀t,t∉E->inB xs t=inB ys t):xs=ys:=
 KZ (E:=E) hx hy λt a=>by rw [←lT,←lT,h t a]
end Go.Proofs.Tryz
namespace Go.Proofs.Tryz
open Go.Big
section
variable {α:Type}
structure Ord (c:α->α->Int):Prop where
 asy:∀a b,c a b<0->¬c b a<0
 tr:∀a b d,¬c a b<0->¬c b d<0->¬c a d<0
variable {c:α->α->Int}
theorem Ord.refl (h:Ord c)(a:α):¬c a a<0:=λl=>h.asy a a l l
variable {d:α}
theorem HM {l:pz α}{i k:Nat}{x:α}(hi:i<l.length):(l.set i x).getD k d=if k=i then x else l.getD k d:=by
 simp only [Qx8,Qp2];by_cases h:k=i
 ·subst h;simp [hi]
 ·have:¬i=k:=λe=>h e.symm;simp [h,this]
end
end Go.Proofs.Tryz
namespace Go.Proofs.Tryz
open Go.Eng Go.Big
variable{k:Int}{t:Rat}
abbrev oJ:=Rat×Int×Int
def jO (k:Int)(s:Sp):List oJ:=(if s.a then [] else [(s.lo,k,1)])++(if s.b then [] else [(s.hi,k,-1)])
def oU (A B:List Sp):List oJ:=A.flatMap (jO 0)++B.flatMap (jO 1)
def mD:List Sp->Int
 | []=>0
 | s::r=>(if s.a then 1 else 0)+mD r
def mr (k:Int):List oJ->Rat->Int
 | [],_=>0
 | c::r,t=>(if c.2.1=k/\c.1<t then c.2.2 else 0)+mr k r t
def iI (k:Int):List oJ->Int
 | []=>0
 | c::r=>(if c.2.1=k then c.2.2 else 0)+iI k r
theorem OH {l m:pz oJ}(h:l.Perm m):mr k l t=mr k m t:=by induction h<;>grind [mr]
theorem nt:∀{l m:pz oJ},mr k (l++m) t=mr k l t+mr k m t
 | [],m=>by simp [mr]
 | c::r,m=>by simp only [Qc8,mr,nt (l:=r)];omega
theorem Bq:∀{l m:pz oJ},iI k (l++m)=iI k l+iI k m
 | [],m=>by simp [iI]
 | c::r,m=>by simp only [Qc8,iI,Bq (l:=r)];omega
theorem I5:∀{l:pz oJ},(∀c∈l,c.1<t)->mr k l t=iI k l
 | [],_=>rfl
 | c::r,h=>by
  simp only [mr,iI,I5 (l:=r) λx hx=>h x (by simp [hx]),h c (by simp),and_true]
theorem EL:∀{l:pz oJ},(∀c∈l,¬c.1<t)->mr k l t=0
 | [],_=>rfl
 | c::r,h=>by
  simp only [mr,EL (l:=r) λx hx=>h x (by simp [hx]),h c (by simp),and_false,if_false];omega
theorem sW {k':Int}(hk:k≠k'):∀{l:pz Sp},mr k (l.flatMap (jO k')) t=0
 | []=>rfl
 | s::r=>by
  rw [Qy2,nt,sW hk (l:=r)];have hk':¬k'=k:=λe=>hk e.symm;unfold jO;cases s.a<;>cases s.b<;>simp [mr,hk']
theorem Br {k:Int}{t:Rat}:∀{l:pz Sp},(∀s∈l,s.good)->(∀s∈l,¬s.cN t)->mD l+mr k (l.flatMap (jO k)) t=(l.countP λs=>s.innB t:Nat)
 | [],_,_=>rfl
 | s::r,hg,he=>by
  have ih:=Br (k:=k) (t:=t) (l:=r) (λx c=>hg x (by simp [c])) λx c=>he x (by simp [c]);have d:=(hg s (by simp)).2;have e:=he s (by simp);rw [Qy2,nt,List.countP_cons];simp only [mD];rw [Sp.iE] at d;unfold Sp.cN at e
  have key:(if s.a=true then (1:Int) else 0)+mr k (jO k s) t=(if s.innB t=true then 1 else 0:Nat):=by
   unfold jO Sp.innB;cases ha:s.a<;>cases hb:s.b<;>simp [hb] at d e<;>simp [mr]<;>(try (by_cases f:s.lo<t))<;>(try (by_cases g:s.hi<t))<;>(try (by_cases h:t<s.hi))<;>simp_all<;>grind
  omega
theorem Hy {l:pz Sp}:decide ((0:Int)<(l.countP λs=>s.innB t:Nat))=inB l t:=by
 refine E5 ⟨λh=>?_,λh=>?_⟩
 ·have h:=of_decide_eq_true h;have:0<l.countP λs=>s.innB t:=by omega
  have ⟨s,a,h⟩:=Qr0.1 this;exact Qt9.2 ⟨s,a,h⟩
 ·have ⟨s,a,h⟩:=Qt9.1 h;have:0<l.countP λs=>s.innB t:=Qr0.2 ⟨s,a,h⟩;grind
theorem TG {A B:pz Sp}{c:oJ}:c∈oU A B->∃s∈A++B,s.cN c.1:=by
 intro h
 have one:∀{k:Int} {s:Sp},c∈jO k s->s.cN c.1:=λ{k s} h=>by
  unfold jO at h;unfold Sp.cN;cases ha:s.a<;>cases hb:s.b<;>simp [ha,hb] at h ⊢
  ·rcases h with rfl|rfl<;>simp
  ·subst h;rfl
  ·subst h;rfl
 rcases Qw3.1 h with h|h<;>grind
def mQ (s:Sp):Sp:=⟨s.lo,0,s.a,true⟩
def Bt (was:Bool)(last:Sp)(out:List Sp):List Sp:=out++if was then [mQ last] else []
def Pc (acc:Bool->Bool->Bool)(A B:List Sp)(t:Rat):Bool:=acc (inB A t) (inB B t)
structure VF (acc:Bool->Bool->Bool) (A B:List Sp) (cs:List oJ) (i:Nat) (was:Bool) (last:Sp) (out:List Sp):Prop where
 rg:wb (Bt was last out)
 lo:∀s∈Bt was last out,∀h:i<cs.length,s.a=false->s.lo<cs[i].1
 hi:∀s∈out,s.b=false/\∀h:i<cs.length,s.hi<cs[i].1
 inn:∀t,(∀s∈A++B,¬s.cN t)->(∀h:i<cs.length,t<cs[i].1)->inB (Bt was last out) t=Pc acc A B t
 fr:was=true->last.hi=0/\last.b=false
section
variable {acc:Bool->Bool->Bool} {A B:List Sp} {cs:List oJ} {i:Nat} {was:Bool} {last:Sp} {out:List Sp}
theorem SE (hp:cs.Perm (oU A B))(hA:∀s∈A,s.good)(hB:∀s∈B,s.good)(hs:cs.Pairwise λx y=>x.1<=y.1){t:Rat}(ht:∀s∈A++B,¬s.cN t)
  (h1:∀c∈cs.take i,c.1<t)(h2:∀h:i<cs.length,t<cs[i].1) :
  acc (decide ((0:Int)<mD A+iI 0 (cs.take i))) (decide ((0:Int)<mD B+iI 1 (cs.take i)))=Pc acc A B t:=by
 have a:∀c∈cs.drop i,¬c.1<t:=by grind [List.getElem_of_mem,List.pairwise_iff_getElem.1]
 have e:∀k,iI k (cs.take i)=mr k (oU A B) t:=λk=>by
  rw [←OH hp,←I5 h1]
  conv=>rhs;rw [←Qv9 i cs]
  rw [nt,EL a];omega
 have b:=Br (k:=0) (t:=t) hA λs hs=>ht s (Qz4 _ hs);have d:=Br (k:=1) (t:=t) hB λs hs=>ht s (Qk7 _ hs);have f:mr 0 (B.flatMap (jO 1)) t=0:=sW (by decide);have g:mr 1 (A.flatMap (jO 0)) t=0:=sW (by decide);rw [e,e];unfold oU Pc;rw [nt,nt,f,g,←Hy,←Hy,←b,←d,Wx2,Int.zero_add]
theorem yI {x y:pz Sp}{t:Rat}:inB (x++y) t=(inB x t||inB y t):=by unfold inB;rw [List.any_append]
theorem SF {was:md}(hw:was=acc (decide ((0:Int)<mD A)) (decide ((0:Int)<mD B)))(hp:cs.Perm (oU A B))(hA:∀s∈A,s.good)(hB:∀s∈B,s.good)(hs:cs.Pairwise λx y=>x.1<=y.1) :
  VF acc A B cs 0 was ⟨0,0,true,false⟩ []:=by
 refine ⟨?_,λs h _ a=>?_,λs h=>(by cases h),λt b d=>?_,λ_=>⟨rfl,rfl⟩⟩
 ·unfold Bt;cases was
  ·exact ⟨λs h=>by simp at h,by simp⟩
  ·refine ⟨λs h=>?_,by simp⟩;obtain rfl:s=mQ ⟨0,0,true,false⟩:=by simpa using h
   exact ⟨⟨λ_=>rfl,λ_=>rfl⟩,rfl⟩
 ·unfold Bt at h;cases was<;>simp at h;subst h;cases a
 ·have:=SE (acc:=acc) (i:=0) hp hA hB hs b (λc e=>by simp at e) d;simp only [Qd3,iI,Wx2] at this;rw [←this,←hw];unfold Bt mQ inB Sp.innB;cases was<;>simp
theorem Vc (h:VF acc A B cs i was last out)(hi:i+1<cs.length)(he:cs[i].1=cs[i+1].1):VF acc A B cs (i+1) was last out:=
 ⟨h.rg,λs a _ b=>by rw [←he];exact h.lo s a (by omega) b,λs a=>⟨(h.hi s a).1,λ_=>by rw [←he];exact (h.hi s a).2 (by omega)⟩,
  λt c d=>h.inn t c λ_=>by rw [he];exact d hi,h.fr⟩
theorem UL (h:VF acc A B cs i was last out)(hi:i<cs.length){t:Rat}(ht:cs[i].1<t):inB out t=false:=by
 refine Bool.eq_false_iff.2 λhe=>?_;have ⟨s,b,a⟩:=Qt9.1 he;have ⟨c,e⟩:=h.hi s b;rw [innB_iff] at a;obtain ⟨-,d⟩:=a;rw [c] at d;grind
def lj (was now:Bool)(last:Sp)(x:Rat):Sp:=if now&&!was then ⟨x,0,false,false⟩ else if was&&!now then ⟨last.lo,x,last.a,last.b⟩ else last
def Bs (was now:Bool)(last:Sp)(x:Rat)(out:List Sp):List Sp:=if was&&!now then out++[⟨last.lo,x,last.a,last.b⟩] else out
theorem Vd (h:VF acc A B cs i was last out)(hi:i<cs.length)(hn:∀h:i+1<cs.length,cs[i].1<cs[i+1].1)(hp:cs.Perm (oU A B))(hA:∀s∈A,s.good)(hB:∀s∈B,s.good)(hs:cs.Pairwise λx y=>x.1<=y.1)
  {now:md}(hw:now=acc (decide ((0:Int)<mD A+iI 0 (cs.take (i+1)))) (decide ((0:Int)<mD B+iI 1 (cs.take (i+1))))) :
  VF acc A B cs (i+1) now (lj was now last cs[i].1) (Bs was now last cs[i].1 out):=by
 have z:∃s∈A++B,s.cN cs[i].1:=TG (hp.mem_iff.1 (Qq9 hi))
 have g:∀t,(∀s∈A++B,¬s.cN t)->cs[i].1<t->(∀h:i+1<cs.length,t<cs[i+1].1)->Pc acc A B t=now:=λt f d o=>by
  rw [hw,SE (acc:=acc) hp hA hB hs f (λc D=>?_) o];obtain ⟨j,E,rfl⟩:=Qh3 D;rw [Qq7] at E;rw [Wy2];by_cases e:j=i
  ·subst e;exact d
  ·have:=Qm9.1 hs j i (by omega) hi (by omega);grind
 have apart:∀t,(∀s∈A++B,¬s.cN t)->t<cs[i].1\/cs[i].1<t:=λt f=>by
  obtain ⟨s,d,o⟩:=z;grind
 have on:∀{t:Rat},cs[i].1<t->inB out t=false:=λ{t}=>UL (t:=t) h hi;have m:∀s∈Bt was last out,s.a=false->s.lo<cs[i].1:=λs hs l=>h.lo s hs hi l;have n:∀s∈out,s.hi<cs[i].1:=λs hs=>(h.hi s hs).2 hi;have q:∀s∈out,s.b=false:=λs hs=>(h.hi s hs).1;have inn:∀t,(∀s∈A++B,¬s.cN t)->t<cs[i].1->inB (Bt was last out) t=Pc acc A B t:=λt f d=>h.inn t f λ_=>d;have p:=h.rg;have u:=h.fr;generalize cs[i].1=x at *;clear z hw hp hs h;unfold lj Bs;cases was<;>cases now<;>simp only [Bool.not_true,Bool.not_false,Bool.and_true,Wk8]<;>unfold Bt at*<;> simp only [Qk9,if_true,if_false,Qx3] at *
 ·
  refine ⟨by simpa [Bt] using p,λs hs d l=>?_,λs hs=>⟨q s hs,λd=>?_⟩,λt f o=>?_,λh=>nomatch h⟩
  ·have:=m s (by simpa [Bt] using hs) l;have:=hn d;grind
  ·have:=n s hs;have:=hn d;grind
  ·simp only [Bt,Qk9,if_false,Qx3];rcases apart t f with k|k
   ·exact inn t f k
   ·rw [g t f k o,on k]
 ·
  have e:inB (out++[mQ ⟨x,0,false,false⟩])=λt=>inB out t||decide (x<t):=by
   funext t;rw [yI];unfold inB mQ Sp.innB;simp
  refine ⟨?_,λs hs d l=>?_,λs hs=>⟨q s hs,λd=>?_⟩,λt f o=>?_,λ_=>⟨rfl,rfl⟩⟩
  ·simp only [Bt,if_true];exact uw p ⟨⟨(λh=>nomatch h),λ_=>rfl⟩,rfl⟩ λy r=>⟨q y r,rfl,n y r⟩
  ·simp only [Bt,if_true] at hs;rcases Qw3.1 hs with hs|hs
   ·have:=m s hs l;have:=hn d;grind
   ·obtain rfl:s=mQ ⟨x,0,false,false⟩:=by simpa using hs
    exact hn d
  ·have:=n s hs;have:=hn d;grind
  ·simp only [Bt,if_true];rw [e];dsimp only;rcases apart t f with k|k
   ·rw [inn t f k,decide_eq_false (by grind),Bool.or_false]
   ·rw [g t f k o,decide_eq_true k,Bool.or_true]
 ·
  obtain ⟨f1,f2⟩:last.hi=0/\last.b=false:=by simpa using u
  obtain ⟨F,G,C⟩:=IH p;have v:last.a=false->last.lo<x:=λl=>m (mQ last) (by simp) l
  have e:inB (out++[(⟨last.lo,x,last.a,last.b⟩:Sp)])=λt=>inB out t||((last.a||decide (last.lo<t))&&decide (t<x)):=by
   funext t;rw [yI];unfold inB Sp.innB;simp [f2]
  have w:inB (out++[mQ last])=λt=>inB out t||(last.a||decide (last.lo<t)):=by
   funext t;rw [yI];unfold inB mQ Sp.innB;simp
  refine ⟨?_,λs hs d l=>?_,λs hs=>?_,λt f o=>?_,λh=>nomatch h⟩
  ·simp only [Bt,Qk9,if_false,Qx3];refine uw F ⟨⟨λh=>G.1.1 h,λh=>by rw [f2] at h;cases h⟩,?_⟩ λy r=>⟨q y r,(C y r).2.1,(C y r).2.2⟩;rw [Sp.iE];cases l:last.a
   ·exact .inr (.inr (v l))
   ·exact .inl rfl
  ·simp only [Bt,Qk9,if_false,Qx3] at hs;rcases Qw3.1 hs with hs|hs
   ·have:=m s (Qz4 _ hs) l;grind
   ·obtain rfl:s=⟨last.lo,x,last.a,last.b⟩:=by simpa using hs
    have:=v l;dsimp only;grind
  ·rcases Qw3.1 hs with hs|hs
   ·exact ⟨q s hs,λd=>by have:=n s hs;have:=hn d;grind⟩
   ·obtain rfl:s=⟨last.lo,x,last.a,last.b⟩:=by simpa using hs
    exact ⟨f2,λd=>hn d⟩
  ·simp only [Bt,Qk9,if_false,Qx3];rw [e];dsimp only;rcases apart t f with k|k
   ·rw [←inn t f k,w,decide_eq_true k,Bool.and_true]
   ·rw [g t f k o,on k,decide_eq_false (show ¬t<x by grind),Wk8];rfl
 ·
  have w:inB (out++[mQ last])=λt=>inB out t||(last.a||decide (last.lo<t)):=by
   funext t;rw [yI];unfold inB mQ Sp.innB;simp
  have v:last.a=false->last.lo<x:=λl=>m (mQ last) (by simp) l;refine ⟨by simpa [Bt] using p,λs hs d l=>?_,λs hs=>⟨q s hs,λd=>?_⟩,λt f o=>?_,λ_=>by simpa using u⟩
  ·have:=m s (by simpa [Bt] using hs) l;have:=hn d;grind
  ·have:=n s hs;have:=hn d;grind
  ·simp only [Bt,if_true];rcases apart t f with k|k
   ·exact inn t f k
   ·rw [g t f k o,w];dsimp only;cases l:last.a
    ·have:=v l;rw [decide_eq_true (show last.lo<t by grind)];simp
    ·simp
end
end Go.Proofs.Tryz
namespace Go.Proofs.Tryz
open Go.Eng Go.Big
def CZ (k:Nat)(hk:0<k:=by omega):Sz k (0:Rat):=⟨by show (0:Int).natAbs<_;exact Qx5 (by decide) (Nat.one_le_two_pow),Qc6 (by omega)⟩
def bH:Sp:=⟨0,0,true,true⟩
def z_ (l:List Sp):List Rat:=l.flatMap λs=>s.Mq++s.Kw
def fe (l:List Sp):Nat:=(z_ l).length
theorem Mf {s:Sp}{r:pz Sp}:fe (s::r)=(s.Mq++s.Kw).length+fe r:=by unfold fe z_;rw [Qy2,Qq3]
def P_ {a b:pz Sp}:fe (a++b)=fe a+fe b:=by unfold fe z_;rw [Qm8,Qq3]
def Fl {A B:pz Sp}:(oU A B).length=fe A+fe B:=by
 have one:∀(k:Int)(l:pz Sp),(l.flatMap (jO k)).length=fe l:=λk l=>by
  induction l with
  | nil=>rfl
  | cons s r ih=>
   rw [Qy2,Qq3,Mf,ih];unfold jO Sp.Mq Sp.Kw;cases s.a<;>cases s.b<;>simp
 unfold oU;grind
def rD:∀(ss:pz Sp)(o:pz Rat),(ss.foldl (λo s=>e_ s o 2) o).length<=o.length+fe ss
 | [],o=>by simp [z_]
 | s::r,o=>by
  have ih:=rD r (e_ s o 2)
  have:(e_ s o 2).length<=o.length+(s.Mq++s.Kw).length:=by
   have c:=@mV s.lo o;have d:=@mV s.hi o;have e:=@mV s.hi (dz s.lo o);show (if s.b=true then (if s.a=true then o else dz s.lo o) else dz s.hi (if s.a=true then o else dz s.lo o)).length<=_;unfold Sp.Mq Sp.Kw;cases s.a<;>cases s.b<;>simp<;>omega
  grind [Mf]
def P6 (ss:pz Sp):(endsL ss).length<=fe ss:=by have:=rD ss [];simpa [endsL] using this
def MF:∀{l:pz Sp},wb l->asc (z_ l)
 | [],_=>List.Pairwise.nil
 | s::r,h=>by
  unfold asc z_;refine Qp4.2 ⟨?_,MF h.tail,λx hx y hy=>?_⟩
  ·refine Qp4.2 ⟨by unfold Sp.Mq;cases s.a<;>simp,by unfold Sp.Kw;cases s.b<;>simp,λx hx y hy=>?_⟩;obtain ⟨ha,rfl⟩:=oa hx;obtain ⟨c,rfl⟩:=qJ hy;exact mY (h.1 s (by simp)).2 ha c
  ·have ⟨z,d,hy⟩:=Qy4.1 hy;have ⟨e,f,g⟩:=h.OW d
   have i:x<=s.hi:=by
    rcases Qw3.1 hx with hx|hx
    ·obtain ⟨ha,rfl⟩:=oa hx;have:=mY (h.1 s (by simp)).2 ha e;grind
    grind [qJ]
   have j:z.lo<=y:=by
    rcases Qw3.1 hy with hy|hy
    ·obtain ⟨ha,rfl⟩:=oa hy;grind
    ·obtain ⟨c,rfl⟩:=qJ hy;have:=mY (h.1 z (by simp [d])).2 f c;grind
   grind
def E1:∀{ys xs:pz Rat},asc xs->asc ys->(∀x∈xs,x∈ys)->xs.length<=ys.length
 | [],xs,_,_,h=>by
  cases xs with
  | nil=>simp
  | cons x r=>exact absurd (h x (by simp)) (by simp)
 | y::r,[],_,_,_=>by simp
 | y::r,x::s,hx,hy,h=>by
  have ⟨x1,x2⟩:=Qx4.1 hx;have ⟨d,a⟩:=Qx4.1 hy;by_cases e:x=y
  ·have:=E1 (xs:=s) x2 a λz b=>by grind
   grind
  ·have c:x∈r:=by grind
   have:=E1 (xs:=x::s) hx a λz b=>by grind
   grind
def Qi {c:pz Rat}{i:Nat}(hi:i<=c.length:=by omega):((dL c i).a=false->(dL c i).lo∈c)/\((dL c i).b=false->(dL c i).hi∈c):=by
 unfold dL;grind
def El {c:pz Rat}{ms:pz md}:∀(i:Nat),i<=c.length+1->∀s∈cD c ms i,(s.a=false->s.lo∈c)/\(s.b=false->s.hi∈c)
 | 0,_,s,h=>by cases h
 | i+1,hi,s,h=>by
  have ih:=El (c:=c) (ms:=ms) i (by omega);have g:=Qi (c:=c) (i:=i);unfold cD at h;split at h
  ·split at h
   ·rename_i f;rcases Qw3.1 h with h|h
    ·exact ih s (List.dropLast_subset _ h)
    ·obtain rfl:=Qq5.1 h;refine ⟨λj=>?_,λk=>g.2 k⟩;have d:cD c ms i≠[]:=λe=>by rw [e] at f;simp at f
     have l:(cD c ms i).getLastD Sp.zero=(cD c ms i).getLast d:=by rw [Wx8,List.getLast?_eq_some_getLast d];rfl
     rw [l] at j ⊢;exact (ih _ (List.getLast_mem d)).1 j
   ·rcases Qw3.1 h with h|h
    ·exact ih s h
    ·obtain rfl:=Qq5.1 h;exact g
  ·exact ih s h
def D5 {op:Int}{a b:pz Sp}:∀s∈combL op a b,(s.a=false->s.lo∈endsL (a++b))/\(s.b=false->s.hi∈endsL (a++b)):=by
 intro s c;exact El _ (by rw [ku];omega) s c
def Hx (op:Int)(a b:pz Sp):(combL op a b).length<=fe a+fe b+1:=by
 have h:=Ej (endsL (a++b)) (iY op a b (endsL (a++b))) (iY op a b (endsL (a++b))).length;have c:=P6 (a++b);rw [P_] at c;rw [ku] at h;unfold combL Ek;rw [ku];omega
end Go.Proofs.Tryz
namespace Go.Proofs.Tryz.aw
abbrev V2:=Rat×Rat
def cr (u v:V2):Rat:=u.1*v.2-u.2*v.1
def dt (u v:V2):Rat:=u.1*v.1+u.2*v.2
def up (u:V2):Prop:=u.2>0\/u.2=0/\u.1>0
def dn (u:V2):Prop:=u.2<0\/u.2=0/\u.1<0
def nz (u:V2):Prop:=u.1≠0\/u.2≠0
theorem Mb (u v:V2):cr v u=-cr u v:=by unfold cr;grind
def jac2 (u w r:V2):cr u r*w.2+cr r w*u.2=cr u w*r.2:=by unfold cr;grind
def mp {a b:Rat}(ha:a>0)(hb:b>0):a*b>0:=Qf9 ha hb
def mn {a b:Rat}(ha:a≥0)(hb:b≥0):a*b≥0:=Wk9 ha hb
def sq_pos {u:V2}(h:nz u):dt u u>0:=by
 have a:∀x:Rat,x*x≥0:=λx=>by
  by_cases b:x≥0
  ·exact mn b b
  ·have:=mn (show -x≥0 by grind) (show -x≥0 by grind);grind
 have:=a u.1;have:=a u.2;by_cases c:u.1*u.1+u.2*u.2>0
 ·exact c
 grind [nz,Rat.mul_eq_zero.1]
end Go.Proofs.Tryz.aw
namespace Go.Proofs.Tryz
open Go.Eng
open Go.Value renaming agg→dB,bool→qvQ,pointer→qvW
section
open Go.RowKit Go.Extern.Stop Go.Stop Go.Extern
def NK (v:un)(w:World):(Extern.ReflectliteType.typeOf #[.iface 403 v]).run prog w=.ok (.iface 231 (dB #[qvW (some ⟨3,403,none⟩)])) w:=by kernel_rfl
def CS (w : World) : ((Extern.ReflectliteType.method λt => do Extern.Rtype.noPackHeld "Comparable" t; (λa => Value.bool a.comparable) <$> typeInfo t) #[dB #[qvW (some ⟨3, 403, none⟩)]]).run prog w = .ok (qvQ true) w := by kernel_rfl
def TU:(prog.info? 403).map (·.comparable)=some true:=by kernel_rfl
def TW:(prog.info? 427).map (·.size)=some 1:=by kernel_rfl
def qY (v : un)(w : World) : (Go.method 539 231 v "Comparable").run prog w = .ok (329, v) w := by kernel_rfl
def TV (a:Addr)(w:World) :
  Calls prog 22 #[.iface 403 (qvW (some a)),.iface 403 (qvW (some a))] w λe w'=>e=.returned (qvQ true)/\w'=w:=by
 have ⟨i,hi,hcmp⟩:=Qs6.1 TU;have ⟨j,hj,hjs⟩:=Qs6.1 TW;have h8:=@run_callFunc_extern prog 70 _ Extern.ReflectliteType.typeOf func70 (by kernel_rfl) (by kernel_rfl) (by kernel_rfl) (by kernel_rfl);have h32 := @run_callFunc_extern prog 329 _ (Extern.ReflectliteType.method λt => do Extern.Rtype.noPackHeld "Comparable" t; pure (qvQ (← typeInfo t).comparable)) func329 (by kernel_rfl) (by kernel_rfl) (by kernel_rfl) (by kernel_rfl)
 have tT:=NK;have cT:=CS;have mR:=qY;have heq:=run_eql_iface_ptr_same (P:=prog) w a underlying40 underlying403 hi hcmp hj
 go_enter func22,ntmps22
 go_wp2
 refine wp_loop_rounds 1 ?_;rw [rounds_succ]
 go_wp2
 go_ret
 exact ⟨rfl,rfl⟩
end
def JU {f:FuncId}{args:Array un}{V:ut}{v:un}(hc:gF prog f)(h:Calls prog f args V.w λe w'=>e=.returned v/\w'=V.w):aa prog f args V λr _=>r=v:=
 ⟨hc,h.s λe w' ⟨a,b⟩=>by subst b;exact ⟨v,a,ir.refl _ _,rfl⟩⟩
def iT {V:ut}{y:un}(h:G0 y):aa prog 22 #[y,y] V λr _=>r=qvQ true:=by
 obtain ⟨a,rfl⟩:=h;exact JU ⟨f22,func22,rfl,by kernel_rfl⟩ (TV a V.w)
end Go.Proofs.Tryz
namespace Go.Proofs.Tryz
open Go.Eng Go.Big
open Go.Value renaming bool→qvQ,pointer→qvW,tuple→qvZ,int→qvK
def Nq {V:ut}{l:pz Nd}(hb:∀x∈l,Bd x.ln){v:un}{root:Int}(h:AT V v root l) :
  aa prog 97 #[v] V λr V'=>∃q,r=qvZ #[qvW q,qvQ (xf l root).isSome]/\∀t,xf l root=some t->RT V' q t:=by
 obtain ⟨p,n,c,rfl,h⟩:=h;refine (PI hb root h).s ?_;rintro r V' _ ⟨b,d⟩
 cases e:xf l root with
 | none=>obtain ⟨q,rfl⟩:=b e;exact ⟨q,rfl,λt a=>by cases a⟩
 | some t=>obtain ⟨q,rfl,f⟩:=d t e;exact ⟨q,rfl,λg a=>by cases a;exact f⟩
def Tr.depth:Tr->Nat
 | .leaf _=>0
 | .node _ a b=>1+max a.depth b.depth
def mO:∀t:Tr,t.depth<=t.size
 | .leaf _=>Qq2 _
 | .node _ a b=>by have:=mO a;have:=mO b;simp only [Tr.depth,Tr.size];omega
def QX {a b:Nat}(ha:a<=1000000)(hb:b<=1000000:=by omega):i64.wrap ((1:Int)+bZ (a:Int) (b:Int))=((1+max a b:Nat):Int):=by
 have:bZ (a:Int) (b:Int)=((max a b:Nat):Int):=by unfold bZ;split<;>omega
 rw [this,au (by omega)];omega
def pE:∀(t:Tr) {V:ut} {p:OA},RT V p t->t.size<=1000000->aa prog 98 #[qvW p] V λr V'=>r=qvK .i64 (t.depth:Int)
 | .leaf i,V,p,h,hs=>by
  refine qo V _ λV1 l1=>(dR (h.le l1)).s ?_;rintro r V2 l2 rfl;exact ⟨_,rfl,λ_ V3 l3=>rfl,(λh=>nomatch h)⟩
 | .node ln a b,V,p,h,hs=>by
  have h0:=h;refine qo V _ λV1 l1=>(dR (h0.le l1)).s ?_;rintro r V2 l2 rfl;obtain ⟨l,m,n,o,q,s,u,v,w,x,pl,f,i,rfl,d,y,g,c⟩:=h.le (l1.m l2);have s1:=mO a;have s2:=mO b;simp only [Tr.size] at hs;refine ⟨_,rfl,(λh=>nomatch h),λ_=>⟨rfl,rfl,pl,F9 d 9 rfl,rfl,rfl,f,F9 d 10 rfl,λz e=>(pE a (g.le e) (by omega)).s ?_⟩⟩;rintro r A j rfl;refine ⟨_,rfl,λB k=>(pE b (c.le (e.m (j.m k))) (by omega)).s ?_⟩;rintro r C D rfl;exact ⟨_,rfl,λE F=>by rw [QX (by omega)];rfl⟩
def lo1:Tr->Int
 | .leaf i=>if i then 0 else 1
 | .node ..=>0
def oE {V:ut}{p:OA}{i:md}(h:RW V p (.leaf i)):p.isSome=true/\(∃a,ae p 0=some a/\V.at a (qvQ true))/\∃a,ae p 1=some a/\V.at a (qvQ i):=by
 obtain ⟨b,d,e,f,g,j,k,l,m,rfl,c⟩:=h;exact ⟨rfl,F9 c 0 rfl,F9 c 1 rfl⟩
end Go.Proofs.Tryz
namespace Go.Eng
open Go.Proofs.Tryz
variable {α:Type} {sz:Nat} {R:View->Value->α->Prop} {V V':View} {d:α}
theorem Row.get {vs:pz un}{al:pz α}(h:Row sz R V vs al){i:Nat}(hi:i<al.length)(hs:0<sz) :
  ∃xs:pz un,xs.length=sz/\R V (.agg xs.toArray) (al.getD i d)/\i*sz+sz<=vs.length/\(vs.drop (i*sz)).take sz=xs:=by
 have ⟨xs,a,b,c⟩:=h.at_ i hi;have e:=h.jR hs;have:(i+1)*sz<=al.length*sz:=Qw0 _ hi;rw [Qg9] at this;refine ⟨xs,a,by simpa [hi] using b,by omega,?_⟩;apply Qg2;intro j;rw [Qy3];split
 ·grind
 ·grind
end Go.Eng
namespace Go.Proofs.Tryz
open Go.Eng Go.Big
section
variable {α:Type} (e:α->α->Bool)
def Fp:α->List α->List α
 | _,[]=>[]
 | p,a::r=>if e a p then Fp a r else a::Fp a r
def CL:List α->List α
 | []=>[]
 | a::r=>a::Fp e a r
variable {e}
theorem HA:∀{r:pz α} {p:α},(Fp e p r).length<=r.length
 | [],p=>Qq2 _
 | b::r,p=>by
  have:=HA (r:=r) (p:=b);grind [Fp]
theorem PN {l:pz α}:(CL e l).length<=l.length:=by
 cases l with
 | nil=>exact Qq2 _
 | cons a r=>have:=HA (e:=e) (r:=r) (p:=a);simp [CL];omega
theorem PO {l:pz α}(h:l.length<=1:=by omega):CL e l=l:=by
 match l,h with
 | [],_=>rfl
 | [a],_=>rfl
 | _::_::_,h=>simp at h
end
end Go.Proofs.Tryz
namespace Go.Proofs.Tryz
open Go.Eng Go.Big
open Go.Value renaming slice→hF,agg→dB,bool→qvQ,pointer→qvW,tuple→qvZ,int→qvK
variable{V:View}{v w:Value}{k n:Nat}{L M a b l m:L3}{s:Sp}{p:OA}{px py qx qy:Rat}
theorem J_ {x y:Rat}(hx:RR V v x)(hy:RR V w y)(sx:Sz k x)(sy:Sz k y)(hk:2*k<1099511627776) :
  aa prog 280 #[v,w] V λr V'=>RR V' r (sH x y):=by
 have g:=hx;have i:=hy;obtain ⟨a,b,c,rfl⟩:=hx.shape;obtain ⟨d,e,f,rfl⟩:=hy.shape;refine Jd V _ λo j=>(lK (i.le j) (g.le j) sy sx).s ?_;rintro r V2 l rfl;unfold sH;exact ⟨_,rfl,λh p m=>by rw [if_pos (of_decide_eq_true h)];exact i.le (j.m (l.m m)),λh q n=>by rw [if_neg (of_decide_eq_false h)];exact g.le (j.m (l.m n))⟩
theorem Ka {x y:Rat}(hx:RR V v x)(hy:RR V w y)(sx:Sz k x)(sy:Sz k y)(hk:2*k<1099511627776) :
  aa prog 281 #[v,w] V λr V'=>RR V' r (sI x y):=by
 have g:=hx;have i:=hy;obtain ⟨a,b,c,rfl⟩:=hx.shape;obtain ⟨d,e,f,rfl⟩:=hy.shape;refine Je V _ λo j=>(lK (i.le j) (g.le j) sy sx).s ?_;rintro r V2 l rfl;unfold sI;exact ⟨_,rfl,λh p m=>by rw [if_pos (of_decide_eq_true h)];exact i.le (j.m (l.m m)),λh q n=>by rw [if_neg (of_decide_eq_false h)];exact g.le (j.m (l.m n))⟩
theorem Sp.FL {v w:Sp}(h1:v.sz k)(h2:w.sz k):(v.meet w).sz k:=by
 unfold Sp.meet Sp.sz sH sI;constructor<;>dsimp only
 ·split
  ·exact h2.1
  ·split
   ·exact h1.1
   ·split
    ·exact h2.1
    ·exact h1.1
 ·split
  ·exact h2.2
  ·split
   ·exact h1.2
   ·split
    ·exact h2.2
    ·exact h1.2
theorem DV {s t:Sp}(h:eC V v s)(h':eC V w t)(hs:s.sz k)(ht:t.sz k)(hk:2*k<1099511627776:=by omega) :
  aa prog 257 #[v,w] V λr V'=>∃u,r=qvZ #[u,qvQ (!(s.meet t).emp)]/\eC V' u (s.meet t):=by
 obtain ⟨T,U,p,l,m,q,rfl,W,A⟩:=h;obtain ⟨X,Y,o,Z,w2,j,rfl,g1,g2⟩:=h';have lo1:s.a=true->(s.meet t).lo=t.lo/\(s.meet t).a=t.a:=λe=>by simp [Sp.meet,e]
 have D:s.a=false->t.a=false->(s.meet t).lo=sH s.lo t.lo:=λe f=>by simp [Sp.meet,e,f]
 have E:s.a=false->t.a=true->(s.meet t).lo=s.lo:=λe f=>by simp [Sp.meet,e,f]
 have n:s.a=false->(s.meet t).a=s.a:=λe=>by simp [Sp.meet,e]
 have x:s.b=true->(s.meet t).hi=t.hi/\(s.meet t).b=t.b:=λe=>by simp [Sp.meet,e]
 have F:s.b=false->t.b=false->(s.meet t).hi=sI s.hi t.hi:=λe f=>by simp [Sp.meet,e,f]
 have G:s.b=false->t.b=true->(s.meet t).hi=s.hi:=λe f=>by simp [Sp.meet,e,f]
 have y:s.b=false->(s.meet t).b=s.b:=λe=>by simp [Sp.meet,e]
 refine BD V _ ⟨λz i=>RR i (dB #[qvK .i64 z.1,qvK .i64 z.2.1,qvW z.2.2.1]) (s.meet t).lo/\RR i (dB #[qvK .i64 z.2.2.2.1,qvK .i64 z.2.2.2.2.1,qvW z.2.2.2.2.2.1]) s.hi/\z.2.2.2.2.2.2.1=(s.meet t).a/\z.2.2.2.2.2.2.2=s.b,⟨λc=>?_,λc=>⟨λd i H=>(J_ (W.le H) (g1.le H) hs.1 ht.1 hk).s ?_,λd=>?_⟩⟩,?_⟩
 ·refine ⟨(X,Y,o,l,m,q,t.a,s.b),by and_intros<;>rfl,?_,A,(lo1 c).2.symm,rfl⟩;rw [(lo1 c).1];exact g1
 ·rintro r V2 l2 g;rw [Qx9] at d;have I:=g;obtain ⟨J,K,L,rfl⟩:=g.shape;refine ⟨_,_,_,rfl,(J,K,L,l,m,q,s.a,s.b),by and_intros<;>rfl,?_,A.le (H.m l2),(n c).symm,rfl⟩;rw [D c d];exact I
 ·rw [Qj0] at d;refine ⟨(T,U,p,l,m,q,s.a,s.b),by and_intros<;>rfl,?_,A,(n c).symm,rfl⟩;rw [E c d];exact W
 ·rintro ⟨M,N,O,z4,z5,z6,z7,z8⟩ V3 P ⟨B,k2,k3,k4⟩;dsimp only at B k2 k3 k4;subst k3 k4;refine ⟨rfl,λz i=>RR i (dB #[qvK .i64 z.1,qvK .i64 z.2.1,qvW z.2.2.1]) (s.meet t).lo/\RR i (dB #[qvK .i64 z.2.2.2.1,qvK .i64 z.2.2.2.2.1,qvW z.2.2.2.2.2.1]) (s.meet t).hi/\z.2.2.2.2.2.2.1=(s.meet t).a/\z.2.2.2.2.2.2.2=(s.meet t).b,⟨λc=>?_,λc=>⟨λd V4 Q=>(Ka (A.le (P.m Q)) (g2.le (P.m Q)) hs.2 ht.2 hk).s ?_,λd=>?_⟩⟩,?_⟩
  ·refine ⟨(M,N,O,Z,w2,j,(s.meet t).a,t.b),by and_intros<;>rfl,B,?_,rfl,(x c).2.symm⟩;rw [(x c).1];exact g2.le P
  ·rintro r V5 l5 g;rw [Qx9] at d;have I:=g;obtain ⟨J,K,L,rfl⟩:=g.shape;refine ⟨_,_,_,rfl,(M,N,O,J,K,L,(s.meet t).a,s.b),by and_intros<;>rfl,B.le (Q.m l5),?_,rfl,(y c).symm⟩;rw [F c d];exact I
  ·rw [Qj0] at d;refine ⟨(M,N,O,z4,z5,z6,(s.meet t).a,s.b),by and_intros<;>rfl,B,?_,rfl,(y c).symm⟩;rw [G c d];exact k2
  ·rintro ⟨l,m,y3,y4,y5,y6,y7,y8⟩ V6 l6 ⟨R,S,j3,j4⟩;dsimp only at R S j3 j4;subst j3 j4;refine ⟨rfl,λV7 C=>(JZ ⟨_,_,_,_,_,_,rfl,R.le C,S.le C⟩ (Sp.FL hs ht) hk).s ?_⟩;rintro r V8 l8 rfl;exact ⟨_,rfl,λV9 l9=>⟨_,rfl,_,_,_,_,_,_,rfl,R.le (C.m (l8.m l9)),S.le (C.m (l8.m l9))⟩⟩
theorem qV (sl:lA k L)(sm:lA k M):Sz (4*k+3) (dotL M L):=cV sm.1 sm.2.1 sl.2.1 sl.1.neg
theorem Pq:(((M.1:Rat)*((L.1:Rat)*(((-(L.2.2:Rat))*(((L.1:Rat)*(L.1:Rat))+((L.2.1:Rat)*(L.2.1:Rat)))⁻¹))))+((M.2.1:Rat)*((L.2.1:Rat)*(((-(L.2.2:Rat))*(((L.1:Rat)*(L.1:Rat))+((L.2.1:Rat)*(L.2.1:Rat)))⁻¹)))))+(M.2.2:Rat)=jJ M L:=by
 unfold jJ aq eK eN gK;grind
theorem qU (sl:lA k L)(sm:lA k M):Sz (50*k+49) (jJ M L):=by
 rw [←Pq];exact Sz.s (wI (k:=10*k+9) (sm.1.s (by omega)) (sm.2.1.s (by omega)) (sm.2.2.s (by omega)) (gX sl.1 sl.2.1 sl.2.2) (gY sl.1 sl.2.1 sl.2.2))
theorem oH (sl:lA k L)(sm:lA k M):Sz (60*k+60) (cutP M L):=Sz.s ((qU sl sm).mul (fu (qV sl sm))).neg
theorem Hd {l m:un}(hl:o_ V l L)(hv:eC V v s)(hm:o_ V m M)(sl:lA k L)(hs:s.sz k)(sm:lA k M)(hk:200*k+200<274877906944:=by omega) :
  aa prog 222 #[l,v,m] V λr V'=>∃w,r=qvZ #[w,qvQ (cH L s M)]/\eC V' w (bu L s M):=by
 have f:=hl;have b:=hv;have g:=hm;obtain ⟨_,_,_,_,_,_,_,_,_,rfl,-,-,-⟩:=hl;obtain ⟨_,_,_,_,_,_,rfl,-,-⟩:=hv;obtain ⟨_,_,_,_,_,_,_,_,_,rfl,-,-,-⟩:=hm;have h:s.sz (60*k+60):=⟨hs.1.s (by omega),hs.2.s (by omega)⟩;have z:=CZ (60*k+60);refine Df V _ λV1 x=>(jL (g.le x) sm.1 sm.2.1 sm.2.2).s ?_;rintro r V2 X Y;have y:=Y;obtain ⟨_,_,_,_,_,_,rfl,-,-⟩:=Y;refine qyW ⟨rfl,λV3 A=>(Fc (f.le (x.m (X.m A))) sl.1 sl.2.1 sl.2.2).s ?_⟩;rintro r V4 Z g2;have B:=g2;obtain ⟨_,_,_,_,_,_,rfl,-,-⟩:=g2;refine qyW ⟨rfl,λV5 C=>(nN (y.le (A.m (Z.m C))) (B.le C) sm.1 sm.2.1 sl.2.1 sl.1.neg).s ?_⟩;rintro r D l6 g3;have E:RR D r (dotL M L):=g3;obtain ⟨_,_,_,rfl⟩:=g3.shape;have i:V.Le D:=x.m (X.m (A.m (Z.m (C.m l6))));refine ⟨_,_,_,rfl,λV7 F=>(Cv (f.le (i.m F)) sl.1 sl.2.1 sl.2.2).s ?_⟩;rintro r V8 l8 g4;have Qh:=g4;obtain ⟨_,_,_,_,_,_,rfl,-,-⟩:=g4;refine qyW ⟨rfl,λV9 G=>(zJ (k:=10*k+9) (g.le (i.m (F.m (l8.m G)))) (Qh.le G) (sm.1.s (by omega)) (sm.2.1.s (by omega)) (sm.2.2.s (by omega)) (gX sl.1 sl.2.1 sl.2.2) (gY sl.1 sl.2.1 sl.2.2)).s ?_⟩;rintro r fQ H I;rw [Pq] at I;have J:=I;obtain ⟨_,_,_,rfl⟩:=I.shape;have e:D.Le fQ:=F.m (l8.m (G.m H));refine ⟨_,_,_,rfl,λfD bq=>(pC (E.le (e.m bq)) (qV sl sm)).s ?_⟩;rintro r gS bS rfl;have a:fQ.Le gS:=bq.m bS;refine ⟨_,rfl,λc j7 bU=>(pC (J.le (a.m bU)) (qU sl sm)).s ?_,λc=>⟨λK lH N=>(E9 (J.le (a.m N)) (E.le (e.m (a.m N))) (qU sl sm) (qV sl sm)).s ?_,λK rk O=>(E9 (J.le (a.m O)) (E.le (e.m (a.m O))) (qU sl sm) (qV sl sm)).s ?_⟩⟩
 ·rintro r lB cz rfl;have j:cH L s M=decide ((jJ M L).num.sign>0):=by unfold cH;rw [if_pos c]
  have d:bu L s M=s:=by unfold bu;rw [if_pos c]
  rw [j,d];exact ⟨_,rfl,λjI cE=>⟨_,rfl,b.le (i.m (e.m (a.m (bU.m (cz.m cE)))))⟩⟩
 ·have d:bu L s M=s.meet ⟨cutP M L,0,false,true⟩:=by unfold bu;rw [if_neg (by rw [c];exact Qv7),if_pos K]
  have j:cH L s M=!(s.meet ⟨cutP M L,0,false,true⟩).emp:=by rw [←d];unfold cH;rw [if_neg (by rw [c];exact Qv7)]
  rw [j,d];rintro r lC P n;have Q:=n;obtain ⟨_,_,_,rfl⟩:=n.shape;refine ⟨_,_,_,rfl,λmE o=>(lL (Q.le o) ((qU sl sm).mul (fu (qV sl sm)))).s ?_⟩;rintro r R S p;have T:RR R r (cutP M L):=p;obtain ⟨_,_,_,rfl⟩:=p.shape;refine ⟨_,_,_,rfl,λvh q=>(DV (t:=⟨cutP M L,0,false,true⟩) (b.le (i.m (e.m (a.m (N.m (P.m (o.m (S.m q)))))))) ⟨_,_,_,_,_,_,rfl,T.le q,RR.zero _⟩ h ⟨oH sl sm,z⟩).s ?_⟩;rintro r qB gi ⟨w,rfl,u⟩;have U:=u;obtain ⟨_,_,_,_,_,_,rfl,-,-⟩:=u;exact qyJ ⟨rfl,λtC W=>⟨_,rfl,U.le W⟩⟩
 ·have d:bu L s M=s.meet ⟨0,cutP M L,true,false⟩:=by unfold bu;rw [if_neg (by rw [c];exact Qv7),if_neg (by rw [K];exact Qv7)]
  have j:cH L s M=!(s.meet ⟨0,cutP M L,true,false⟩).emp:=by rw [←d];unfold cH;rw [if_neg (by rw [c];exact Qv7)]
  rw [j,d];rintro r lC P n;have Q:=n;obtain ⟨_,_,_,rfl⟩:=n.shape;refine ⟨_,_,_,rfl,λmE o=>(lL (Q.le o) ((qU sl sm).mul (fu (qV sl sm)))).s ?_⟩;rintro r R S p;have T:RR R r (cutP M L):=p;obtain ⟨_,_,_,rfl⟩:=p.shape;refine ⟨_,_,_,rfl,λvh q=>(DV (t:=⟨0,cutP M L,true,false⟩) (b.le (i.m (e.m (a.m (O.m (P.m (o.m (S.m q)))))))) ⟨_,_,_,_,_,_,rfl,RR.zero _,T.le q⟩ h ⟨z,oH sl sm⟩).s ?_⟩;rintro r qB gi ⟨w,rfl,u⟩;have U:=u;obtain ⟨_,_,_,_,_,_,rfl,-,-⟩:=u;exact qyJ ⟨rfl,λtC W=>⟨_,rfl,U.le W⟩⟩
structure JQ (V:View) (p:OA) (n:Nat) (fs:List (L3×Sp)):Prop where
 len:n=fs.length
 at_:∀(i:Nat)(h:i<fs.length),∃ad,ae p (i*17)=some ad/\∃xs:List Value,GU V (.agg xs.toArray) fs[i].1 fs[i].2/\∀j x,xs[j]?=some x->V.at (ad.add j) x
theorem JQ.le {V V':ut}{fs:pz (L3×Sp)}(h:JQ V p n fs)(e:V.Le V'):JQ V' p n fs:=⟨h.len,λi a=>by have ⟨b,c,xs,d,f⟩:=h.at_ i a;exact ⟨b,c,xs,d.le e,λj x g=>e.at (f j x g)⟩⟩
theorem JQ.nil:JQ V none 0 []:=⟨rfl,λi a=>by simp at a⟩
def oO (l:L3)(s:Sp)(m:L3):List (L3×Sp):=if cH l s m=true then [(l,bu l s m)] else []
theorem J4 {c:Nat}{fs:pz (L3×Sp)}(h:JQ V p n fs)(hn:fs.length<=1000)(hs:∀f∈fs,lA k f.1/\f.2.sz k)(hk:k<=1099511627776:=by omega) :
  aa prog 61 #[hF p n c] V λr V'=>∃q m e,r=hF q m e/\O8 V' q m fs:=by
 obtain rfl:=h.len
 refine yg V _ ⟨λz V'=>∃j:Nat,z.2.2.2=(j:Int)/\j<=fs.length/\z.1=j/\j<=z.2.1/\z.2.1*14<=z.2.2.1.length/\∀(i:Nat)(_:i<j)(l:i<fs.length),∃xs:pz un,xs.length=14/\W3 V' (.agg xs.toArray) fs[i].1 fs[i].2/\∀q x,xs[q]?=some x->z.2.2.1[i*14+q]?=some x,
  λz=>fs.length-z.2.2.2.toNat,⟨(0,0,[],0),by and_intros<;>rfl,0,rfl,Qq4 _,rfl,Qq2 _,Qq2 _,λi l=>absurd l (Qm0 i)⟩,?_⟩
 rintro ⟨b,O,u,z4⟩ V1 P ⟨j,H,wX,I,J,hv,y⟩;dsimp only at H I J hv y;subst H I;refine ⟨rfl,λd=>?_,λd V4 Q A R=>?_⟩
 ·have d:(b:Int)<fs.length:=of_decide_eq_true d;have l:b<fs.length:=by omega
  obtain ⟨S,K,xs,L,a⟩:=(h.le P).at_ b l;have w:i64.wrap ((b:Int)+1)=(b:Int)+1:=au (by omega);dsimp only;rw [Qq0,w];have B:=L;obtain ⟨_,_,_,_,_,_,_,_,_,_,_,_,_,_,_,ex,-,-⟩:=L;have ex:=congrArg Array.toList (Value.agg.inj ex);dsimp only at ex;subst ex;have ⟨s1,s2⟩:=hs _ (Qq9 l);refine ⟨aX K,⟨by omega,by omega⟩,_,_,_,_,_,_,_,_,_,_,_,_,_,_,_,_,_,S,K,a 0 _ rfl,a 1 _ rfl,a 2 _ rfl,a 3 _ rfl,a 4 _ rfl,a 5 _ rfl,a 6 _ rfl,a 7 _ rfl,a 8 _ rfl,a 9 _ rfl,a 10 _ rfl,a 11 _ rfl,a 12 _ rfl,a 13 _ rfl,a 14 _ rfl,a 15 _ rfl,a 16 _ rfl,λV2 M=>(PC (B.le M) s1 s2 hk).s ?_⟩;rintro r V3 T g;have U:=g;obtain ⟨_,_,_,_,_,_,_,_,_,_,_,_,_,_,_,_,_,_,_,_,_,_,_,_,_,_,rfl⟩:=P9 g;refine ⟨_,_,_,_,_,_,_,_,_,_,_,_,_,_,_,_,_,_,_,_,_,_,_,_,_,_,_,_,rfl,by omega,J,hv,rfl,?_,?_⟩
  ·intro v hm;simp only [Qq6,Qy0,or_false] at hm;rcases hm with rfl|rfl|rfl|rfl|rfl|rfl|rfl|rfl|rfl|rfl|rfl|rfl|rfl|rfl<;>rfl
  ·intro sp W X h2;refine ⟨(b+1,W,_,(b:Int)+1),by dsimp only;omega,by and_intros<;>rfl,b+1,rfl,l,rfl,X,?_,?_⟩
   ·dsimp only;have t:(u.take (b*14)).length=b*14:=by rw [Qq7];omega
    rw [Qq3,Qq3,t];simp only [Qw9,Qj6];omega
   ·intro i Y C;dsimp only;have t:(u.take (b*14)).length=b*14:=by rw [Qq7];omega
    by_cases o:i=b
    ·subst o;refine ⟨_,rfl,U,λq x s=>?_⟩;rw [Qy6,Qy8 (by rw [t];omega),t,Qn4];have:q<14:=(Qx0.1 s).1;rw [Qx1 (by exact this)];exact s
    ·have ⟨D,N,E,F⟩:=y i (by omega) C;refine ⟨D,N,E.le (M.m T),λq x s=>?_⟩;have:q<14:=by have:=(Qx0.1 s).1;omega
     rw [Qy6,Qx1 (by rw [t];omega),Qy3,if_pos (by omega)];exact F q x s
 ·have d:¬(b:Int)<fs.length:=of_decide_eq_false d;obtain rfl:b=fs.length:=by omega
  refine ⟨_,_,_,rfl,rfl,λi l=>?_⟩;have Z:O≠0:=by omega
  have G:u≠[]:=λe=>by rw [e] at hv;simp at hv;omega
  have ⟨D,N,E,F⟩:=y i l l;refine ⟨⟨A,i*14,none⟩,by simp [mA,Z,ae,add_zero'],D,E.le Q,λq x s=>?_⟩;have hj:(⟨A,i*14,none⟩:Addr).add q=⟨A,i*14+q,none⟩:=by rw [←add_zero',jY,add_zero']
  rw [hj];exact dF (R G) (F q x s)
theorem TT:((L.1:Rat)=(M.1:Rat)/\(L.2.1:Rat)=(M.2.1:Rat)/\(L.2.2:Rat)=(M.2.2:Rat))↔L=M:=by
 constructor
 ·rintro ⟨a,b,c⟩;exact Prod.ext (Qh9.1 a) (Prod.ext (Qh9.1 b) (Qh9.1 c))
 ·rintro rfl;exact ⟨rfl,rfl,rfl⟩
theorem qK (hl:o_ V v L)(hm:o_ V w M)(sl:lA k L)(sm:lA k M)(hk:k+k<1099511627776:=by omega) :
  aa prog 176 #[v,w] V λr V'=>r=qvQ (decide (L=M)):=by
 refine (Hk hl hm sl.1 sl.2.1 sl.2.2 sm.1 sm.2.1 sm.2.2 hk).s ?_;rintro r V' l rfl;rw [decide_eq_decide.2 TT]
theorem xK (x y:Rat):0<=(fC x y).num:=by
 unfold fC;grind [Rat.num_mkRat]
theorem Sn (h:¬(px=qx/\py=qy)):kX (mu px py qx qy) qx qy-kX (mu px py qx qy) px py=fC (fC (-(qy-py)) (qx-px)) (-(-(qy-py)*px+(qx-px)*py)):=by
 obtain ⟨f,d,e,-⟩:=qN (a:=-(qy-py)) (b:=qx-px) (c:=-(-(qy-py)*px+(qx-px)*py)) (uN h);have i:=(MX h).norm;change _=((mu px py qx qy).1:Rat) at d;change _=((mu px py qx qy).2.1:Rat) at e;generalize fC (fC (-(qy-py)) (qx-px)) (-(-(qy-py)*px+(qx-px)*py))=g at *;have j:=Qb9 g f;have k:=Qb9 _ i;unfold kX
 have l:gK (mu px py qx qy)=((qy-py)*(qy-py)+(qx-px)*(qx-px))*(g⁻¹*g⁻¹):=by
  unfold gK;rw [←d,←e];grind
 grind
theorem U9 (h:¬(px=qx/\py=qy)):(K6 px py qx qy).emp=false:=by
 obtain ⟨f,-⟩:=qN (a:=-(qy-py)) (b:=qx-px) (c:=-(-(qy-py)*px+(qx-px)*py)) (uN h);have d:=Sn h;have i:=xK (fC (-(qy-py)) (qx-px)) (-(-(qy-py)*px+(qx-px)*py));unfold K6 Sp.emp;generalize fC (fC (-(qy-py)) (qx-px)) (-(-(qy-py)*px+(qx-px)*py))=g at *
 have e:dI (kX (mu px py qx qy) px py) (kX (mu px py qx qy) qx qy)=- g.num.sign:=by
  rw [ND,←d];rfl
 grind [Io]
theorem YN (h:¬(px=qx/\py=qy)):FOk (mu px py qx qy) (K6 px py qx qy):=⟨Rs h,⟨(λh=>nomatch h),(λh=>nomatch h)⟩,U9 h⟩
theorem Zl (V:ut):RQ V (dB #[qvQ false,hF none 0 0,hF none 0 0]) 0:=by have:=RQ.zero (V:=V);simpa using this
theorem tK:aa prog 243 #[] V λr V'=>oT V' r ⟨0,0,true,true⟩:=
 Dv V _ λa b=>⟨_,_,_,_,_,_,_,_,_,_,_,_,_,_,rfl,Zl _,Zl _⟩
theorem Bf (h:oT V v s):∃b p n c p' n' c' d q m e q' m' e',v=dB #[qvQ b,hF p n c,hF p' n' c',qvQ d,hF q m e,hF q' m' e',qvQ s.a,qvQ s.b]:=by
 obtain ⟨_,_,_,_,_,_,_,_,_,_,_,_,_,_,e,-⟩:=h;exact qyK e
theorem IL (h:RF V v l s):∃b1 p1 n1 c1 b2 p2 n2 c2 b3 p3 n3 c3 b p n c p' n' c' d q m e q' m' e',
 v=dB #[qvQ b1,hF p1 n1 c1,qvQ b2,hF p2 n2 c2,qvQ b3,hF p3 n3 c3,qvQ b,hF p n c,hF p' n' c',qvQ d,hF q m e,hF q' m' e',qvQ s.a,qvQ s.b]:=by
 obtain ⟨_,_,_,_,_,_,_,_,_,_,_,_,_,_,_,_,_,_,_,_,_,_,_,_,_,_,e,-⟩:=h;exact ⟨_,_,_,_,_,_,_,_,_,_,_,_,_,_,_,_,_,_,_,_,_,_,_,_,_,_,e⟩
theorem Vi {k:Nat}(h:lA k l):l.1.natAbs<2^k/\l.2.1.natAbs<2^k/\l.2.2.natAbs<2^k:=by
 have e:∀{x:Int},Sz k (x:Rat)->x.natAbs<2^k:=λh=>by have:=h.1;rwa [Qd9] at this
 exact ⟨e h.1,e h.2.1,e h.2.2⟩
theorem Xb (h:lA 1000 l):Bd l:=Vi (k:=1000) h
theorem mf (z w:Int){q:OA}{c m e:Nat}(ha:RD V p n c (ah z.natAbs))(hb:RD V q m e (ah w.natAbs))(hm:(ah z.natAbs).length<=1099511627776)(hn:(ah w.natAbs).length<=1099511627776) :
  aa prog 144 #[dB #[qvQ (decide (z<0)),hF p n c],dB #[qvQ (decide (w<0)),hF q m e]] V λr V'=>r=qvK .i64 (z-w).sign:=by
 refine BO V _ λi a=>(jz w (hb.le a)).s ?_;rintro r V2 d ⟨j,k,l,rfl,f⟩;refine qyQ ⟨rfl,λo b=>(vE z (-w) (ha.le (a.m (d.m b))) (f.le b) hm (by rw [Qd5];exact hn)).s ?_⟩;rintro r s t ⟨u,v,x,rfl,g⟩;refine qyQ ⟨rfl,λy h=>(nS _ (g.le h)).s ?_⟩;rintro r A B rfl;exact ⟨_,rfl,λC D=>by rw [Int.sub_eq_add_neg]⟩
def mh (l m:L3):Int:=if (l.1-m.1).sign≠0 then (l.1-m.1).sign else if (l.2.1-m.2.1).sign≠0 then (l.2.1-m.2.1).sign else (l.2.2-m.2.2).sign
theorem Fm:mh l m=0↔l=m:=by
 have e:∀{a b:Int},(a-b).sign=0↔a=b:=λ{a b}=>by rw [Qm1];omega
 unfold mh;constructor
 ·intro h;by_cases c:(l.1-m.1).sign=0
  ·rw [if_neg (by simpa using c)] at h;by_cases d:(l.2.1-m.2.1).sign=0
   ·rw [if_neg (by simpa using d)] at h;exact Prod.ext (e.1 c) (Prod.ext (e.1 d) (e.1 h))
   ·rw [if_pos d] at h;exact absurd h d
  ·rw [if_pos c] at h;exact absurd h c
 ·rintro rfl;simp
theorem lP (hl:RL V v l.1 l.2.1 l.2.2)(hm:RL V w m.1 m.2.1 m.2.2)(sl:lA k l)(sm:lA k m)(hk:k<=1099511627776:=by omega) :
  aa prog 90 #[v,w] V λr V'=>r=qvK .i64 (mh l m):=by
 have ⟨d1,d2,d3⟩:=sl.ah hk;have ⟨f,g,i⟩:=sm.ah hk;obtain ⟨_,_,_,_,_,_,_,_,_,rfl,j,n,o⟩:=hl;obtain ⟨_,_,_,_,_,_,_,_,_,rfl,p,q,s⟩:=hm;refine GC V _ λt a=>(mf _ _ (j.le a) (p.le a) d1 f).s ?_;rintro r V2 b rfl;unfold mh;refine ⟨_,rfl,λh u x=>?_,λh y c=>(mf _ _ (n.le (a.m (b.m c))) (q.le (a.m (b.m c))) d2 g).s ?_⟩
 ·rw [bne_iff_ne] at h;rw [if_pos h]
 ·rw [bne_eq_false_iff_eq] at h;rw [if_neg (by rw [h];decide)];rintro r z d rfl;refine ⟨_,rfl,λh A B=>?_,λh C e=>(mf _ _ (o.le (a.m (b.m (c.m (d.m e))))) (s.le (a.m (b.m (c.m (d.m e))))) d3 i).s ?_⟩
  ·rw [bne_iff_ne] at h;rw [if_pos h]
  ·rw [bne_eq_false_iff_eq] at h;rw [if_neg (by rw [h];decide)];rintro r D E rfl;exact ⟨_,rfl,λF G=>rfl⟩
theorem Hw:(mh l m==(0:Int))=decide (l=m):=by
 by_cases h:l=m
 ·rw [decide_eq_true h,beq_iff_eq];exact Fm.2 h
 ·rw [decide_eq_false h,beq_eq_false_iff_ne];exact λe=>h (Fm.1 e)
def O7 (u:Value):Prop:=u=.agg #[.bool false,.slice none 0 0,.slice none 0 0,.bool false,.slice none 0 0,.slice none 0 0]
theorem R_ (hl:RL V v l.1 l.2.1 l.2.2)(hm:RL V w m.1 m.2.1 m.2.2)(sl:lA k l)(sm:lA k m)(hk:20*k+20<274877906944:=by omega) :
  aa prog 107 #[v,w] V λr V'=>∃u,r=qvZ #[u,qvQ (decide (crossL l m≠0))]/\(crossL l m=0->O7 u)/\(crossL l m≠0->RP V' u (Zg l m) (Zh l m)):=by
 have e0:((l.1:Int):Rat)*((m.2.1:Int):Rat)-((m.1:Int):Rat)*((l.2.1:Int):Rat)=crossL l m:=by unfold crossL;grind
 have e1:((l.2.1:Int):Rat)*((m.2.2:Int):Rat)-((m.2.1:Int):Rat)*((l.2.2:Int):Rat)=((l.2.1:Rat)*(m.2.2:Rat))-((l.2.2:Rat)*(m.2.1:Rat)):=by grind
 have e2:((m.1:Int):Rat)*((l.2.2:Int):Rat)-((l.1:Int):Rat)*((m.2.2:Int):Rat)=((l.2.2:Rat)*(m.1:Rat))-((l.1:Rat)*(m.2.2:Rat)):=by grind
 obtain ⟨a,b,c⟩:=sl;obtain ⟨d,e,f⟩:=sm;obtain ⟨_,_,_,_,_,_,_,_,_,rfl,a1,a2,a3⟩:=hl;obtain ⟨_,_,_,_,_,_,_,_,_,rfl,b1,b2,b3⟩:=hm;refine Dn V _ λV1 A=>(bw (a1.le A) a).s ?_;rintro r V2 l2 B;have C:=B;obtain ⟨_,_,_,_,_,_,rfl⟩:=B.shape;refine qyZ ⟨rfl,λV3 D=>(bw (b2.le (A.m (l2.m (D)))) e).s ?_⟩;rintro r V4 l4 E;have F:=E;obtain ⟨_,_,_,_,_,_,rfl⟩:=E.shape;refine qyZ ⟨rfl,λV5 G=>(aW (C.le (D.m (l4.m (G)))) (F.le G) a e).s ?_⟩;rintro r V6 l6 H;have I:=H;obtain ⟨_,_,_,_,_,_,rfl⟩:=H.shape;refine qyZ ⟨rfl,λV7 l7=>(bw (b1.le (A.m (l2.m (D.m (l4.m (G.m (l6.m (l7)))))))) d).s ?_⟩;rintro r V8 l8 J;have K:=J;obtain ⟨_,_,_,_,_,_,rfl⟩:=J.shape;refine qyZ ⟨rfl,λV9 l9=>(bw (a2.le (A.m (l2.m (D.m (l4.m (G.m (l6.m (l7.m (l8.m (l9)))))))))) b).s ?_⟩;rintro r fQ i L;have M:=L;obtain ⟨_,_,_,_,_,_,rfl⟩:=L.shape;refine qyZ ⟨rfl,λfD bq=>(aW (K.le (l9.m (i.m (bq)))) (M.le bq) d b).s ?_⟩;rintro r gS bS N;have O:=N;obtain ⟨_,_,_,_,_,_,rfl⟩:=N.shape;refine qyZ ⟨rfl,λj7 bU=>(ia (I.le (l7.m (l8.m (l9.m (i.m (bq.m (bS.m (bU)))))))) (O.le bU) (a.mul e) (d.mul b)).s ?_⟩;rintro r lB cz j;rw [e0] at j;have g:=j;obtain ⟨_,_,_,_,_,_,rfl,P,-⟩:=j;have sD:Sz (4*k+3) (((l.1:Int):Rat)*((m.2.1:Int):Rat)-((m.1:Int):Rat)*((l.2.1:Int):Rat)):=Sz.s ((a.mul e).sub (d.mul b));rw [e0] at sD;refine qyZ ⟨rfl,λjI cE=>(qC _ (P.le cE)).s ?_⟩;rintro r lH cq rfl;refine ⟨_,rfl,λn lC b_=>?_,λn=>?_⟩
 ·rw [beq_iff_eq,uI] at n;rw [n];exact ⟨_,rfl,λ_=>rfl,λh=>absurd rfl h⟩
 ·rw [beq_eq_false_iff_ne,ne_eq,uI] at n;rw [decide_eq_true n];have Q:¬(crossL l m).num=0:=λh=>n (Qv1.1 h);intro lC b_;have R:V.Le lC:=(A.m (l2.m (D.m (l4.m (G.m (l6.m (l7.m (l8.m (l9.m (i.m (bq.m (bS.m (bU.m (cz.m (cE.m (cq.m (b_)))))))))))))))))
  replace g:=g.le (cE.m (cq.m (b_)))
  refine (bw (a2.le R) b).s ?_;rintro r mE S T;have U:=T;obtain ⟨_,_,_,_,_,_,rfl⟩:=T.shape;refine qyZ ⟨rfl,λpf s=>(bw (b3.le (R.m (S.m (s)))) f).s ?_⟩;rintro r vh W X;have Y:=X;obtain ⟨_,_,_,_,_,_,rfl⟩:=X.shape;refine qyZ ⟨rfl,λqB t=>(aW (U.le (s.m (W.m (t)))) (Y.le t) b f).s ?_⟩;rintro r tC gV Z;have a0:=Z;obtain ⟨_,_,_,_,_,_,rfl⟩:=Z.shape;refine qyZ ⟨rfl,λrk ij=>(bw (b2.le (R.m (S.m (s.m (W.m (t.m (gV.m (ij)))))))) e).s ?_⟩;rintro r zk kt a4;have a5:=a4;obtain ⟨_,_,_,_,_,_,rfl⟩:=a4.shape;refine qyZ ⟨rfl,λCs lU=>(bw (a3.le (R.m (S.m (s.m (W.m (t.m (gV.m (ij.m (kt.m (lU)))))))))) c).s ?_⟩;rintro r JS oV a6;have a7:=a6;obtain ⟨_,_,_,_,_,_,rfl⟩:=a6.shape;refine qyZ ⟨rfl,λPa oW=>(aW (a5.le (lU.m (oV.m (oW)))) (a7.le oW) e c).s ?_⟩;rintro r M6 uh a8;have a9:=a8;obtain ⟨_,_,_,_,_,_,rfl⟩:=a8.shape;refine qyZ ⟨rfl,λTi yL=>(ia (a0.le (ij.m (kt.m (lU.m (oV.m (oW.m (uh.m (yL)))))))) (a9.le yL) (b.mul f) (e.mul c)).s ?_⟩;rintro r OT vR o;rw [e1] at o;have XQ:=o;obtain ⟨_,_,_,_,_,_,rfl⟩:=o.shape;have sX:Sz (4*k+3) (((l.2.1:Rat)*(m.2.2:Rat))-((l.2.2:Rat)*(m.2.1:Rat))):=by rw [←e1];exact Sz.s ((b.mul f).sub (e.mul c))
  have M1:V.Le OT:=(R.m (S.m (s.m (W.m (t.m (gV.m (ij.m (kt.m (lU.m (oV.m (oW.m (uh.m (yL.m (vR))))))))))))))
  replace g:=g.le (S.m (s.m (W.m (t.m (gV.m (ij.m (kt.m (lU.m (oV.m (oW.m (uh.m (yL.m (vR)))))))))))))
  refine qyZ ⟨rfl,λW5 x=>(bw (b1.le (M1.m x)) d).s ?_⟩;rintro r Y0 Cn b0;have b4:=b0;obtain ⟨_,_,_,_,_,_,rfl⟩:=b0.shape;refine qyZ ⟨rfl,λSZ y=>(bw (a3.le (M1.m (x.m (Cn.m (y))))) c).s ?_⟩;rintro r Zw FH b5;have b6:=b5;obtain ⟨_,_,_,_,_,_,rfl⟩:=b5.shape;refine qyZ ⟨rfl,λZx z=>(aW (b4.le (y.m (FH.m (z)))) (b6.le z) d c).s ?_⟩;rintro r d0 Mn b7;have b8:=b7;obtain ⟨_,_,_,_,_,_,rfl⟩:=b7.shape;refine qyZ ⟨rfl,λd1 O0=>(bw (a1.le (M1.m (x.m (Cn.m (y.m (FH.m (z.m (Mn.m (O0))))))))) a).s ?_⟩;rintro r d2 N8 b9;have c0:=b9;obtain ⟨_,_,_,_,_,_,rfl⟩:=b9.shape;refine qyZ ⟨rfl,λd3 Tc=>(bw (b3.le (M1.m (x.m (Cn.m (y.m (FH.m (z.m (Mn.m (O0.m (N8.m (Tc))))))))))) f).s ?_⟩;rintro r d4 Yg c1;have c2:=c1;obtain ⟨_,_,_,_,_,_,rfl⟩:=c1.shape;refine qyZ ⟨rfl,λd5 Yh=>(aW (c0.le (Tc.m (Yg.m (Yh)))) (c2.le Yh) a f).s ?_⟩;rintro r d6 p c3;have c4:=c3;obtain ⟨_,_,_,_,_,_,rfl⟩:=c3.shape;refine qyZ ⟨rfl,λd7 Yi=>(ia (b8.le (O0.m (N8.m (Tc.m (Yg.m (Yh.m (p.m (Yi)))))))) (c4.le Yi) (d.mul c) (a.mul f)).s ?_⟩;rintro r d8 c5 q;rw [e2] at q;have c6:=q;obtain ⟨_,_,_,_,_,_,rfl⟩:=q.shape;have sY:Sz (4*k+3) (((l.2.2:Rat)*(m.1:Rat))-((l.1:Rat)*(m.2.2:Rat))):=by rw [←e2];exact Sz.s ((d.mul c).sub (a.mul f))
  replace g:=g.le (x.m (Cn.m (y.m (FH.m (z.m (Mn.m (O0.m (N8.m (Tc.m (Yg.m (Yh.m (p.m (Yi.m (c5))))))))))))))
  replace XQ:=XQ.le (x.m (Cn.m (y.m (FH.m (z.m (Mn.m (O0.m (N8.m (Tc.m (Yg.m (Yh.m (p.m (Yi.m (c5))))))))))))))
  refine qyZ ⟨rfl,λd9 QH=>(iX (XQ.le QH) (g.le QH) Q sX sD).s ?_⟩;rintro r e3 c7 gr;have Ai:=gr;obtain ⟨_,_,_,_,_,_,rfl⟩:=gr.shape;refine qyZ ⟨rfl,λe4 Ze=>(iX (c6.le (QH.m (c7.m (Ze)))) (g.le (QH.m (c7.m (Ze)))) Q sY sD).s ?_⟩;rintro r Zy c8 gs;have c9:=gs;obtain ⟨_,_,_,_,_,_,rfl⟩:=gs.shape;exact qyZ ⟨rfl,λe5 Zf=>⟨_,rfl,λh=>absurd h n,λ_=>⟨_,_,_,_,_,_,_,_,_,_,_,_,rfl,Ai.le (Ze.m (c8.m (Zf))),c9.le Zf⟩⟩⟩
def S3 (a b:L3):Int:=mh a b
theorem tP:mh a b<0↔(a.1<b.1\/a.1=b.1/\(a.2.1<b.2.1\/a.2.1=b.2.1/\a.2.2<b.2.2)):=by
 have s:∀{x y:Int},(x<y/\(x-y).sign=-1)\/(x=y/\(x-y).sign=0)\/(y<x/\(x-y).sign=1):=by grind
 unfold mh;grind
theorem ordCL:Ord S3:=⟨λa b h=>by unfold S3 at *;rw [tP] at *;omega,λa b d h c=>by unfold S3 at *;rw [tP] at *;omega⟩
theorem RB:Oi [dI (a.1:Rat) (b.1:Rat),dI (a.2.1:Rat) (b.2.1:Rat),dI (a.2.2:Rat) (b.2.2:Rat)]=mh a b:=by
 have e:∀x y:Int,dI (x:Rat) (y:Rat)=(x-y).sign:=λx y=>by
  unfold dI;rw [←Wk3,Qd9]
 rw [e,e,e];unfold mh;generalize (a.1-b.1).sign=x;generalize (a.2.1-b.2.1).sign=y;generalize (a.2.2-b.2.2).sign=z;simp only [Oi];grind
def nF (V:View)(v:Value)(c:L3):Prop:=zf V v c.1 c.2.1 c.2.2/\Bd c
theorem nF.le {V V':ut}{c:L3}(h:nF V v c)(l:V.Le V'):nF V' v c:=⟨h.1.le l,h.2⟩
theorem nF.shape {c:L3}(h:nF V v c):∃(x y:Int)(p:OA)(xb yb:Int)(pb:OA)(xc yc:Int)(pc:OA),v=dB #[qvK .i64 x,qvK .i64 y,qvW p,qvK .i64 xb,qvK .i64 yb,qvW pb,qvK .i64 xc,qvK .i64 yc,qvW pc]:=by
 obtain ⟨⟨a,b,p,d,f,q,g,i,r,e,-⟩,-⟩:=h;exact qyJ e
theorem J8 (h:nF V v a)(h':nF V w b):aa prog 174 #[v,w] V λr V'=>r=qvK .i64 (S3 a b):=by
 obtain ⟨s1,s2,s3⟩:=h.2.sz;obtain ⟨t1,t2,t3⟩:=h'.2.sz;refine (DW h.1 h'.1 s1 s2 s3 t1 t2 t3).s ?_;rintro r c d rfl;rw [RB];rfl
def eL (a b:L3):Bool:=decide (a=b)
end Go.Proofs.Tryz
namespace Go.Eng
open Go.Proofs Go.Shelf Go.RowKit Go.Lib Go.Sort
open Go.Value renaming slice→hF,tuple→qvZ,int→qvK
def Vx {τ:Type}(R:View->Value->τ->Prop)(k:Nat)(V:View):Type:={p:List Value×τ // R V (.agg p.1.toArray) p.2/\p.1.length=k/\∀x∈p.1,x.oneCell'=true}
theorem FB {w w':World}(h:ir (λ_=>False) w w'):∃q os,w'=grow (w.drewN q) os:=by
 refine ⟨w'.drawn-w.drawn,w'.heap.extract w.heap.size w'.heap.size,?_⟩;obtain ⟨a,k,dr,os,out⟩:=w';have b:=h.os;have c:=h.tape;have d:=h.out;have e:=h.dr;have f:=h.size;have g:=h.a_;dsimp only at b c d e f g;subst b c d;have i:a=w.heap++a.extract w.heap.size a.size:=by grind
 have j:dr=w.drawn+(dr-w.drawn):=by omega
 show (⟨a,w.tape,dr,w.os,w.output⟩:World)=⟨w.heap++a.extract w.heap.size a.size,w.tape,w.drawn+(dr-w.drawn),w.os,w.output⟩;rw [←i,←j]
def sw {α:Type}[Inhabited α](enc:α->pz un)(k:Nat)(w:World)(b off m:Nat)(d:Array α)(os:Array Obj)(i:Nat)(hi:i<w.heap.size) :
  (sortWorldK enc k w b off m d os).heap[i]?=if b=i then (w.heap[i]?).map (onCells (putCells id off (flatK enc k d))) else w.heap[i]?:=by
 show (((w.heap.modify b (onCells (putCells id off (flatK enc k d))))++os))[i]?=_;rw [Array.getElem?_append,if_pos (by rw [Array.size_modify];exact hi),Array.getElem?_modify]
def Qk {α:Type}[Inhabited α](enc:α->pz un)(k:Nat)(hk:∀x,(enc x).length=k)(d:Array α)(vs:pz un)(hl:d.size*k<=vs.length)(i:Nat)(hi:i<d.size)(j:Nat)(x:un)(hx:(enc d[i]!)[j]?=some x) :
  (putCells id 0 (flatK enc k d) vs.toArray).toList[i*k+j]?=some x:=by
 have c:j<k:=by have:=(Qx0.1 hx).1;rw [hk] at this;exact this
 have lt:i*k+j<d.size*k:=by
  have:=Qw0 k (show i+1<=d.size from hi);rw [Qk1,Qc9] at this;omega
 have a:(i*k+j) / k=i:=(blk_iff k i _ (by omega)).1 ⟨by omega,by omega⟩;have b:(i*k+j)%k=j:=by rw [Nat.mod_eq_sub_div_mul,a];omega
 unfold putCells;rw [Array.getElem?_toList,Array.getElem?_mapIdx,List.getElem?_toArray,Qq1 (by omega),Wz4,if_pos ⟨Qq4 _,by rw [size_flatK];omega⟩,Wz6,get_flatK _ _ _ _ lt,a,b];rw [Qt3,hx];rfl
variable {P:Program} {ρ:Ren} {τ:Type} {R:View->Value->τ->Prop} {k g:Nat} {ty:TypeId} {cf:τ->τ->Int}
set_option maxHeartbeats 1000000 in
theorem K8 (L:SlLaysF0.n6 P ρ)(aE:∀w,(isAgg (ρ.t 24)).run P w=.ok true w)(zE:∀w,(Go.sizeOf (ρ.t 24)).run P w=.ok k w)
  (hR:∀{V V':ut} {v a},R V v a->V.Le V'->R V' v a)(hS:∀{V:ut} {v a},R V v a->∃xs:pz un,v=.agg xs.toArray/\xs.length=k/\∀x∈xs,x.oneCell'=true)
  (hO:SWO λx y=>decide (cf x y<0))(hc:∀{V:ut} {v w a b},R V v a->R V w b->aa P g #[v,w] V λr _=>r=qvK .i64 (cf a b))
  {V:ut}{lb n c:Nat}{vs:pz un}{l:pz τ}(hw:V.w.heap[lb]?=some (.cells vs.toArray ty (0,0)))(hx:V.X lb)(row:Row k R V vs l)(hn:n=l.length)(h0:l≠[])(k0:0<k)(Fy:l.length<1000000000) :
  aa P (ρ.f 6) #[hF (some ⟨lb,0,none⟩) n c,.func (.func g) #[] #[]] V λr V'=>r=qvZ #[]/\∃vs' l',V'.w.heap[lb]?=some (.cells vs'.toArray ty (0,0))/\Row k R V' vs' l'/\l'.Perm l/\l'.Pairwise λx y=>¬cf y x<0:=by
 subst hn
 have s:∀i:Fin l.length,∃e:Vx R k V,e.1.2=l[i.1]/\∀j x,e.1.1[j]?=some x->vs[i.1*k+j]?=some x:=λi=>by
  have ⟨xs,J,O,Z⟩:=row.at_ i.1 i.2;have ⟨ys,f1,f2,f3⟩:=hS O;have:xs=ys:=List.toArray_inj (Value.agg.inj f1);subst this;exact ⟨⟨(xs,l[i.1]),O,f2,f3⟩,rfl,Z⟩
 have pos:0<l.length:=Qh4.2 h0;obtain ⟨K,-,-⟩:=s ⟨0,pos⟩
 letI:Inhabited (Vx R k V):=⟨K⟩
 let enc:Vx R k V->pz un:=λe=>e.1.1;have I:∀x,(enc x).length=k:=λx=>x.2.2.1;let d:Array (Vx R k V):=Array.ofFn λi=>Classical.choose (s i);have B:d.size=l.length:=Array.size_ofFn
 have Q:∀i (p:i<l.length),(d[i]!)=Classical.choose (s ⟨i,p⟩):=λi p=>by
  rw [getElem!_pos d i (by omega)];exact Array.getElem_ofFn _
 have d1:∀i (p:i<l.length),(d[i]!).1.2=l[i]:=λi p=>by rw [Q i p];exact (Classical.choose_spec (s ⟨i,p⟩)).1
 have d2:∀i (p:i<l.length) j x,(enc d[i]!)[j]?=some x->vs[i*k+j]?=some x:=λi p j x h=>by
  rw [Q i p] at h;exact (Classical.choose_spec (s ⟨i,p⟩)).2 j x h
 have vl:l.length*k<=vs.length:=row.jR k0;have E:=aF hw
 have hH:HoldsK enc k V.w lb 0 d:=λt M=>by
  rw [size_flatK] at M;have HT:t / k<l.length:=by rw [←B];exact Nat.div_lt_of_lt_mul (by rw [Qv4];exact M)
  have hm:t%k<k:=Qj8 _ k0;rw [get_flatK _ _ _ _ M,Qz1]
  have hg:(enc d[t / k]!)[t%k]?=some ((enc d[t / k]!)[t%k]!):=by
   rw [Qt3,Qq1 (by rw [I];exact hm)];rfl
  have:=d2 _ HT _ _ hg;rw [Nat.div_add_mod' t k] at this;unfold World.cell? World.frozen?;rw [hw];refine ⟨?_,?_⟩
  ·show (if (none:Option _).isSome=true then none else vs.toArray[t]?)=_;rw [if_neg (by simp),List.getElem?_toArray];exact this
  grind
 have hle:∀m (u:Array (Vx R k V)) os (F:∀b,V.H b->b<(sortWorldK enc k V.w lb 0 m u os).heap.size) (X:Nat->Prop) (C:∀b,X b->V.H b),V.Le ⟨sortWorldK enc k V.w lb 0 m u os,V.H,X,F,C⟩:=λm u os F X C b o ⟨D,S⟩=>by
  refine ⟨D,?_⟩;rw [sw _ _ _ _ _ _ _ _ _ (aF S),if_neg (show ¬lb=b from λe=>D (e▸V.hX _ hx))];exact S
 have G:∀m (u:Array (Vx R k V)) os,V.w.heap.size<=(sortWorldK enc k V.w lb 0 m u os).heap.size:=λm u os=>size_sortWorldK_c ..
 have hC:CmpLays P g #[] enc k (λx y=>cf x.1.2 y.1.2) lb 0 d.size V.w:=λm os u _ x y=>by
  have T:∀b,V.H b->b<(sortWorldK enc k V.w lb 0 m u os).heap.size:=λb D=>Qx5 (V.hH b D) (G m u os);have:=(hc (hR x.2.1 (hle m u os T (λ_=>False) λ_ h=>h.elim)) (hR y.2.1 (hle m u os T (λ_=>False) λ_ h=>h.elim))).2;refine this.s ?_<;>grind [FB]
 have S9:SWO (ltOf λ(x y:Vx R k V)=>cf x.1.2 y.1.2):=⟨λx=>hO.irrefl _,λx y z=>hO.2 _ _ _,λx y z=>hO.3 _ _ _⟩;rw [←B];refine ⟨?_,(AnyQ.slices_SortFunc L k aE zE enc I (λx=>x.2.2.2) (λx y=>cf x.1.2 y.1.2) S9 g #[] lb 0 c d V.w (λargs w=>gF.run (hc K.2.1 K.2.1).1 args) hC hH E (by omega)).s ?_⟩
 ·obtain ⟨nm,F,C⟩:=L.f6;exact ⟨_,C,rfl,F⟩
 rintro e w' ⟨rfl,A,q,os,hp,hs,rfl⟩;obtain ⟨p1,-,U⟩:=hp;have W:A.size=l.length:=p1.m B;refine ⟨_,rfl,⟨G _ _ _,λb D hX=>?_,rfl,rfl,rfl,Qp7 _ _⟩,rfl,(putCells id 0 (flatK enc k A) vs.toArray).toList,A.toList.map λx=>x.1.2,?_,⟨λi p=>?_⟩,?_,?_⟩
 ·rw [sw _ _ _ _ _ _ _ _ _ D,if_neg (show ¬lb=b from λe=>hX (e▸hx))]
 ·show (sortWorldK enc k V.w lb 0 q A os).heap[lb]?=_;rw [sw _ _ _ _ _ _ _ _ _ E,if_pos rfl,hw,Array.toArray_toList];rfl
 ·rw [Qk3,Wq9] at p;refine ⟨enc A[i]!,I _,?_,λj x hx=>Qk enc k I A vs (by rw [W];exact vl) i p j x hx⟩;rw [Qp8,Qp5,getElem!_pos A i p];exact hR A[i].2.1 (hle q A os _ V.X V.hX)
 ·have J:∀a:Array (Vx R k V),a.size=l.length->a.extract 0 d.size=a:=λa ha=>by rw [B,←ha];simp
  rw [J _ W,J _ B] at U;have p4:=U.map λx=>x.1.2
  have:d.toList.map (λx=>x.1.2)=l:=List.ext_getElem (by simp [B]) λi F C=>by
   rw [Qp8,Qp5,←getElem!_pos d i (by omega)];exact d1 i C
  rwa [this] at p4
 ·refine Qm9.2 λi j p Y N=>?_;rw [Qk3,Wq9] at p Y;have:=hs i j (Qq4 _) N (by omega);rw [Qp8,Qp8,Qp5,Qp5,←getElem!_pos A i p,←getElem!_pos A j Y];exact of_decide_eq_false this
end Go.Eng
namespace Go.Proofs.Tryz
open Go.Eng Go.Proofs Go.Shelf Go.RowKit Go.Lib Go.Sort
open Go.Value renaming slice→hF,tuple→qvZ,int→qvK
def Ord.swo {τ:Type}{c:τ->τ->Int}(h:Ord c):SWO λx y=>decide (c x y<0):=
 ⟨λx=>decide_eq_false (h.refl x),λx y z a b=>decide_eq_true (Decidable.byContradiction λn=>h.tr _ _ _ n (h.asy _ _ (of_decide_eq_true b)) (of_decide_eq_true a)),
  λx y z a b=>decide_eq_false (h.tr _ _ _ (of_decide_eq_false a) (of_decide_eq_false b))⟩
variable {P:Program} {ρ:Ren} {τ:Type} {R:View->Value->τ->Prop} {k g:Nat} {ty:TypeId} {cf:τ->τ->Int}
theorem wg (L:SlLaysF0.n6 P ρ){V:ut}{p:OA}{c:Nat}{fv:un}:aa P (ρ.f 6) #[hF p 0 c,fv] V λr V'=>r=qvZ #[]/\V'=V:=by
 refine ⟨?_,(AnyF.slices_SortFunc_none L p c fv V.w).s ?_⟩
 ·obtain ⟨d,a,b⟩:=L.f6;exact ⟨_,b,rfl,a⟩
 rintro e g ⟨rfl,rfl⟩;exact ⟨_,rfl,ir.refl _ _,rfl,rfl⟩
theorem I0 (L:SlLaysF0.n6 P ρ)(aE:∀w,(isAgg (ρ.t 24)).run P w=.ok true w)(zE:∀w,(Go.sizeOf (ρ.t 24)).run P w=.ok k w)
  (hR:∀{V V':ut} {v a},R V v a->V.Le V'->R V' v a)(hS:∀{V:ut} {v a},R V v a->∃xs:pz un,v=.agg xs.toArray/\xs.length=k/\∀x∈xs,x.oneCell'=true)
  (hO:Ord cf)(hc:∀{V:ut} {v w a b},R V v a->R V w b->aa P g #[v,w] V λr _=>r=qvK .i64 (cf a b))(k0:0<k)
  {V:ut}{lb n c:Nat}{vs:pz un}{l:pz τ}(hw:V.w.heap[lb]?=some (.cells vs.toArray ty (0,0)))(hx:V.X lb)(row:Row k R V vs l)(hn:n=l.length)(Fy:l.length<1000000000:=by omega) :
  aa P (ρ.f 6) #[hF (some ⟨lb,0,none⟩) n c,.func (.func g) #[] #[]] V λr V'=>r=qvZ #[]/\∃vs' l',V'.w.heap[lb]?=some (.cells vs'.toArray ty (0,0))/\Row k R V' vs' l'/\l'.Perm l/\l'.Pairwise λx y=>¬cf y x<0:=by
 by_cases d:l=[]
 ·subst d hn;refine (wg L).s ?_;rintro r V' e ⟨rfl,rfl⟩;exact ⟨rfl,vs,[],hw,row,.refl _,.nil⟩
 ·exact K8 (R:=R) (cf:=cf) L aE zE hR hS hO.swo hc hw hx row hn d k0 Fy
end Go.Proofs.Tryz
namespace Go.Proofs.Tryz
open Go.Eng Go.Big
open Go.Value renaming slice→hF,tuple→qvZ
variable{V:View}{b:Nat}
structure VE (V:View) (n:Nat) (vs:List Value) (l:List L3):Prop where
 row:Row 9 nF V vs l
 len:n=l.length
 Fy:l.length<50
theorem VE.le {V V':ut}{n:Nat}{vs:pz un}{l:pz L3}(h:VE V n vs l)(e:V.Le V'):VE V' n vs l:=⟨h.row.le λ_ _ g=>nF.le g e,h.len,h.Fy⟩
theorem nF.cells {v:un}{c:L3}(h:nF V v c):∃xs:pz un,v=.agg xs.toArray/\xs.length=9/\∀x∈xs,x.oneCell'=true:=by
 obtain ⟨_,_,_,_,_,_,_,_,_,rfl⟩:=h.shape;exact ⟨_,rfl,rfl,Qz3.1 rfl⟩
theorem Hf {lb n c:Nat}{vs:pz un}{l:pz L3}(hw:V.w.heap[lb]?=some (.cells vs.toArray 92 (0,0)))(hx:V.X lb)(h:VE V n vs l) :
  aa prog 173 #[hF (some ⟨lb,0,none⟩) n c,.func (.func 174) #[] #[]] V λr V'=>r=qvZ #[]/\∃vs' l',V'.w.heap[lb]?=some (.cells vs'.toArray 92 (0,0))/\VE V' n vs' l'/\l'.Perm l/\l'.Pairwise λx y=>¬S3 y x<0:=by
 have Fy:=h.Fy;refine (I0 (R:=nF) (cf:=S3) EH aggL sizL nF.le nF.cells ordCL J8 (by decide) hw hx h.row h.len).s ?_;rintro r V' b ⟨rfl,vs',l',e,row,pm,a⟩;exact ⟨rfl,vs',l',e,⟨row,h.len.m pm.length_eq.symm,by rw [pm.length_eq];exact Fy⟩,pm,a⟩
theorem xD:aa prog 173 #[hF none 0 0,.func (.func 174) #[] #[]] V λr V'=>r=qvZ #[]:=
 (wg EH).s λ_ _ _ h=>h.1
def LN (m:Nat):Prop:=(m=0->∀{V:View},aa prog 175 #[.slice none 0 0,.func (.func 176) #[] #[]] V λr V'=>r=.slice none 0 0) /\
 ∀{V:View} {lb n c:Nat} {vs:List Value} {l:List L3},l.length=m->V.w.heap[lb]?=some (.cells vs.toArray 92 (0,0))->V.X lb->VE V n vs l->n<=c ->
 aa prog 175 #[.slice (some ⟨lb,0,none⟩) n c,.func (.func 176) #[] #[]] V λr V'=>∃vs',r=.slice (some ⟨lb,0,none⟩) (CL eL l).length c/\V'.w.heap[lb]?=some (.cells vs'.toArray 92 (0,0))/\Row 9 nF V' vs' (CL eL l)/\vs'.length=vs.length
theorem Xi:LN 1:=by
 refine ⟨(λh=>nomatch h),?_⟩;intro V lb n c b l j hw f h k;have len:=h.len;refine ny lb n c b V _ hw f ⟨λd m i a=>?_,λd=>absurd (of_decide_eq_false d) (by omega)⟩;have e:=PO (e:=eL) (l:=l);rw [e,←len];exact ⟨b,rfl,a,h.row.le λ_ _ g=>nF.le g i,rfl⟩
def EU (m:Nat):Prop:=∀{V:View} {lb n c:Nat} {vs:List Value} {l:List L3},l.length=m->V.w.heap[lb]?=some (.cells vs.toArray 92 (0,0))->V.X lb->VE V n vs l ->
 aa prog 173 #[.slice (some ⟨lb,0,none⟩) n c,.func (.func 174) #[] #[]] V λr V'=>r=.tuple #[]/\∃vs' l',V'.w.heap[lb]?=some (.cells vs'.toArray 92 (0,0))/\VE V' n vs' l'/\l'.Perm l/\l'.Pairwise λx y=>¬S3 y x<0
theorem YQ (m:Nat):EU m:=λ_ hw a h=>Hf hw a h
theorem QM {P:Prop}(h:P->V.H b):V.Le (V.shut.bg P b):=λx o g=>⟨λa=>by
 rcases a with a|a
 ·exact g.1 a
 ·rw [a.2.1] at g;exact g.1 (h a.1),g.2⟩
theorem aa.monoB {f:FuncId}{args:Array un}{R R':un->ut->Prop}(h:aa prog f args V R)(hR:∀r V',V.Le V'->(∀b,V.H b->V'.H b)->R r V'->R' r V'):aa prog f args V R':=
 ⟨h.1,h.2.s λ_ c ⟨r,he,a,d⟩=>⟨r,he,a,hR r _ (V.QP c a) (λ_ e=>e) d⟩⟩
theorem Kv {V':ut}{P:Prop}(h:V.Le (V'.bg True b)):V.Le (V'.bg P b):=λx o a=>
 ⟨λc=>(h x o a).1 (c.imp id λe=>⟨trivial,e.2⟩),(h x o a).2⟩
theorem NZ {V':ut}{P:Prop}(h:V.Le V')(n:¬P):V.Le (V'.bg P b):=λx o a=>
 ⟨λc=>(h x o a).1 (c.elim id λe=>absurd e.1 n),(h x o a).2⟩
end Go.Proofs.Tryz
