import Derived.Test.YtapnijmlbakblaaGreatDoorZP16
import Derived.Test.YtapnijmlbakblaaGreatDoorZP6
import Derived.Test.YtapnijmlbakblaaGreatDoorZP11
import Derived.WalkKit
import Derived.LaidEql
import Derived.Stop.Asserts
import Derived.RowKitTokens
import Derived.Test.YtapnijmlbakblaaGreatDoorZP15
import Derived.Test.YtapnijmlbakblaaGreatDoorZP12
import Derived.Test.YtapnijmlbakblaaGreatDoorZP9
import Derived.Test.YtapnijmlbakblaaGreatDoorZP14
import Derived.Laws.IdiomCopy
import Derived.Lib.Overlaps
import Derived.Lib.JoinLaws
import Derived.Lib.AppendZerosOnto
import Derived.Shelf.RegionOpenPlain
import Derived.Lib.Walk
import Derived.Lib.SliceRun
import Derived.Laws.NewBlocks
import Derived.Test.YtapnijmlbakblaaGreatDoorZP13
import Derived.Test.YtapnijmlbakblaaGreatDoorZP8
set_option linter.unusedVariables false
open Go.IntKind (i64 u64 u32)
namespace Go.Proofs.Tryz
open Go.Eng Go.Big
set_option linter.unusedSectionVars false
theorem Mx {a b:List Rat}{i:Nat}(h:a.length<=i:=by omega):(a++b).getD i 0=b.getD (i-a.length) 0:=by
 rw [Qw6,Qv7 h,Qw6]
theorem Mw {a b:List Rat}{i:Nat}(h:i<a.length:=by omega):(a++b).getD i 0=a.getD i 0:=by
 rw [Qw6,Qx4 h,Qw6]
def asc (c:List Rat):Prop:=c.Pairwise (·< ·)
theorem B5 {x q:Rat}:∀{o:List Rat},q∈eN x o↔q=x\/q∈o:=by
 intro o
 induction o with
 | nil=>simp [eN]
 | cons y r ih=>
  unfold eN;split
  ·rw [Qq4,ih,Qq4];constructor
   ·rintro (h|h|h)
    ·exact .inr (.inl h)
    ·exact .inl h
    ·exact .inr (.inr h)
   ·rintro (h|h|h)
    ·exact .inr (.inl h)
    ·exact .inl h
    ·exact .inr (.inr h)
  ·split
   ·rename_i e;subst e;exact ⟨.inr,fun h=>h.elim (fun e=>by subst e;simp) id⟩
   ·rw [Qq4]
theorem Il {x:Rat}:∀{o:List Rat},asc o->asc (eN x o):=by
 intro o
 induction o with
 | nil=>intro _;simp [eN,asc]
 | cons y r ih=>
  intro h;obtain ⟨b,d⟩:=Qk9.1 h;unfold eN;split
  ·rename_i c;refine Qk9.2 ⟨fun q a=>?_,ih d⟩;rcases B5.1 a with rfl|a
   ·exact c
   ·exact b q a
  ·split
   ·exact h
   ·rename_i e f;refine Qk9.2 ⟨fun q a=>?_,h⟩;rcases Qq4.1 a with rfl|a
    ·grind
    ·have:=b q a;grind
def Sp.ew (s:Sp)(q:Rat):Prop:=(s.a=false/\q=s.lo)\/(s.b=false/\q=s.hi)
theorem JB {s:Sp}{o:List Rat}{q:Rat}:q∈nr s o 2↔s.ew q\/q∈o:=by
 show q∈(if s.b=true then (if s.a=true then o else eN s.lo o) else eN s.hi (if s.a=true then o else eN s.lo o))↔_;unfold Sp.ew;cases s.a<;>cases s.b<;>simp [B5]
 ·constructor
  ·rintro (h|h|h)
   ·exact .inl (.inr h)
   ·exact .inl (.inl h)
   ·exact .inr h
  ·rintro ((h|h)|h)
   ·exact .inr (.inl h)
   ·exact .inl h
   ·exact .inr (.inr h)
theorem JA {s:Sp}{o:List Rat}(h:asc o):asc (nr s o 2):=by
 show asc (if s.b=true then (if s.a=true then o else eN s.lo o) else eN s.hi (if s.a=true then o else eN s.lo o));cases s.a<;>cases s.b<;>simp [Il,h]
theorem yQ:∀(ss:List Sp)(o:List Rat),(asc o->asc (ss.foldl (fun o s=>nr s o 2) o))/\∀q,q∈(ss.foldl (fun o s=>nr s o 2) o)↔q∈o\/∃s∈ss,s.ew q:=by
 intro ss
 induction ss with
 | nil=>exact fun o=>⟨id,fun q=>by simp⟩
 | cons s r ih=>
  intro o;refine ⟨fun h=>(ih _).1 (JA h),fun q=>?_⟩;rw [Qc4,(ih _).2,JB];constructor
  ·rintro ((h|h)|⟨t,a,b⟩)
   ·exact .inr ⟨s,by simp,h⟩
   ·exact .inl h
   ·exact .inr ⟨t,by simp [a],b⟩
  ·rintro (h|⟨t,a,b⟩)
   ·exact .inl (.inr h)
   ·rcases Qq4.1 a with rfl|a
    ·exact .inl (.inl b)
    ·exact .inr ⟨t,a,b⟩
theorem uO (ss:List Sp):asc (endsL ss):=(yQ ss []).1 List.Pairwise.nil
theorem BP {ss:List Sp}{q:Rat}:q∈endsL ss↔∃s∈ss,s.ew q:=by
 have:=(yQ ss []).2 q;simpa [endsL] using this
section
variable {c:List Rat} (h:asc c)
include h
theorem qA {i j:Nat}(za:i<j)(hj:j<c.length):c.getD i 0<c.getD j 0:=by
 rw [kR,kR hj];exact Qb2.1 h i j (by omega) hj za
theorem HD {i j:Nat}(za:i<=j)(hj:j<c.length):c.getD i 0<=c.getD j 0:=by
 rcases Qy8 i j with a|a
 ·have:=qA h a hj;grind
 ·obtain rfl:i=j:=by omega
  grind
omit h
theorem Kq {i:Nat}{t:Rat}:(cQ c i).inn t↔(0<i->c.getD (i-1) 0<t)/\(i≠c.length->i<c.length->t<c.getD i 0)/\(i≠c.length->c.length<i->t<0):=by
 unfold cQ Sp.inn;simp only [decide_eq_true_eq];constructor
 ·rintro ⟨d,a⟩;refine ⟨fun b=>?_,fun f e=>?_,fun f e=>?_⟩
  ·rcases d with d|d
   ·omega
   ·rwa [if_pos b] at d
  ·rcases a with a|a
   ·exact absurd a f
   ·rwa [if_pos e] at a
  ·rcases a with a|a
   ·exact absurd a f
   ·rwa [if_neg (by omega)] at a
 ·rintro ⟨d,a,f⟩;refine ⟨?_,?_⟩
  ·by_cases b:i=0
   ·exact .inl b
   ·rw [if_pos (by omega)];exact .inr (d (by omega))
  ·by_cases b:i=c.length
   ·exact .inl b
   ·refine .inr ?_;by_cases e:i<c.length
    ·rw [if_pos e];exact a b e
    ·rw [if_neg e];exact f b (by omega)
theorem lO {i:Nat}(hi:i<=c.length:=by omega){t:Rat}:(cQ c i).inn t↔(0<i->c.getD (i-1) 0<t)/\(i<c.length->t<c.getD i 0):=by
 rw [Kq];exact ⟨fun ⟨a,b,_⟩=>⟨a,fun h=>b (by omega) h⟩,fun ⟨a,b⟩=>⟨a,fun _ h=>b h,fun _ h=>by omega⟩⟩
include h
theorem H_ {i:Nat}(hi:i<=c.length):(cQ c i).good:=by
 refine ⟨⟨fun e=>?_,fun e=>?_⟩,Sp.kM.2 ?_⟩
 ·have e:i=0:=of_decide_eq_true e;subst e;rfl
 ·have e:i=c.length:=of_decide_eq_true e;subst e;exact if_neg (Qs8 _)
 ·by_cases a:i=0
  ·exact .inl (decide_eq_true a)
  ·by_cases b:i=c.length
   ·exact .inr (.inl (decide_eq_true b))
   ·refine .inr (.inr ?_);show (if 0<i then c.getD (i-1) 0 else 0)<(if i<c.length then c.getD i 0 else 0);rw [if_pos (by omega),if_pos (by omega)];exact qA h (by omega) (by omega)
theorem Mv {t:Rat}(ht:t∉c):∃i,i<=c.length/\(cQ c i).inn t:=by
 have key:∀k,k<=c.length->(∀j,j<k->c.getD j 0<t)\/∃i,i<=c.length/\(cQ c i).inn t:=by
  intro k
  induction k with
  | zero=>exact fun _=>.inl fun j b=>absurd b (Qr5 j)
  | succ k ih=>
   intro hk;rcases ih (by omega) with g|g
   ·by_cases a:c.getD k 0<t
    ·refine .inl fun j b=>?_;rcases Qy8 j k with d|d
     ·exact g j d
     ·obtain rfl:j=k:=by omega
      exact a
    ·refine .inr ⟨k,by omega,(lO).2 ⟨fun e=>g _ (by omega),fun _=>?_⟩⟩
     have f:c.getD k 0≠t:=by
      rintro rfl;rw [kR] at ht;exact ht (Qy3 _)
     grind
   ·exact .inr g
 rcases key c.length (Qq3 _) with g|g
 ·exact ⟨c.length,Qq3 _,(lO (Qq3 _)).2 ⟨fun e=>g _ (by omega),fun e=>by omega⟩⟩
 ·exact g
theorem lP {i:Nat}(hi:i<=c.length){t u x:Rat}(ht:(cQ c i).inn t)(hu:(cQ c i).inn u)(hx:x∈c):(x<t↔x<u)/\(t<x↔u<x)/\x≠t:=by
 obtain ⟨t1,t2⟩:=(lO hi).1 ht;obtain ⟨d,e⟩:=(lO hi).1 hu;obtain ⟨j,b,rfl⟩:=Qt6 hx;rw [←kR b];rcases Qy8 j i with a|a
 ·have:=HD h (show j<=i-1 by omega) (by omega);have:=t1 (by omega);have:=d (by omega);grind
 ·have:=HD h a b;have:=t2 (by omega);have:=e (by omega);grind
theorem Jg {i:Nat}(hi:i<=c.length):(cQ c i).inn ((jy c).getD i 0):=by
 rw [lO hi];unfold jy;by_cases a:c.length=0
 ·exact ⟨fun _=>by omega,fun _=>by omega⟩
 ·rw [if_neg a];have b:=Co c (show 1<=c.length by omega);by_cases d:i=c.length
  ·subst d;rw [Mx,b,Nat.sub_self];refine ⟨fun _=>?_,fun _=>by omega⟩;show _<c.getD (c.length-1) 0+((1:Int):Rat);grind
  ·rw [Mw];unfold KY;by_cases e:i=0
   ·subst e;refine ⟨fun _=>by omega,fun _=>?_⟩;show c.getD 0 0-((1:Int):Rat)<_;grind
   ·obtain ⟨m,rfl⟩:∃m,i=m+1:=⟨i-1,by omega⟩;have:=qA h (show m<m+1 by omega) (by omega)
    have f:((List.range (c.length-1)).map fun k=>(c.getD k 0+c.getD (k+1) 0)*((2:Int):Rat)⁻¹).getD m 0=(c.getD m 0+c.getD (m+1) 0)*((2:Int):Rat)⁻¹:=by
     rw [Qw6,Qc9,List.getElem?_range (by omega)];rfl
    rw [List.getD_cons_succ,f,Qv6];generalize c.getD m 0=x at *;generalize c.getD (m+1) 0=y at *;exact ⟨fun _=>by grind,fun _=>by grind⟩
omit h
theorem kW:(jy c).length=c.length+1:=by
 unfold jy;by_cases a:c.length=0
 ·rw [if_pos a,a];rfl
 ·rw [if_neg a,Qq5,Co c];rfl
end
section
variable {c:List Rat} {ms:List Bool}
structure FI (c:List Rat) (ms:List Bool) (i:Nat):Prop where
 r:tY (cK c ms i)
 mem:∀t,t∉c->(q_ (cK c ms i) t↔∃j,j<i/\ms.getD j false=true/\(cQ c j).inn t)
 top:0<i->i<=c.length->∀s∈cK c ms i,s.b=false/\s.hi<=c.getD (i-1) 0
 str:0<i->i<=c.length->ms.getD (i-1) false=false->∀s∈cK c ms i,s.hi<c.getD (i-1) 0
 last:0<i->i<=c.length->ms.getD (i-1) false=true->∃l0 l,cK c ms i=l0++[l]/\l.hi=c.getD (i-1) 0
theorem re {ss:List Sp}{s:Sp}{t:Rat}:q_ (ss++[s]) t↔q_ ss t\/s.inn t:=by
 unfold q_;constructor
 ·rintro ⟨x,a,b⟩;rcases Qw1.1 a with a|a
  ·exact .inl ⟨x,a,b⟩
  ·obtain rfl:x=s:=by simpa using a
   exact .inr b
 ·rintro (⟨x,a,b⟩|b)
  ·exact ⟨x,by simp [a],b⟩
  ·exact ⟨s,by simp,b⟩
theorem pK {ss:List Sp}{s:Sp}(h:tY ss)(hs:s.good)(hb:∀x∈ss,x.DA s):tY (ss++[s]):=by
 refine ⟨fun x a=>?_,Qf7.2 ⟨h.2,by simp,fun x a y b=>?_⟩⟩
 ·rcases Qw1.1 a with a|a
  ·exact h.1 x a
  ·obtain rfl:x=s:=by simpa using a
   exact hs
 ·obtain rfl:y=s:=by simpa using b
  exact hb x a
theorem Cz {ss:List Sp}{s:Sp}(h:tY (ss++[s])):tY ss/\s.good/\∀x∈ss,x.DA s:=by
 obtain ⟨b,-,c⟩:=Qf7.1 h.2;exact ⟨⟨fun x a=>h.1 x (by simp [a]),b⟩,h.1 s (by simp),fun x a=>c x a s (by simp)⟩
theorem z_ {P:Nat->Prop}{i:Nat}:(∃j,j<i+1/\P j)↔(∃j,j<i/\P j)\/P i:=by
 constructor
 ·rintro ⟨j,b,a⟩;rcases Qy8 j i with h|h
  ·exact .inl ⟨j,h,a⟩
  ·obtain rfl:j=i:=by omega
   exact .inr a
 ·rintro (⟨j,b,a⟩|a)
  ·exact ⟨j,by omega,a⟩
  ·exact ⟨i,by omega,a⟩
theorem Ko (h:asc c){i:Nat}(hi:i<=c.length)(F:FI c ms i):FI c ms (i+1):=by
 have z:=H_ h hi;have A:i<c.length->(cQ c i).hi=c.getD i 0:=fun j=>if_pos j;have B:0<i->(cQ c i).lo=c.getD (i-1) 0:=fun j=>if_pos j;have C:0<i->(cQ c i).a=false:=fun j=>decide_eq_false (by omega);have G:i<c.length->(cQ c i).b=false:=fun j=>decide_eq_false (by omega);by_cases hm:ms.getD i false=true
 ·have w:¬ms.getD i false=false:=by rw [hm];decide
  by_cases j:0<i/\ms.getD (i-1) false=true
  ·obtain ⟨l0,l,el,E⟩:=F.last j.1 hi j.2
   have e:cK c ms (i+1)=l0++[⟨l.lo,(cQ c i).hi,l.a,(cQ c i).b⟩]:=by
    rw [cK,if_pos hm,if_pos ⟨j.1,j.2,by rw [el];simp⟩,el];simp [vi]
   have H:=F.r;rw [el] at H;obtain ⟨f1,f2,f3⟩:=Cz H;have m:l.b=false:=(F.top j.1 hi l (by rw [el];simp)).1
   have u:(⟨l.lo,(cQ c i).hi,l.a,(cQ c i).b⟩:Sp).good:=by
    refine ⟨⟨f2.1.1,z.1.2⟩,Sp.kM.2 ?_⟩;dsimp only
    cases ha:l.a with
    | true=>exact .inl rfl
    | false=>
     cases hb:(cQ c i).b with
     | true=>exact .inr (.inl rfl)
     | false=>
      have n:=kh f2.2 ha m;have q:=kh z.2 (C j.1) hb;rw [B j.1] at q;exact .inr (.inr (by grind))
   refine ⟨?_,fun t v=>?_,fun _ d s f=>?_,fun _ d k=>?_,fun _ d _=>?_⟩
   ·rw [e];exact pK f1 u fun x k=>⟨(f3 x k).1,(f3 x k).2.1,(f3 x k).2.2⟩
   ·rw [e,z_,←F.mem t v,re,el,re,or_assoc];refine or_congr Iff.rfl ?_
    have hk:(cQ c i).inn t↔c.getD (i-1) 0<t/\((cQ c i).b=true\/t<(cQ c i).hi):=by
     unfold Sp.inn;rw [C j.1,B j.1];simp
    have I:t≠c.getD (i-1) 0:=by
     rintro rfl;rw [kR] at v;exact v (Qy3 _)
    rw [hk];show (l.a=true\/l.lo<t)/\((cQ c i).b=true\/t<(cQ c i).hi)↔((l.a=true\/l.lo<t)/\(l.b=true\/t<l.hi))\/_;rw [E,m]
    have n:l.a=true\/l.lo<c.getD (i-1) 0:=by
     cases ha:l.a with
     | true=>exact .inl rfl
     | false=>have:=kh f2.2 ha m;rw [E] at this;exact .inr this
    have q:(cQ c i).b=true\/c.getD (i-1) 0<(cQ c i).hi:=by
     cases hb:(cQ c i).b with
     | true=>exact .inl rfl
     | false=>have:=kh z.2 (C j.1) hb;rw [B j.1] at this;exact .inr this
    constructor
    ·rintro ⟨D,o⟩;by_cases g:t<c.getD (i-1) 0
     ·exact .inl ⟨D,.inr g⟩
     ·exact .inr ⟨hm,by grind,o⟩
    ·rintro (⟨D,o⟩|⟨-,D,o⟩)
     ·have K:t<c.getD (i-1) 0:=by
       rcases o with o|o
       ·cases o
       ·exact o
      exact ⟨D,q.imp_right fun q=>by grind⟩
     ·exact ⟨n.imp_right fun n=>by grind,o⟩
   ·rw [e] at f;rw [Qv6];rcases Qw1.1 f with f|f
    ·have b:=f3 s f;refine ⟨b.1,?_⟩;have n:l.lo<c.getD (i-1) 0:=by have:=kh f2.2 b.2.1 m;rwa [E] at this
     have q:=qA h (show i-1<i by omega) d;have:=b.2.2;grind
    ·obtain rfl:s=_:=by simpa using f
     refine ⟨G d,?_⟩;show (cQ c i).hi<=_;rw [A d];grind
   ·rw [Qv6] at k;exact absurd k w
   ·rw [Qv6];exact ⟨l0,_,e,A d⟩
  ·have e:cK c ms (i+1)=cK c ms i++[cQ c i]:=by
    rw [cK,if_pos hm,if_neg (fun g=>j ⟨g.1,g.2.1⟩)]
   have hb:∀x∈cK c ms i,x.DA (cQ c i):=fun x k=>by
    by_cases p:0<i
    ·have J:ms.getD (i-1) false=false:=by
      cases hq:ms.getD (i-1) false with
      | false=>rfl
      | true=>exact absurd ⟨p,hq⟩ j
     exact ⟨(F.top p hi x k).1,C p,by rw [B p];exact F.str p hi J x k⟩
    ·obtain rfl:i=0:=by omega
     cases k
   refine ⟨?_,fun t v=>?_,fun _ d s f=>?_,fun _ d k=>?_,fun _ d _=>?_⟩
   ·rw [e];exact pK F.r z hb
   ·rw [e,z_,←F.mem t v,re];exact or_congr Iff.rfl ⟨fun g=>⟨hm,g⟩,fun g=>g.2⟩
   ·rw [e] at f;rw [Qv6];rcases Qw1.1 f with f|f
    ·refine ⟨(hb s f).1,?_⟩;by_cases p:0<i
     ·have n:=(F.top p hi s f).2;have q:=qA h (show i-1<i by omega) d;grind
     ·obtain rfl:i=0:=by omega
      cases f
    ·obtain rfl:s=_:=by simpa using f
     refine ⟨G d,?_⟩;rw [A d];grind
   ·rw [Qv6] at k;exact absurd k w
   ·rw [Qv6];exact ⟨_,_,e,A d⟩
 ·have e:cK c ms (i+1)=cK c ms i:=by rw [cK,if_neg hm]
  have y:i<c.length->∀s∈cK c ms i,s.b=false/\s.hi<c.getD i 0:=fun d s f=>by
   by_cases p:0<i
   ·obtain ⟨n,q⟩:=F.top p hi s f;have L:=qA h (show i-1<i by omega) d;exact ⟨n,by grind⟩
   ·obtain rfl:i=0:=by omega
    cases f
  refine ⟨by rw [e];exact F.r,fun t v=>?_,fun _ d s f=>?_,fun _ d k s f=>?_,fun _ d k=>?_⟩
  ·rw [e,z_,F.mem t v];exact ⟨.inl,fun g=>g.elim id fun g=>absurd g.1 hm⟩
  ·rw [e] at f;rw [Qv6];obtain ⟨n,q⟩:=y d s f;exact ⟨n,by grind⟩
  ·rw [e] at f;rw [Qv6];exact (y d s f).2
  ·rw [Qv6] at k;exact absurd k hm
theorem fi (h:asc c):∀{i:Nat},i<=c.length+1->FI c ms i:=by
 intro i
 induction i with
 | zero=>exact fun _=>⟨⟨(fun _ h=>by cases h),List.Pairwise.nil⟩,(fun t _=>⟨(fun ⟨_,h,_⟩=>by cases h),(fun ⟨_,h,_⟩=>absurd h (Qr5 _))⟩),(fun h=>absurd h (Qs8 _)),(fun h=>absurd h (Qs8 _)),(fun h=>absurd h (Qs8 _))⟩
 | succ i ih=>exact fun a=>Ko h (by omega) (ih (by omega))
end
def Sp.innB (s:Sp)(t:Rat):Bool:=(s.a||decide (s.lo<t))&&(s.b||decide (t<s.hi))
def inB (ss:List Sp)(t:Rat):Bool:=ss.any fun s=>s.innB t
theorem innB_iff {s:Sp}{t:Rat}:s.innB t=true↔s.inn t:=by unfold Sp.innB Sp.inn;simp
theorem pB {ss:List Sp}{t:Rat}:inB ss t=true↔q_ ss t:=by
 unfold inB q_;rw [Qc0];exact ⟨fun ⟨s,a,b⟩=>⟨s,a,innB_iff.1 b⟩,fun ⟨s,a,b⟩=>⟨s,a,innB_iff.2 b⟩⟩
theorem E_ {a b:Bool}(h:a=true↔b=true):a=b:=by cases a<;>cases b<;>simp at h<;>rfl
theorem Ff {ss:List Sp}{t:Rat}(h:∀s∈ss,¬s.ew t):(Gf ss t==2)=inB ss t:=by
 induction ss with
 | nil=>rfl
 | cons s r c=>
  have c:=c fun x j=>h x (by simp [j]);have f:=h s (by simp)
  have hb:s.innB t=decide (DY (s.la t) (s.lb t)=2)/\(DY (s.la t) (s.lb t)≠0->DY (s.la t) (s.lb t)=2):=by
   unfold Sp.ew at f;unfold Sp.innB Sp.la Sp.lb DY;rcases eK t s.lo with ⟨g,d⟩|⟨g,d⟩|⟨g,d⟩<;>rcases eK t s.hi with ⟨h2,e2⟩|⟨h2,e2⟩|⟨h2,e2⟩<;>rw [d,e2]<;>cases ha:s.a<;>cases hb:s.b<;>simp [ha,hb] at f⊢<;> grind
  have e:inB (s::r) t=(s.innB t||inB r t):=rfl;rw [e,←c,hb.1];by_cases i:DY (s.la t) (s.lb t)=0
  ·simp [Gf,i]
  ·have:=hb.2 i;simp [Gf,this]
def opB (op:Int)(x y:Bool):Bool:=if op=2 then x&&y else if op=3 then x&&!y else if op=4 then x != y else x||y
def nV (op:Int)(a b:List Sp)(c:List Rat):List Bool:=(jy c).map fun t=>opB op (Gf a t==2) (Gf b t==2)
def combL (op:Int)(a b:List Sp):List Sp:=BS (endsL (a++b)) (nV op a b (endsL (a++b)))
theorem kj (op:Int)(a b:List Sp)(c:List Rat):(nV op a b c).length=c.length+1:=by unfold nV;rw [Qb6,kW]
theorem comb_reg (op:Int)(a b:List Sp):tY (combL op a b):=by
 unfold combL BS;rw [kj];exact (fi (uO _) (Qq3 _)).r
theorem Fk {ss:List Sp}{c:List Rat}(h:asc c)(hc:∀s∈ss,∀q,s.ew q->q∈c){i:Nat}(hi:i<=c.length){t u:Rat}(ht:(cQ c i).inn t)(hu:(cQ c i).inn u):inB ss t=inB ss u:=by
 induction ss with
 | nil=>rfl
 | cons s r f=>
  have f:=f fun x g=>hc x (by simp [g]);have e:∀t,inB (s::r) t=(s.innB t||inB r t):=fun _=>rfl;rw [e,e,f];congr 1;have d:=hc s (by simp);unfold Sp.innB;cases ha:s.a<;>cases hb:s.b<;>simp
  ·have j:=lP h hi ht hu (d s.lo (.inl ⟨ha,rfl⟩));have k:=lP h hi ht hu (d s.hi (.inr ⟨hb,rfl⟩));rw [decide_eq_decide.2 j.1,decide_eq_decide.2 k.2.1]
  ·exact (lP h hi ht hu (d s.lo (.inl ⟨ha,rfl⟩))).1
  ·exact (lP h hi ht hu (d s.hi (.inr ⟨hb,rfl⟩))).2.1
theorem comb_inB (op:Int)(a b:List Sp){t:Rat}(ht:t∉endsL (a++b)):inB (combL op a b) t=opB op (inB a t) (inB b t):=by
 have g:=uO (a++b);have m:∀s∈a++b,∀q,s.ew q->q∈endsL (a++b):=fun s d q p=>BP.2 ⟨s,d,p⟩;unfold combL BS;generalize endsL (a++b)=c at ht g m;rw [kj];have o:∀s∈a,∀q,s.ew q->q∈c:=fun s d=>m s (by simp [d]);have hb:∀s∈b,∀q,s.ew q->q∈c:=fun s d=>m s (by simp [d])
 have mk:∀j,j<=c.length->(cQ c j).inn t->(nV op a b c).getD j false=opB op (inB a t) (inB b t):=fun j h k=>by
  have l:=Jg g h;have f:(jy c).getD j 0∉c:=fun hm=>(lP g h l l hm).2.2 rfl;unfold nV;rw [Qw6,Qc9,Qq1 (by rw [kW];omega)];have e:(jy c)[j]'(by rw [kW];omega)=(jy c).getD j 0:=by rw [Qw6,Qq1 (by rw [kW];omega)];rfl
  simp only [Qg8,Qm9,e];rw [Ff (fun s d he=>f (o s d _ he)),Ff (fun s d he=>f (hb s d _ he)),Fk g o h l k,Fk g hb h l k]
 refine E_ ?_;rw [pB,(fi g (Qq3 _)).mem t ht];constructor
 ·rintro ⟨j,h,n,r⟩;rw [←mk j (by omega) r];exact n
 ·intro n;obtain ⟨i,u,k⟩:=Mv g ht;exact ⟨i,by omega,by rw [mk i u k];exact n,k⟩
theorem reg_eq {xs ys:List Sp}(E:List Rat)(hx:tY xs)(hy:tY ys)(h:∀t,t∉E->inB xs t=inB ys t):xs=ys:=
 Ew (E:=E) hx hy fun t a=>by rw [←pB,←pB,h t a]
end Go.Proofs.Tryz
namespace Go.Proofs.Tryz
open Go.Big
section
variable {α:Type}
structure Ord (c:α->α->Int):Prop where
 J9:∀a b,c a b<0->¬c b a<0
 tr:∀a b d,¬c a b<0->¬c b d<0->¬c a d<0
variable {c:α->α->Int}
theorem Ord.refl (h:Ord c)(a:α):¬c a a<0:=fun l=>h.J9 a a l l
def jM (d:α)(l:List α)(i j:Nat):List α:=(l.set i (l.getD j d)).set j (l.getD i d)
variable {d:α}
theorem mQ {l:List α}{i j:Nat}:(jM d l i j).length=l.length:=by simp [jM]
theorem o_ {l:List α}{i k:Nat}{x:α}(hi:i<l.length):(l.set i x).getD k d=if k=i then x else l.getD k d:=by
 simp only [Qw6,List.getElem?_set];by_cases h:k=i
 ·subst h;simp [hi]
 ·have:¬i=k:=fun e=>h e.symm;simp [h,this]
theorem lk {l:List α}{i j k:Nat}(hi:i<l.length)(hj:j<l.length:=by omega):(jM d l i j).getD k d=if k=j then l.getD i d else if k=i then l.getD j d else l.getD k d:=by
 unfold jM;rw [o_ (by simpa using hj),o_ hi]
theorem JH {l:List α}{i j:Nat}(hi:i<l.length)(hj:j<l.length:=by omega):(jM d l i j).Perm l:=by
 have h:=Array.swap_perm (xs:=l.toArray) (i:=i) (j:=j) (by simpa using hi) (by simpa using hj)
 have e:(l.toArray.swap i j (by simpa using hi) (by simpa using hj)).toList=jM d l i j:=by
  simp [Array.swap,jM,Qw6,hi,hj]
 have:=h.toList;rw [e] at this;simpa using this
structure gM (d:α) (l m:List α) (a b:Nat):Prop where
 len:m.length=l.length
 out:∀k,¬(a<=k/\k<b)->m.getD k d=l.getD k d
 mem:∀k,a<=k->k<b->∃k',a<=k'/\k'<b/\m.getD k d=l.getD k' d
 perm:m.Perm l
theorem gM.refl (l:List α)(a b:Nat):gM d l l a b:=⟨rfl,fun _ _=>rfl,fun k h c=>⟨k,h,c,rfl⟩,.refl _⟩
theorem gM.trans {l m n:List α}{a b:Nat}(h:gM d l m a b)(g:gM d m n a b):gM d l n a b:=
 ⟨g.len.trans h.len,fun k hk=>(g.out k hk).trans (h.out k hk),fun k f i=>by
  obtain ⟨j,o,p,e⟩:=g.mem k f i;obtain ⟨c,q,r,s⟩:=h.mem j o p;exact ⟨c,q,r,e.trans s⟩,g.perm.trans h.perm⟩
theorem gM.wide {l m:List α}{a b a' b':Nat}(h:gM d l m a b)(ha:a'<=a)(hb:b<=b'):gM d l m a' b':=
 ⟨h.len,fun k hk=>h.out k (by omega),fun k c f=>by
  by_cases hk:a<=k/\k<b
  ·obtain ⟨g,i,j,e⟩:=h.mem k hk.1 hk.2;exact ⟨g,by omega,by omega,e⟩
  ·exact ⟨k,c,f,h.out k hk⟩,h.perm⟩
theorem gM.jM {l:List α}{a b i j:Nat}(hi:a<=i)(hi':i<b)(hj:a<=j)(hj':j<b)(hb:b<=l.length:=by omega):gM d l (jM d l i j) a b:=by
 refine ⟨mQ,fun k hk=>?_,fun k c e=>?_,JH (by omega)⟩
 ·rw [lk (by omega),if_neg (by omega),if_neg (by omega)]
 ·rw [lk (by omega)];split
  ·exact ⟨i,hi,hi',rfl⟩
  ·split
   ·exact ⟨j,hj,hj',rfl⟩
   ·exact ⟨k,c,e,rfl⟩
def oG (c:α->α->Int)(d:α)(l:List α)(a b:Nat):Prop:=∀p q,a<=p->p<q->q<b->¬c (l.getD q d) (l.getD p d)<0
theorem oG.short {l:List α}{a b:Nat}(h:b<=a+1):oG c d l a b:=fun p q e f g=>by omega
theorem oG.step (ho:Ord c){l:List α}{a b:Nat}(h:oG c d l a b)(h0:a<b)(hb:¬c (l.getD b d) (l.getD (b-1) d)<0):oG c d l a (b+1):=by
 intro p q f g j;by_cases e:q=b
 ·subst e;by_cases i:p=q-1
  ·subst i;exact hb
  ·exact ho.tr _ _ _ hb (h p (q-1) f (by omega) (by omega))
 ·exact h p q f g (by omega)
def J5 (c:α->α->Int)(d:α)(l:List α)(a i j:Nat):Prop:=∀p q,a<=p->p<q->q<=i->q≠j->¬c (l.getD q d) (l.getD p d)<0
theorem J5.start {l:List α}{a i:Nat}(h:oG c d l a i):J5 c d l a i i:=fun p q b e f g=>h p q b e (by omega)
theorem J5.done (ho:Ord c){l:List α}{a i j:Nat}(h:J5 c d l a i j)(hji:j<=i)(hs:j<=a\/¬c (l.getD j d) (l.getD (j-1) d)<0):oG c d l a (i+1):=by
 intro p q b f k;by_cases e:q=j
 ·subst e;rcases hs with hs|hs
  ·omega
  ·by_cases g:p=q-1
   ·subst g;exact hs
   ·exact ho.tr _ _ _ hs (h p (q-1) b (by omega) (by omega) (by omega))
 ·exact h p q b f (by omega) e
theorem J5.move (ho:Ord c){l:List α}{a i j:Nat}(h:J5 c d l a i j)(hj:a<j)(hji:j<=i)(hi:i<l.length)(hl:c (l.getD j d) (l.getD (j-1) d)<0):J5 c d (jM d l j (j-1)) a i (j-1):=by
 intro p q f n e o;have g:=fun k=>lk (d:=d) (l:=l) (i:=j) (j:=j-1) (k:=k) (by omega);rw [g,g];by_cases eq:q=j
 ·subst eq;rw [if_neg (by omega),if_pos rfl];by_cases b:p=q-1
  ·rw [if_pos b];exact ho.J9 _ _ hl
  ·rw [if_neg b,if_neg (by omega)];exact h p (q-1) f (by omega) (by omega) (by omega)
 ·rw [if_neg o,if_neg eq];by_cases b:p=j-1
  ·rw [if_pos b];exact h j q (by omega) (by omega) e eq
  ·rw [if_neg b];by_cases m:p=j
   ·rw [if_pos m];exact h (j-1) q (by omega) (by omega) e eq
   ·rw [if_neg m];exact h p q f n e eq
def Hp (c:α->α->Int)(d:α)(l:List α)(f lo hi:Nat)(r:Option Nat):Prop:=
 (∀i k,lo<=i->(k=2*i+1\/k=2*i+2)->k<hi->r≠some i->¬c (l.getD (f+i) d) (l.getD (f+k) d)<0) /\
 (∀i j k,r=some j->lo<=i->(j=2*i+1\/j=2*i+2)->(k=2*j+1\/k=2*j+2)->k<hi->¬c (l.getD (f+i) d) (l.getD (f+k) d)<0)
theorem Hp.top (ho:Ord c){l:List α}{f hi:Nat}(h:Hp c d l f 0 hi none):∀k,k<hi->¬c (l.getD f d) (l.getD (f+k) d)<0:=by
 intro k
 induction k using Nat.strongRecOn with
 | ind k ih=>
  intro hk;by_cases a:k=0
  ·subst a;exact ho.refl _
  ·exact ho.tr _ _ _ (ih ((k-1) / 2) (by omega) (by omega)) (h.1 ((k-1) / 2) k (by omega) (by omega) hk (by simp))
theorem Hp.leaf {l:List α}{f lo hi r:Nat}(h:Hp c d l f lo hi (some r))(hr:hi<=2*r+1):Hp c d l f lo hi none:=
 ⟨fun i k a b g _=>by
  by_cases e:r=i
  ·omega
  ·exact h.1 i k a b g (by simpa using e),fun i j k e=>by cases e⟩
theorem Hp.stop (ho:Ord c){l:List α}{f lo hi r k:Nat}(h:Hp c d l f lo hi (some r))(hk:k=2*r+1\/k=2*r+2)(hm:∀k',(k'=2*r+1\/k'=2*r+2)->k'<hi->¬c (l.getD (f+k) d) (l.getD (f+k') d)<0)
  (hs:¬c (l.getD (f+r) d) (l.getD (f+k) d)<0):Hp c d l f lo hi none:=
 ⟨fun i k' g a b _=>by
  by_cases e:r=i
  ·subst e;exact ho.tr _ _ _ hs (hm k' a b)
  ·exact h.1 i k' g a b (by simpa using e),fun i j k e=>by cases e⟩
theorem Hp.down (ho:Ord c){l:List α}{f lo hi r k:Nat}(h:Hp c d l f lo hi (some r))(hlo:lo<=r)(hl:f+hi<=l.length)(hk:k=2*r+1\/k=2*r+2)(hkh:k<hi)(hm:∀k',(k'=2*r+1\/k'=2*r+2)->k'<hi->¬c (l.getD (f+k) d) (l.getD (f+k') d)<0)
  (hs:c (l.getD (f+r) d) (l.getD (f+k) d)<0):Hp c d (jM d l (f+r) (f+k)) f lo hi (some k):=by
 have a:=fun x=>lk (d:=d) (l:=l) (i:=f+r) (j:=f+k) (k:=x) (by omega);refine ⟨fun i k' n b g m=>?_,fun i j k' e n b g m=>?_⟩
 ·have m:¬i=k:=fun e=>m (by rw [e]);rw [a,a,if_neg (show ¬f+i=f+k by omega)];by_cases p:i=r
  ·subst p;rw [if_pos rfl];by_cases o:k'=k
   ·rw [if_pos (by omega)];exact ho.J9 _ _ hs
   ·rw [if_neg (by omega),if_neg (by omega)];exact hm k' b g
  ·rw [if_neg (by omega)];by_cases o:k'=r
   ·subst o;rw [if_neg (by omega),if_pos rfl];exact h.2 i k' k rfl n b hk hkh
   ·rw [if_neg (by omega),if_neg (by omega)];exact h.1 i k' n b g (by simp;omega)
 ·cases e;rw [a,a];have:i=r:=by omega
  subst this;rw [if_neg (by omega),if_pos rfl,if_neg (by omega),if_neg (by omega)];exact h.1 k k' (by omega) g m (by simp;omega)
theorem Hp.more {l:List α}{f lo hi:Nat}(h:Hp c d l f (lo+1) hi none):Hp c d l f lo hi (some lo):=
 ⟨fun i k m a b g=>h.1 i k (by have:¬lo=i:=fun e=>g (by rw [e]);omega) a b (by simp),fun i j k e m a b g=>by cases e;omega⟩
theorem Hp.pop {l:List α}{f hi:Nat}(h:Hp c d l f 0 (hi+1) none)(hl:f+hi<l.length):Hp c d (jM d l f (f+hi)) f 0 hi (some 0):=by
 have b:=fun x=>lk (d:=d) (l:=l) (i:=f) (j:=f+hi) (k:=x) (by omega);refine ⟨fun i k g m n a=>?_,fun i j k e g m n a=>by cases e;omega⟩;have a:¬i=0:=fun e=>a (by rw [e]);rw [b,b,if_neg (by omega),if_neg (by omega),if_neg (by omega),if_neg (by omega)];exact h.1 i k g m (by omega) (by simp)
def Sep (c:α->α->Int)(d:α)(l:List α)(a m b:Nat):Prop:=∀p q,a<=p->p<m->m<=q->q<b->¬c (l.getD q d) (l.getD p d)<0
theorem gM.sep {l m:List α}{a b x y z:Nat}(h:gM d l m a b)(hs:Sep c d l x y z)(hc:(x<=a/\b<=y)\/(y<=a/\b<=z)\/b<=x\/z<=a):Sep c d m x y z:=by
 intro p q o r s t
 have key:∀k,∃f,m.getD k d=l.getD f d/\(k=f\/a<=k/\k<b/\a<=f/\f<b):=fun k=>by
  by_cases hk:a<=k/\k<b
  ·obtain ⟨f,g,i,e⟩:=h.mem k hk.1 hk.2;exact ⟨f,e,.inr ⟨hk.1,hk.2,g,i⟩⟩
  ·exact ⟨k,h.out k hk,.inl rfl⟩
 obtain ⟨j,g,i⟩:=key p;obtain ⟨n,f1,f2⟩:=key q;rw [g,f1];exact hs j n (by omega) (by omega) (by omega) (by omega)
theorem gM.asc {l m:List α}{a b x y:Nat}(h:gM d l m a b)(hs:oG c d l x y)(hc:y<=a\/b<=x):oG c d m x y:=by
 intro p q e f g;rw [h.out p (by omega),h.out q (by omega)];exact hs p q e f g
theorem oG.join {l:List α}{a m b:Nat}(h1:oG c d l a m)(h2:oG c d l m b)(h3:Sep c d l a m b):oG c d l a b:=by
 intro p q e f g;by_cases h:q<m
 ·exact h1 p q e f h
 ·by_cases i:m<=p
  ·exact h2 p q i f g
  ·exact h3 p q e (by omega) (by omega) g
end
end Go.Proofs.Tryz
namespace Go.Eng
open Go.Proofs.Tryz
variable {α:Type} {sz:Nat} {R:View->Value->α->Prop} {V V':View} {d:α}
theorem Row.get {vs:List Value}{al:List α}(h:Row sz R V vs al){i:Nat}(hi:i<al.length)(hs:0<sz) :
  ∃xs:List Value,xs.length=sz/\R V (.agg xs.toArray) (al.getD i d)/\i*sz+sz<=vs.length/\(vs.drop (i*sz)).take sz=xs:=by
 obtain ⟨xs,b,c,e⟩:=h.at_ i hi;have g:=h.lU hs;have:(i+1)*sz<=al.length*sz:=Qq9 _ hi;rw [Qc5] at this;refine ⟨xs,b,by simpa [Qw6,hi] using c,by omega,?_⟩;apply List.ext_getElem?;intro j;rw [Qv3];split
 ·rename_i f;rw [Qm2];have a:j<xs.length:=by omega
  rw [e j _ (Qq1 a),Qq1 a]
 ·rename_i f;rw [Qj6 (by omega)]
theorem Row.put {vs:List Value}{al:List α}(h:Row sz R V vs al){i:Nat}(hi:i<al.length)(hs:0<sz){xs:List Value}{a:α}(hx:xs.length=sz)(ha:R V (.agg xs.toArray) a) :
  Row sz R V (af vs (i*sz) xs) (al.set i a):=by
 have q:=h.lU hs
 have g:∀k,k<al.length->k*sz+sz<=vs.length:=fun k hk=>by
  have:(k+1)*sz<=al.length*sz:=Qq9 _ hk;rw [Qc5] at this;omega
 have l:=g i hi;rw [lf];have d:(vs.take (i*sz)).length=i*sz:=by rw [Qw0];omega
 refine ⟨fun k hk=>?_⟩;rw [List.length_set] at hk;by_cases e:k=i
 ·subst e;refine ⟨xs,hx,by simpa using ha,fun j x b=>?_⟩;have c:=(Qz1.1 b).1;rw [Qk6,Qv7 (by omega),d,Qr6,Qx4 c];exact b
 ·obtain ⟨m,n,o,f⟩:=h.at_ k hk;refine ⟨m,n,by rw [List.getElem_set_ne (fun p=>e p.symm)];exact o,fun j x b=>?_⟩;have c:=(Qz1.1 b).1;by_cases lt:k<i
  ·have:(k+1)*sz<=i*sz:=Qq9 _ lt;rw [Qc5] at this;rw [Qk6,Qx4 (by omega),Qv3,if_pos (by omega)];exact f j x b
  ·have:(i+1)*sz<=k*sz:=Qq9 _ (by omega);rw [Qc5] at this;rw [Qv7 (by rw [Qq5];omega),Qq5,d,hx,Qm2];rw [show i*sz+sz+(k*sz+j-(i*sz+sz))=k*sz+j by omega];exact f j x b
theorem sE {vs xs:List Value}{o:Nat}(h:o+xs.length<=vs.length):(af vs o xs).length=vs.length:=by
 rw [lf h];simp only [Qq5,Qw0,Qk7];omega
theorem Row.swap {vs:List Value}{al:List α}(h:Row sz R V vs al){i j:Nat}(hi:i<al.length)(hj:j<al.length)(hs:0<sz){xs ys:List Value}(hx:xs.length=sz)(hy:ys.length=sz)(h1:R V (.agg xs.toArray) (al.getD i d))(h2:R V (.agg ys.toArray) (al.getD j d)) :
  Row sz R V (af (af vs (i*sz) ys) (j*sz) xs) (jM d al i j):=by
 have:=h.put hi hs hy h2;exact this.put (by simpa using hj) hs hx h1
end Go.Eng
namespace Go.Proofs.Tryz
open Go.Eng Go.Big
theorem D5 {V V':View}{b:Nat}{P:Prop}(h:V.Le (V'.cu True b)):V.Le (V'.cu P b):=fun x o a=>
 ⟨fun c=>(h x o a).1 (c.imp id fun e=>⟨trivial,e.2⟩),(h x o a).2⟩
theorem Gz {V V':View}{P:Prop}{b:Nat}(h:V.Le V')(n:¬P):V.Le (V'.cu P b):=fun x o a=>
 ⟨fun c=>(h x o a).1 (c.elim id fun e=>absurd e.1 n),(h x o a).2⟩
end Go.Proofs.Tryz
namespace Go.Proofs.Tryz
open Go.Eng Go.Big
theorem FQ {vs:List Value}{n b:Nat}(h:vs≠[]):vb vs n b=b:=by cases vs with|nil=>exact absurd rfl h|cons v r=>rfl
theorem V_ (k:Nat)(hk:0<k):Sz k (0:Rat):=⟨by show (0:Int).natAbs<_;exact Qx2 (by decide) (Wq1),Qf1 (by omega)⟩
structure Hw (V:View) (p:OA) (n:Nat) (fs:List (L3×Sp)):Prop where
 len:n=fs.length
 at_:∀(i:Nat)(h:i<fs.length),∃ad,ah p (i*17)=some ad/\∃xs:List Value,qo V (.agg xs.toArray) fs[i].1 fs[i].2/\∀j x,xs[j]?=some x->V.at (ad.add j) x
theorem Hw.le {V V':View}{p:OA}{n:Nat}{fs:List (L3×Sp)}(h:Hw V p n fs)(e:V.Le V'):Hw V' p n fs:=⟨h.len,fun i a=>by obtain ⟨b,c,xs,d,f⟩:=h.at_ i a;exact ⟨b,c,xs,d.le e,fun j x g=>e.at (f j x g)⟩⟩
theorem uu {V:View}{p:OA}{n c:Nat}{fs:List (L3×Sp)}(h:Hw V p n fs)(hn:fs.length<=1000){k:Nat}(hs:∀f∈fs,gL k f.1/\f.2.sz k)(hk:k<=1099511627776:=by omega) :
  aa prog 42 #[.slice p n c] V fun r V'=>∃q m e,r=.slice q m e/\oJ V' q m fs:=by
 obtain rfl:=h.len
 refine tG p _ c V _ ⟨fun z V'=>∃j:Nat,z.2.2.2=(j:Int)/\j<=fs.length/\z.1=j/\j<=z.2.1/\z.2.1*14<=z.2.2.1.length/\∀(i:Nat)(_:i<j)(l:i<fs.length),∃xs:List Value,xs.length=14/\qn V' (.agg xs.toArray) fs[i].1 fs[i].2/\∀q x,xs[q]?=some x->z.2.2.1[i*14+q]?=some x,
  fun z=>fs.length-z.2.2.2.toNat,⟨(0,0,[],0),by and_intros<;>rfl,0,rfl,Qw2 _,rfl,Qq3 _,Qq3 _,fun i l=>absurd l (Qr5 i)⟩,?_⟩
 rintro ⟨b,O,u,z4⟩ V1 P ⟨j,H,MR,I,J,hv,y⟩;dsimp only at H I J hv y;subst H I;refine ⟨rfl,fun d=>?_,fun d V4 Q A hb=>?_⟩
 ·have d:(b:Int)<fs.length:=of_decide_eq_true d;have l:b<fs.length:=by omega
  obtain ⟨R,K,xs,L,a⟩:=(h.le P).at_ b l;have w:i64.wrap ((b:Int)+1)=(b:Int)+1:=ar (by omega);dsimp only;rw [Qq0,w];have B:=L;obtain ⟨_,_,_,_,_,_,_,_,_,_,_,_,_,_,_,ex,-,-⟩:=L;have ex:=congrArg Array.toList (Value.agg.inj ex);dsimp only at ex;subst ex;obtain ⟨s1,s2⟩:=hs _ (Qy3 l);refine ⟨bL K,⟨by omega,by omega⟩,_,_,_,_,_,_,_,_,_,_,_,_,_,_,_,_,_,R,K,a 0 _ rfl,a 1 _ rfl,a 2 _ rfl,a 3 _ rfl,a 4 _ rfl,a 5 _ rfl,a 6 _ rfl,a 7 _ rfl,a 8 _ rfl,a 9 _ rfl,a 10 _ rfl,a 11 _ rfl,a 12 _ rfl,a 13 _ rfl,a 14 _ rfl,a 15 _ rfl,a 16 _ rfl,fun V2 M=>(Bt (B.le M) s1 s2 hk).mono ?_⟩;rintro r V3 S g;have T:=g;obtain ⟨_,_,_,_,_,_,_,_,_,_,_,_,_,_,_,_,_,_,_,_,_,_,_,_,_,_,rfl⟩:=du g;refine ⟨_,_,_,_,_,_,_,_,_,_,_,_,_,_,_,_,_,_,_,_,_,_,_,_,_,_,_,_,rfl,by omega,J,hv,rfl,?_,?_⟩
  ·intro v hm;simp only [Qq4,Qn7,or_false] at hm;rcases hm with rfl|rfl|rfl|rfl|rfl|rfl|rfl|rfl|rfl|rfl|rfl|rfl|rfl|rfl<;>rfl
  ·intro sp U W h2;refine ⟨(b+1,U,_,(b:Int)+1),by dsimp only;omega,by and_intros<;>rfl,b+1,rfl,l,rfl,W,?_,?_⟩
   ·dsimp only;have t:(u.take (b*14)).length=b*14:=by rw [Qw0];omega
    rw [Qq5,Qq5,t];simp only [Qz2,Qd1];omega
   ·intro i X C;dsimp only;have t:(u.take (b*14)).length=b*14:=by rw [Qw0];omega
    by_cases o:i=b
    ·subst o;refine ⟨_,rfl,T,fun q x s=>?_⟩;rw [Qk6,Qv7 (by rw [t];omega),t,Qr6];have:q<14:=(Qz1.1 s).1;rw [Qx4 (by exact this)];exact s
    ·obtain ⟨D,N,E,F⟩:=y i (by omega) C;refine ⟨D,N,E.le (M.trans S),fun q x s=>?_⟩;have:q<14:=by have:=(Qz1.1 s).1;omega
     rw [Qk6,Qx4 (by rw [t];omega),Qv3,if_pos (by omega)];exact F q x s
 ·have d:¬(b:Int)<fs.length:=of_decide_eq_false d;obtain rfl:b=fs.length:=by omega
  refine ⟨_,_,_,rfl,rfl,fun i l=>?_⟩;have Y:O≠0:=by omega
  have G:u≠[]:=fun e=>by rw [e] at hv;simp at hv;omega
  obtain ⟨D,N,E,F⟩:=y i l l;refine ⟨⟨A,i*14,none⟩,by simp [mA,Y,ah,add_zero'],D,E.le Q,fun q x s=>?_⟩;have Z:(⟨A,i*14,none⟩:Addr).add q=⟨A,i*14+q,none⟩:=by rw [←add_zero',hZ,add_zero']
  rw [Z];exact fJ (hb G) (F q x s)
theorem Kn {L M:L3}:((L.1:Rat)=(M.1:Rat)/\(L.2.1:Rat)=(M.2.1:Rat)/\(L.2.2:Rat)=(M.2.2:Rat))↔L=M:=by
 constructor
 ·rintro ⟨a,b,c⟩;exact Prod.ext (Qt3.1 a) (Prod.ext (Qt3.1 b) (Qt3.1 c))
 ·rintro rfl;exact ⟨rfl,rfl,rfl⟩
theorem KG {V:View}{v w:Value}{L M:L3}(hl:wR V v L)(hm:wR V w M){k:Nat}(sl:gL k L)(sm:gL k M)(hk:k+k<1099511627776:=by omega) :
  aa prog 126 #[v,w] V fun r V'=>r=.bool (decide (L=M)):=by
 refine (Bx hl hm sl.1 sl.2.1 sl.2.2 sm.1 sm.2.1 sm.2.2 hk).mono ?_;rintro r V' l rfl;rw [decide_eq_decide.2 Kn]
theorem Ju {V:View}{b1 p1 n1 c1 b2 p2 n2 c2 b3 p3 n3 c3 b p n c p' n' c' d q m e q' m' e'}{x y:Bool}{l:L3}{s:Sp}(h:RF V (.agg #[.bool b1,.slice p1 n1 c1,.bool b2,.slice p2 n2 c2,.bool b3,.slice p3 n3 c3,.bool b,.slice p n c,.slice p' n' c',.bool d,.slice q m e,.slice q' m' e',.bool x,.bool y]) l s) :
  RL V (.agg #[.bool b1,.slice p1 n1 c1,.bool b2,.slice p2 n2 c2,.bool b3,.slice p3 n3 c3]) l.1 l.2.1 l.2.2/\Hj V (.agg #[.bool b,.slice p n c,.slice p' n' c',.bool d,.slice q m e,.slice q' m' e',.bool x,.bool y]) s:=by
 obtain ⟨_,_,_,_,_,_,_,_,_,_,_,_,_,_,_,_,_,_,_,_,_,_,_,_,_,_,f,g,i⟩:=h;have a:=congrArg Array.toList (Value.agg.inj f);simp only [Qy2,Value.bool.injEq,Value.slice.injEq,and_true] at a;obtain ⟨rfl,⟨rfl,rfl,rfl⟩,rfl,⟨rfl,rfl,rfl⟩,rfl,⟨rfl,rfl,rfl⟩,rfl,⟨rfl,rfl,rfl⟩,⟨rfl,rfl,rfl⟩,rfl,⟨rfl,rfl,rfl⟩,⟨rfl,rfl,rfl⟩,rfl,rfl⟩:=a;exact ⟨g,i⟩
end Go.Proofs.Tryz
namespace Go.Proofs.Tryz
open Go.Eng Go.Big
def sU (l m:L3):Int:=if (l.1-m.1).sign≠0 then (l.1-m.1).sign else if (l.2.1-m.2.1).sign≠0 then (l.2.1-m.2.1).sign else (l.2.2-m.2.2).sign
def Rp (a b:L3):Int:=sU a b
theorem oV {a b:L3}:sU a b<0↔(a.1<b.1\/a.1=b.1/\(a.2.1<b.2.1\/a.2.1=b.2.1/\a.2.2<b.2.2)):=by
 have s:∀{x y:Int},(x<y/\(x-y).sign=-1)\/(x=y/\(x-y).sign=0)\/(y<x/\(x-y).sign=1):=by
  intro x y;rcases Ww0 x y with h|h|h
  ·exact .inl ⟨h,Qd5 (by omega)⟩
  ·exact .inr (.inl ⟨h,by rw [h,Int.sub_self];rfl⟩)
  ·exact .inr (.inr ⟨h,Qd4 (by omega)⟩)
 unfold sU;rcases @s a.1 b.1 with ⟨d,c⟩|⟨d,c⟩|⟨d,c⟩<;>rcases @s a.2.1 b.2.1 with ⟨h2,e2⟩|⟨h2,e2⟩|⟨h2,e2⟩<;>rcases @s a.2.2 b.2.2 with ⟨h3,e3⟩|⟨h3,e3⟩|⟨h3,e3⟩<;>rw [c,e2,e3]<;>simp<;>omega
theorem L1:Ord Rp:=⟨fun a b h=>by unfold Rp at *;rw [oV] at *;omega,fun a b d h c=>by unfold Rp at *;rw [oV] at *;omega⟩
theorem I8 {a b:L3}:I7 [cmpQ (a.1:Rat) (b.1:Rat),cmpQ (a.2.1:Rat) (b.2.1:Rat),cmpQ (a.2.2:Rat) (b.2.2:Rat)]=sU a b:=by
 have e:∀x y:Int,cmpQ (x:Rat) (y:Rat)=(x-y).sign:=fun x y=>by
  unfold cmpQ;rw [←Wx7,Qr4]
 rw [e,e,e];unfold sU;generalize (a.1-b.1).sign=x;generalize (a.2.1-b.2.1).sign=y;generalize (a.2.2-b.2.2).sign=z;simp only [I7];by_cases c:x=0<;>by_cases d:y=0<;>by_cases f:z=0<;>simp [c,d,f]
end Go.Proofs.Tryz
namespace Go.Proofs.Tryz
open Go.Big
section
variable {α:Type} {c:α->α->Int} {d:α}
structure PQ (c:α->α->Int) (d:α) (l0 l:List α) (a0 b0 a b:Nat):Prop where
 Lb:gM d l0 l a0 b0
 ha:a0<=a
 ni:a<=b
 hb:b<=b0
 lo:oG c d l a0 a
 hi:oG c d l b b0
 s1:Sep c d l a0 a b0
 s2:Sep c d l a0 b b0
 pre:0<a->∀k,a<=k->k<b->¬c (l.getD k d) (l.getD (a-1) d)<0
variable {l0 l m:List α} {a0 b0 a b mid:Nat}
theorem PQ.start {l:List α}(h:a<=b)(hp:0<a->∀k,a<=k->k<b->¬c (l.getD k d) (l.getD (a-1) d)<0):PQ c d l l a b a b:=
 ⟨.refl _ _ _,Qq3 _,h,Qq3 _,.short (by omega),.short (by omega),fun p q e f=>by omega,fun p q e f g i=>by omega,hp⟩
theorem PQ.change (h:PQ c d l0 l a0 b0 a b)(hs:gM d l m a b):PQ c d l0 m a0 b0 a b:=
 ⟨h.Lb.trans (hs.wide h.ha h.hb),h.ha,h.ni,h.hb,hs.asc h.lo (.inl (Qq3 _)),hs.asc h.hi (.inr (Qq3 _)),hs.sep h.s1 (.inr (.inl ⟨Qq3 _,h.hb⟩)),hs.sep h.s2 (.inl ⟨h.ha,Qq3 _⟩),fun f k g i=>by
  obtain ⟨j,n,o,e⟩:=hs.mem k g i;rw [e,hs.out (a-1) (by omega)];exact h.pre f j n o⟩
theorem PQ.fin (h:PQ c d l0 l a0 b0 a b)(hs:gM d l m a b)(ha:oG c d m a b):gM d l0 m a0 b0/\oG c d m a0 b0:=by
 have e:=h.change hs;refine ⟨e.Lb,e.lo.join (ha.join e.hi fun p q j f g i=>e.s2 p q (by have:=h.ha;omega) f g i) e.s1⟩
theorem PQ.left (ho:Ord c)(h:PQ c d l0 l a0 b0 a b)(hm:a<=mid)(hm':mid<b)(h1:∀k,a<=k->k<mid->c (l.getD k d) (l.getD mid d)<0)(h2:∀k,mid<k->k<b->¬c (l.getD k d) (l.getD mid d)<0)
  (hs:gM d l m a mid)(ha:oG c d m a mid):PQ c d l0 m a0 b0 (mid+1) b:=by
 have n:=h.ha;have o:=h.hb;have em:m.getD mid d=l.getD mid d:=hs.out mid (by omega)
 have below:∀k,a<=k->k<mid->¬c (m.getD mid d) (m.getD k d)<0:=fun k f g=>by
  obtain ⟨r,i,j,e⟩:=hs.mem k f g;rw [em,e];exact ho.J9 _ _ (h1 r i j)
 have t1:=hs.sep h.s1 (.inr (.inl ⟨Qq3 _,by omega⟩));have t2:=hs.sep h.s2 (.inl ⟨n,by omega⟩);have up:∀q,mid<q->q<b->¬c (m.getD q d) (m.getD mid d)<0:=fun q f g=>by rw [em,hs.out q (by omega)];exact h2 q f g
 refine ⟨h.Lb.trans (hs.wide n (by omega)),by omega,by omega,o,(hs.asc h.lo (.inl (Qq3 _))).join (m:=a) (fun p q f g i=>?_) fun p q f g i j=>t1 p q f g i (by omega),hs.asc h.hi (.inr (by omega)),fun p q f g i j=>?_,t2,fun _ k f g=>up k (by omega) g⟩
 ·by_cases e:q=mid
  ·subst e;exact below p f g
  ·exact ha p q f g (by omega)
 ·by_cases s:b<=q
  ·exact t2 p q f (by omega) s j
  ·by_cases t:p<a
   ·exact t1 p q f t (by omega) j
   ·have u:=up q (by omega) (by omega);by_cases e:p=mid
    ·subst e;exact u
    ·exact ho.tr _ _ _ u (below p (by omega) (by omega))
theorem PQ.right (ho:Ord c)(h:PQ c d l0 l a0 b0 a b)(hm:a<=mid)(hm':mid<b)(h1:∀k,a<=k->k<mid->c (l.getD k d) (l.getD mid d)<0)(h2:∀k,mid<k->k<b->¬c (l.getD k d) (l.getD mid d)<0)
  (hs:gM d l m (mid+1) b)(ha:oG c d m (mid+1) b):PQ c d l0 m a0 b0 a mid:=by
 have s:=h.ha;have r:=h.hb;have em:m.getD mid d=l.getD mid d:=hs.out mid (by omega)
 have up:∀q,mid<q->q<b->¬c (m.getD q d) (m.getD mid d)<0:=fun q g f=>by
  obtain ⟨t,i,j,e⟩:=hs.mem q (by omega) f;rw [em,e];exact h2 t (by omega) j
 have below:∀k,a<=k->k<mid->¬c (m.getD mid d) (m.getD k d)<0:=fun k g f=>by
  rw [em,hs.out k (by omega)];exact ho.J9 _ _ (h1 k g f)
 have t1:=hs.sep h.s1 (.inr (.inl ⟨by omega,r⟩));have t2:=hs.sep h.s2 (.inl ⟨by omega,Qq3 _⟩);have t3:=hs.asc h.hi (.inr (Qq3 _));refine ⟨h.Lb.trans (hs.wide (by omega) r),s,hm,by omega,hs.asc h.lo (.inl (by omega)),fun p q g f i=>?_,t1,fun p q g f i j=>?_,fun v k g f=>?_⟩
 ·by_cases n:q<b
  ·by_cases e:p=mid
   ·subst e;exact up q f n
   ·exact ha p q (by omega) f n
  ·by_cases o:p<b
   ·exact t2 p q (by omega) o (by omega) i
   ·exact t3 p q (by omega) f i
 ·by_cases n:b<=q
  ·exact t2 p q g (by omega) n j
  ·by_cases o:p<a
   ·exact t1 p q g o (by omega) j
   ·have u:=below p (by omega) f;by_cases e:q=mid
    ·subst e;exact u
    ·exact ho.tr _ _ _ (up q (by omega) (by omega)) u
 ·rw [hs.out k (by omega),hs.out (a-1) (by omega)];exact h.pre v k g (by omega)
theorem PQ.Xg (ho:Ord c)(h:PQ c d l0 l a0 b0 a b)(h0:0<a)(hm:a<mid)(hm':mid<=b){x:α}(hx:¬c (l.getD (a-1) d) x<0)(hs:gM d l m a b)
  (h1:∀k,a<=k->k<mid->¬c x (m.getD k d)<0)(h2:∀k,mid<=k->k<b->c x (m.getD k d)<0):PQ c d l0 m a0 b0 mid b:=by
 have e:=h.change hs;have t:=h.ha;have n:=h.hb;have ex:¬c (m.getD (a-1) d) x<0:=by rw [hs.out (a-1) (by omega)];exact hx
 have o:=e.pre h0;refine ⟨e.Lb,by omega,hm',n,e.lo.join (m:=a) (fun p q f g i=>?_) fun p q f g i j=>e.s1 p q f g i (by omega),e.hi,fun p q f g i j=>?_,e.s2,fun _ k f g=>?_⟩
 ·exact ho.tr _ _ _ (o q (by omega) (by omega)) (ho.tr _ _ _ ex (h1 p f (by omega)))
 ·by_cases r:b<=q
  ·exact e.s2 p q f (by omega) r j
  ·by_cases s:p<a
   ·exact e.s1 p q f s (by omega) j
   ·exact ho.tr _ _ _ (ho.J9 _ _ (h2 q i (by omega))) (h1 p (by omega) g)
 ·exact ho.tr _ _ _ (ho.J9 _ _ (h2 k f g)) (h1 (mid-1) (by omega) (by omega))
structure HQ (c:α->α->Int) (d:α) (l:List α) (f i n:Nat):Prop where
 hp:Hp c d l f 0 i none
 asc:oG c d l (f+i) (f+n)
 sep:Sep c d l f (f+i) (f+n)
theorem HQ.start {f n:Nat}(h:Hp c d l f 0 n none):HQ c d l f n n:=⟨h,.short (by omega),fun p q a b e g=>by omega⟩
theorem HQ.step (ho:Ord c){f k n:Nat}(h:HQ c d l f (k+1) n)(hk:k+1<=n)(hl:f+n<=l.length)(hs:gM d (jM d l f (f+k)) m f (f+k))(hm:Hp c d m f 0 k none):HQ c d m f k n:=by
 have a:=fun x=>lk (d:=d) (l:=l) (i:=f) (j:=f+k) (k:=x) (by omega);have out:∀q,f+k<q->m.getD q d=l.getD q d:=fun q u=>by rw [hs.out q (by omega),a,if_neg (by omega),if_neg (by omega)]
 have top:m.getD (f+k) d=l.getD f d:=by rw [hs.out (f+k) (by omega),a,if_pos rfl]
 refine ⟨hm,fun p q r b g=>?_,fun p q r b g s=>?_⟩
 ·rw [out q (by omega)];by_cases e:p=f+k
  ·rw [e,top];exact h.sep f q (Qq3 _) (by omega) (by omega) g
  ·rw [out p (by omega)];exact h.asc p q (by omega) b g
 ·have hp:∃j,j<k+1/\m.getD p d=l.getD (f+j) d:=by
   obtain ⟨o,v,w,e⟩:=hs.mem p r b;rw [e,a,if_neg (by omega)];split
   ·exact ⟨k,by omega,rfl⟩
   ·exact ⟨o-f,by omega,by rw [show f+(o-f)=o by omega]⟩
  obtain ⟨j,t,e⟩:=hp;rw [e];by_cases eq:q=f+k
  ·rw [eq,top];exact h.hp.top ho j t
  ·rw [out q (by omega)];exact h.sep (f+j) q (by omega) (by omega) (by omega) s
theorem HQ.fin {f n:Nat}(h:HQ c d l f 0 n):oG c d l f (f+n):=by have:=h.asc;simpa using this
structure PT (P:α->Prop) (d:α) (l:List α) (a b i j:Nat):Prop where
 hi:a<i
 za:i<=j+1
 hj:j<b
 lo:∀k,a<k->k<i->P (l.getD k d)
 up:∀k,j<k->k<b->¬P (l.getD k d)
variable {P:α->Prop} {i j:Nat}
theorem PT.start (h:a+1<b):PT P d l a b (a+1) (b-1):=⟨by omega,by omega,by omega,fun k c e=>by omega,fun k c e=>by omega⟩
theorem PT.MP (h:PT P d l a b i j)(za:i<=j)(hp:P (l.getD i d)):PT P d l a b (i+1) j:=⟨by have:=h.hi;omega,by omega,h.hj,fun k c f=>by
 by_cases e:k=i
 ·subst e;exact hp
 ·exact h.lo k c (by omega),h.up⟩
theorem PT.Mr (h:PT P d l a b i j)(za:i<=j)(hp:¬P (l.getD j d)):PT P d l a b i (j-1):=⟨h.hi,by omega,by have:=h.hj;omega,h.lo,fun k f c=>by
 by_cases e:k=j
 ·subst e;exact hp
 ·exact h.up k (by have:=h.hi;omega) c⟩
theorem PT.swap (h:PT P d l a b i j)(za:i<=j)(hl:b<=l.length)(h1:¬P (l.getD i d))(h2:P (l.getD j d)):PT P d (jM d l i j) a b (i+1) (j-1)/\(jM d l i j).getD a d=l.getD a d/\gM d l (jM d l i j) a b:=by
 have n:=h.hi;have m:=h.hj;have ne:i≠j:=fun e=>h1 (e▸h2);have c:=fun x=>lk (d:=d) (l:=l) (i:=i) (j:=j) (k:=x) (by omega);refine ⟨⟨by omega,by omega,by omega,fun k f g=>?_,fun k f g=>?_⟩,by rw [c,if_neg (by omega),if_neg (by omega)],gM.jM (by omega) (by omega) (by omega) m hl⟩
 ·rw [c,if_neg (by omega)];by_cases e:k=i
  ·rw [if_pos e];exact h2
  ·rw [if_neg e];exact h.lo k f (by omega)
 ·rw [c];by_cases e:k=j
  ·rw [if_pos e];exact h1
  ·rw [if_neg e,if_neg (by omega)];exact h.up k (by omega) g
theorem PT.fin (ho:Ord c)(h:PT (fun x=>c x (l.getD a d)<0) d l a b i j)(za:¬i<=j)(hl:b<=l.length):gM d l (jM d l j a) a b/\a<=j/\j<b /\
  (∀k,a<=k->k<j->c ((jM d l j a).getD k d) ((jM d l j a).getD j d)<0)/\(∀k,j<k->k<b->¬c ((jM d l j a).getD k d) ((jM d l j a).getD j d)<0):=by
 have p:=h.hi;have q:=h.za;have g:=h.hj;have f:=fun x=>lk (d:=d) (l:=l) (i:=j) (j:=a) (k:=x) (by omega)
 have m:(jM d l j a).getD j d=l.getD a d:=by
  rw [f];by_cases e:j=a
  ·rw [if_pos e,e]
  ·rw [if_neg e,if_pos rfl]
 refine ⟨gM.jM (by omega) g (Qq3 _) (by omega) hl,by omega,g,fun k n o=>?_,fun k n o=>?_⟩
 ·rw [m,f];by_cases e:k=a
  ·rw [if_pos e];exact h.lo j (by omega) (by omega)
  ·rw [if_neg e,if_neg (by omega)];exact h.lo k (by omega) (by omega)
 ·rw [m,f,if_neg (by omega),if_neg (by omega)];exact h.up k n o
end
end Go.Proofs.Tryz
namespace Go.Proofs.Tryz
open Go.Eng Go.Big
theorem fv (V:View):V.Le V.shut:=fun _ _ h=>h
set_option maxRecDepth 10000 in
theorem Kf {V:View}(x:Nat)(hx:x<256):aa prog 215 #[.int .u64 (x:Int)] V fun r V'=>r=.int .i64 (bj x:Int):=by
 refine oB _ V _ ⟨fun z _=>z=((x:Int),0),⟨fun a=>absurd (of_decide_eq_true a) (by omega),fun _=>⟨_,⟨rfl,rfl⟩,rfl⟩⟩,?_⟩;rintro _ d e rfl;refine ⟨rfl,fun z _=>z=((x:Int),0),⟨fun a=>absurd (of_decide_eq_true a) (by dsimp only;omega),fun _=>⟨_,⟨rfl,rfl⟩,rfl⟩⟩,?_⟩;rintro _ V2 f rfl;refine ⟨rfl,fun z _=>z=((x:Int),0),⟨fun a=>absurd (of_decide_eq_true a) (by dsimp only;omega),fun _=>⟨_,⟨rfl,rfl⟩,rfl⟩⟩,?_⟩;rintro _ g h rfl;have hw:IntKind.u8.wrap (x:Int)=x:=IntWalk.u8_in _ (by omega);have b:(Cb.size:Int)=256:=rfl;dsimp only;rw [hw];refine ⟨rfl,⟨by omega,by show (x:Int)<(Cb.size:Int);rw [b];omega⟩,fun i j=>?_⟩;show Value.int .i64 (i64.wrap (0+i64.wrap ((Cb.data.toList.getD (x:Int).toNat 0).toNat:Int)))=_;congr 1;have key:∀y:Nat,y<256->(Cb.data.toList.getD y 0).toNat=bj y:=by decide +kernel
 have c:bj x<=8:=eI.2 (by omega);have:=key x hx;rw [Qq0,this];simp (disch:=omega) only [ar];omega
theorem nI {V:View}(x:Nat)(hx:x<256:=by omega):aa prog 168 #[.int .u64 (x:Int)] V fun r V'=>r=.int .i64 (bj x:Int):=by
 refine rC _ V _ fun a b=>(Kf x hx).mono ?_;rintro r V2 c rfl;exact ⟨_,rfl,fun d e=>rfl⟩
theorem qG {V:View}(x:Nat)(h0:1<=x)(hx:x<50:=by omega):aa prog 239 #[.int .i64 (x:Int)] V fun r V'=>∃m:Nat,r=.int .u64 m/\1<=m/\m<=2*x:=by
 have w:u64.wrap (x:Int)=x:=aM (by omega);refine jS _ V _ fun c d=>?_;rw [w];refine (nI x).mono ?_;rintro r V2 f rfl;have key:∀y:Nat,y<50->1<=y->2^bj y<=2*y/\bj y<=6:=by decide +kernel
 obtain ⟨a,g⟩:=key x hx h0
 have e:min ((bj x:Nat):Int).toNat IntKind.u64.bits=bj x:=by
  show min ((bj x:Nat):Int).toNat 64=_;rw [Qq0];omega
 have b:((1:Int)*2^bj x)=((2^bj x:Nat):Int):=by rw [Qs1];simp
 refine ⟨_,rfl,by omega,fun h i=>⟨2^bj x,?_,Wq1,a⟩⟩;rw [e,b];generalize 2^bj x=P at *;rw [aM (by omega)]
theorem Mn {x m:Int}(h0:0<=m)(h1:m<1000:=by omega):0<=aU .and .u64 x m/\aU .and .u64 x m<=m:=by
 have hb:(BitVec.ofInt 64 m).toNat=m.toNat:=by rw [BitVec.toNat_ofInt];omega
 have h:((BitVec.ofInt 64 x &&& BitVec.ofInt 64 m).toNat)<=m.toNat:=by rw [Ww7,hb];exact Nat.and_le_right
 show 0<=u64.wrap ((BitVec.ofInt 64 x &&& BitVec.ofInt 64 m).toNat:Int)/\u64.wrap ((BitVec.ofInt 64 x &&& BitVec.ofInt 64 m).toNat:Int)<=m;rw [aM (by omega)];omega
theorem DX {V:View}{rb:Nat}{x:Int}(hw:V.w.heap[rb]?=some (.cells #[.int .u64 x] 302 (0,0)))(hx:V.X rb) :
  aa prog 240 #[.pointer (some ⟨rb,0,none⟩)] V fun r V'=>∃y:Int,r=.int .u64 y/\V'.w.heap[rb]?=some (.cells #[.int .u64 y] 302 (0,0)):=
 kB rb x V _ hw hx ⟨by decide,by decide,by decide,fun a b h=>⟨_,rfl,h⟩⟩
end Go.Proofs.Tryz
namespace Go.Proofs.Tryz
open Go.Eng Go.Big
theorem Ad {s:Sp}{t:Rat}:s.has t=true↔(s.a=true\/s.lo<=t)/\(s.b=true\/t<=s.hi):=by
 unfold Sp.has;rcases eK s.lo t with ⟨d,c⟩|⟨d,c⟩|⟨d,c⟩<;>rcases eK s.hi t with ⟨h2,e2⟩|⟨h2,e2⟩|⟨h2,e2⟩<;>rw [c,e2]<;>cases s.a<;>cases s.b<;>simp<;>grind
end Go.Proofs.Tryz
namespace Go.Proofs.Tryz
open Go.Eng Go.Big
def nS (x:L3):List L3->List L3
 | []=>[x]
 | y::r=>if sU y x<0 then y::nS x r else if y=x then y::r else x::y::r
theorem B4 (x:L3):∀o:List L3,(nS x o).length<=o.length+1
 | []=>by simp [nS]
 | y::r=>by
  have:=B4 x r;unfold nS;split
  ·simp;omega
  ·split<;>simp
def qY (a b:L3):Prop:=sU a b<0
theorem LX {a b c:L3}(h:qY a b)(h':qY b c):qY a c:=by unfold qY at *;rw [oV] at *;omega
theorem LW {a b:L3}(h:qY a b)(h':qY b a):False:=by unfold qY at *;rw [oV] at *;omega
theorem Cf {a:L3}(h:qY a a):False:=LW h h
theorem ID {a b:L3}(h:¬qY a b)(hne:a≠b):qY b a:=by
 have:¬(a.1=b.1/\a.2.1=b.2.1/\a.2.2=b.2.2):=fun ⟨c,d,e⟩=>hne (Prod.ext c (Prod.ext d e));unfold qY at *;rw [oV] at *;omega
theorem Dz:∀{l m:List L3},l.Pairwise qY->m.Pairwise qY->(∀x,x∈l↔x∈m)->l=m
 | [],[],_,_,_=>rfl
 | [],b::m,_,_,h=>by have:=(h b).2 (by simp);cases this
 | a::l,[],_,_,h=>by have:=(h a).1 (by simp);cases this
 | a::l,b::m,h1,h2,h=>by
  obtain ⟨g,j⟩:=Qk9.1 h1;obtain ⟨i,k⟩:=Qk9.1 h2
  have e:a=b:=by
   rcases Qq4.1 ((h a).1 (by simp)) with e|e
   ·exact e
   ·rcases Qq4.1 ((h b).2 (by simp)) with d|d
    ·exact d.symm
    ·exact (LW (i a e) (g b d)).elim
  subst e;rw [Dz j k fun x=>⟨fun c=>?_,fun c=>?_⟩]
  ·rcases Qq4.1 ((h x).1 (Qq8 _ c)) with rfl|f
   ·exact (Cf (g _ c)).elim
   ·exact f
  ·rcases Qq4.1 ((h x).2 (Qq8 _ c)) with rfl|f
   ·exact (Cf (i _ c)).elim
   ·exact f
theorem uZ {x y:L3}:∀{o:List L3},y∈nS x o↔y=x\/y∈o
 | []=>by simp [nS]
 | z::r=>by
  unfold nS;split
  ·simp only [Qq4,uZ (o:=r)];constructor
   ·rintro (h|h|h)<;>simp [h]
   ·rintro (h|h|h)<;>simp [h]
  ·split
   ·rename_i e;subst e;simp
   ·simp
theorem B3 {x:L3}:∀{o:List L3},o.Pairwise qY->(nS x o).Pairwise qY
 | [],_=>List.pairwise_singleton _ _
 | z::r,h=>by
  obtain ⟨h1,h2⟩:=Qk9.1 h;unfold nS;split
  ·rename_i b;refine Qk9.2 ⟨fun y a=>?_,B3 h2⟩;rcases uZ.1 a with rfl|a
   ·exact b
   ·exact h1 y a
  ·rename_i b;split
   ·exact h
   ·rename_i c;have d:qY x z:=ID b c;refine Qk9.2 ⟨fun y a=>?_,h⟩;rcases Qq4.1 a with rfl|a
    ·exact d
    ·exact LX d (h1 y a)
end Go.Proofs.Tryz
namespace Go.Proofs.Tryz
open Go.Eng Go.Big
def Fl (V:View):View:=⟨V.w,fun b=>b<V.w.heap.size,fun _=>False,fun _ h=>h,fun _ h=>h.elim⟩
theorem Dx {f:FuncId}{args:Array Value}{V:View}{o:Obj}(h:aa prog f args (Fl V) fun r V'=>∃bk,r=.pointer (some ⟨bk,0,none⟩)/\V'.bI bk o) :
  aa prog f args V fun r V'=>∃bk,r=.pointer (some ⟨bk,0,none⟩)/\V.w.heap.size<=bk/\V'.bI bk o:=
 ⟨h.1,h.2.mono fun _ _ ⟨_,he,a,bk,c,hb⟩=>⟨_,he,⟨a.size,fun b hb _=>a.bI b hb (fun h=>h),a.os,a.tape,a.out⟩,bk,c,Nat.le_of_not_lt hb.1,fun d=>hb.1 (V.hH bk d),hb.2⟩⟩
theorem BG {V:View}{lp:OA}{ln lc:Nat}(hc:ln<=lc) :
  aa prog 7 #[.slice lp ln lc] V fun r V'=>∃bk,r=.pointer (some ⟨bk,0,none⟩)/\V.w.heap.size<=bk/\V'.bI bk (.cells #[.slice lp (min ln 400) lc,.int .i64 0] 88 (0,0)):=by
 refine Dx (A5 lp ln lc (Fl V) _ ?_)
 have e:bP (ln:Int) 400=((min ln 400:Nat):Int):=by
  unfold bP;simp only [Nat.min_def];split<;>split<;>omega
 rw [e,Qq0];have:=Nat.min_le_left ln 400;exact ⟨⟨by omega,by omega⟩,fun a b bk hb=>⟨bk,rfl,hb⟩⟩
theorem Iz {V1 V2 V3:View}{bk:Nat}(l2:V1.Le V2)(hfr:V1.w.heap.size<=bk)(l3:(V2.Ig bk).Le V3):V1.Le V3:=fun b o h=>l3 b o ⟨fun c=>c.elim (l2 b o h).1 fun e=>by
  have d:b<V1.w.heap.size:=by
   rcases Qy8 b V1.w.heap.size with a|a
   ·exact a
   ·have:=h.2;rw [Qn2 a] at this;cases this
  have:=e.1;omega,(l2 b o h).2⟩
end Go.Proofs.Tryz
namespace Go.Proofs.Tryz
open Go.Eng Go.Big
theorem IU {t:Sp}(h:t.can/\t.emp=false):t.neg.can/\t.neg.emp=false:=by
 obtain ⟨⟨d,e⟩,c⟩:=h;rw [Sp.kM] at c;rw [Sp.kM];unfold Sp.neg Sp.can;cases ha:t.a<;>cases hb:t.b<;>simp [ha,hb] at d e c⊢<;> grind
def qu (V:View)(v:Value)(x:L3×Sp):Prop:=RF V v x.1 x.2
theorem qu.le {V V':View}{v:Value}{x:L3×Sp}(h:qu V v x)(l:V.Le V'):qu V' v x:=RF.le h l
theorem I3 {b1:Bool}{p1:OA}{n1 c1:Nat}{b2:Bool}{p2:OA}{n2 c2:Nat}{b3:Bool}{p3:OA}{n3 c3:Nat}{b:Bool}{q1:OA}{m1 e1:Nat}{q2:OA}{m2 e2:Nat}{d:Bool}{q3:OA}{m3 e3:Nat}{q4:OA}{m4 e4:Nat}{x y:Bool} :
  ∀v∈([.bool b1,.slice p1 n1 c1,.bool b2,.slice p2 n2 c2,.bool b3,.slice p3 n3 c3,.bool b,.slice q1 m1 e1,.slice q2 m2 e2,.bool d,.slice q3 m3 e3,.slice q4 m4 e4,.bool x,.bool y]:List Value),v.oneCell'=true:=by
 intro v hv;simp only [Qq4,Qn7,or_false] at hv;rcases hv with rfl|rfl|rfl|rfl|rfl|rfl|rfl|rfl|rfl|rfl|rfl|rfl|rfl|rfl<;>rfl
end Go.Proofs.Tryz
namespace Go.Proofs.Tryz
open Go.Eng Go.Big
def oK (V:View)(v:Value)(x:L3×Sp):Prop:=qo V v x.1 x.2
theorem vJ {V:View}{xs:List Value}{x:L3×Sp}(h:oK V (.agg xs.toArray) x):∀v∈xs,v.oneCell'=true:=by
 obtain ⟨_,_,_,_,_,_,_,_,_,_,_,_,_,_,_,ex,-,-⟩:=h;have ex:=congrArg Array.toList (Value.agg.inj ex);dsimp only at ex;subst ex;intro v hv;simp only [Qq4,Qn7,or_false] at hv;rcases hv with rfl|rfl|rfl|rfl|rfl|rfl|rfl|rfl|rfl|rfl|rfl|rfl|rfl|rfl|rfl|rfl|rfl<;>rfl
theorem Kd {V:View}{p:OA}{n c:Nat}{fs:List (L3×Sp)}(h:oJ V p n fs)(hn:fs.length<=1000000){k:Nat}(hs:∀f∈fs,gL k f.1/\f.2.sz k)(ho:∀f∈fs,A7 f.1 f.2)(hk:4*k+4<1099511627776:=by omega) :
  aa prog 65 #[.slice p n c] V fun r V'=>∃q m e,r=.tuple #[.slice q m e,.bool true]/\lC 17 oK V' q m fs/\(fs=[]->q=none):=by
 obtain rfl:=h.len;refine AK p _ c V _ ⟨fun z V'=>∃j:Nat,z.2.2.2=(j:Int)/\j<=fs.length/\GR 17 oK V' z.1 z.2.1 z.2.2.1 (fs.take j)/\(j=0->z.2.1=0),fun z=>fs.length-z.2.2.2.toNat,⟨(0,0,[],0),by and_intros<;>rfl,0,rfl,Qw2 _,GR.nil,fun _=>rfl⟩,?_⟩;rintro ⟨C,D,M,N⟩ O E ⟨j,u,P,d,o⟩;dsimp only at u d o;subst u;have s:=d.len;refine ⟨rfl,fun b=>?_,fun b Q F R hb=>?_⟩;rotate_left
 ·have b:¬(j:Int)<fs.length:=of_decide_eq_false b;obtain rfl:j=fs.length:=by omega
  rw [Qv2] at d s;subst s;exact ⟨_,_,D,rfl,lC.jw hb (d.row.le fun _ _ g=>qo.le g F) (by decide) d.le,fun h=>by rw [h] at o;rw [o rfl];rfl⟩
 have b:(j:Int)<fs.length:=of_decide_eq_true b;have i:j<fs.length:=by omega
 have w:i64.wrap ((j:Int)+1)=((j+1:Nat):Int):=by rw [ar (by omega)];rfl
 dsimp only;rw [Qq0,w];obtain ⟨G,v,xs,y,a⟩:=(h.le E).at_ j i;have t:=y;obtain ⟨_,_,_,_,_,_,_,_,_,_,_,_,_,_,_,_,_,_,_,_,_,_,_,_,_,_,ex,-,-⟩:=y;have ex:=congrArg Array.toList (Value.agg.inj ex);dsimp only at ex;subst ex;obtain ⟨s1,s2⟩:=hs _ (Qy3 i);have ok:=ho _ (Qy3 i);rw [Qw0] at s;refine ⟨bL v,⟨by omega,by omega⟩,_,_,_,_,_,_,_,_,_,_,_,_,_,_,_,_,_,_,_,_,_,_,_,_,_,_,_,_,G,v,a 0 _ rfl,a 1 _ rfl,a 2 _ rfl,a 3 _ rfl,a 4 _ rfl,a 5 _ rfl,a 6 _ rfl,a 7 _ rfl,a 8 _ rfl,a 9 _ rfl,a 10 _ rfl,a 11 _ rfl,a 12 _ rfl,a 13 _ rfl,fun V2 A=>(j7 (t.le A) ok s1 s2 hk).mono ?_⟩;rintro r H I ⟨w,rfl,B⟩;have l:=B;obtain ⟨_,_,_,_,_,_,_,_,_,_,_,_,_,_,_,rfl,-,-⟩:=B;refine ⟨_,_,_,_,_,_,_,_,_,_,_,_,_,_,_,_,_,_,rfl,(fun h=>by cases h),fun _=>⟨by omega,d.le,d.cap,rfl,vJ (V:=H) (x:=fs[j]) l,fun sp J K L=>⟨(C+1,J,_,((j+1:Nat):Int)),by dsimp only;omega,by and_intros<;>rfl,j+1,rfl,i,?_,fun h=>nomatch h⟩⟩⟩;rw [←Qn9 i];exact (d.mono fun _ _ g=>qo.le g (A.trans I)).snoc rfl l (by decide) K L
end Go.Proofs.Tryz
namespace Go.Proofs.Tryz
open Go.Eng Go.Big
def wU:L3×Sp:=((0,0,0),⟨0,0,false,false⟩)
def Lu (a b:L3×Sp):Int:=sU a.1 b.1
theorem LZ:Ord Lu:=⟨fun a b h=>L1.J9 a.1 b.1 h,fun a b d h c=>L1.tr a.1 b.1 d.1 h c⟩
def Hi (V:View)(v:Value)(c:L3×Sp):Prop:=qo V v c.1 c.2/\gL 10000 c.1
theorem Hi.le {V V':View}{v:Value}{c:L3×Sp}(h:Hi V v c)(l:V.Le V'):Hi V' v c:=⟨h.1.le l,h.2⟩
theorem Hi.shape {V:View}{v:Value}{c:L3×Sp}(h:Hi V v c):∃(x y:Int)(p:OA)(xb yb:Int)(pb:OA)(xc yc:Int)(pc:OA)(xd yd:Int)(pd:OA)(xe ye:Int)(pe:OA)(fa fb:Bool),v=.agg #[.int .i64 x,.int .i64 y,.pointer p,.int .i64 xb,.int .i64 yb,.pointer pb,.int .i64 xc,.int .i64 yc,.pointer pc,.int .i64 xd,.int .i64 yd,.pointer pd,.int .i64 xe,.int .i64 ye,.pointer pe,.bool fa,.bool fb]:=by
 obtain ⟨⟨_,_,_,_,_,_,_,_,_,_,_,_,_,_,_,e,-⟩,-⟩:=h;exact ⟨_,_,_,_,_,_,_,_,_,_,_,_,_,_,_,_,_,e⟩
theorem DJ {V:View}{v w:Value}{a b:L3×Sp}(h:Hi V v a)(h':Hi V w b):aa prog 124 #[v,w] V fun r V'=>r=.int .i64 (Lu a b):=by
 obtain ⟨⟨_,_,_,_,_,_,_,_,_,_,_,_,_,_,_,rfl,e,-⟩,hb⟩:=h;obtain ⟨⟨_,_,_,_,_,_,_,_,_,_,_,_,_,_,_,rfl,f,-⟩,c⟩:=h';refine rz _ _ _ _ _ _ _ _ _ _ _ _ _ _ _ _ _ _ _ _ _ _ _ _ _ _ _ _ _ _ _ _ _ _ V _ fun g d=>(yG (e.le d) (f.le d) hb.1 hb.2.1 hb.2.2 c.1 c.2.1 c.2.2).mono ?_;rintro r V2 i rfl;rw [I8];exact ⟨_,rfl,fun j k=>rfl⟩
structure Du (V:View) (n:Nat) (vs:List Value) (l:List (L3×Sp)):Prop where
 row:Row 17 Hi V vs l
 len:n=l.length
 kO:l.length<50
theorem Du.le {V V':View}{n:Nat}{vs:List Value}{l:List (L3×Sp)}(h:Du V n vs l)(e:V.Le V'):Du V' n vs l:=⟨h.row.le fun _ _ g=>Hi.le g e,h.len,h.kO⟩
theorem Du.get {V:View}{n:Nat}{vs:List Value}{l:List (L3×Sp)}(h:Du V n vs l){k:Nat}(hk:k<l.length):∃(x y:Int)(p:OA)(xb yb:Int)(pb:OA)(xc yc:Int)(pc:OA)(xd yd:Int)(pd:OA)(xe ye:Int)(pe:OA)(fa fb:Bool),
  ((0+k*17)+17<=vs.length/\(vs.drop (0+k*17)).take 17=[.int .i64 x,.int .i64 y,.pointer p,.int .i64 xb,.int .i64 yb,.pointer pb,.int .i64 xc,.int .i64 yc,.pointer pc,.int .i64 xd,.int .i64 yd,.pointer pd,.int .i64 xe,.int .i64 ye,.pointer pe,.bool fa,.bool fb])/\Hi V (.agg #[.int .i64 x,.int .i64 y,.pointer p,.int .i64 xb,.int .i64 yb,.pointer pb,.int .i64 xc,.int .i64 yc,.pointer pc,.int .i64 xd,.int .i64 yd,.pointer pd,.int .i64 xe,.int .i64 ye,.pointer pe,.bool fa,.bool fb]) (l.getD k wU):=by
 obtain ⟨xs,-,b,c,f⟩:=h.row.get (d:=wU) hk (by decide);have a:=b;obtain ⟨x,y,p,xb,yb,pb,xc,yc,pc,xd,yd,pd,xe,ye,pe,fa,fb,e⟩:=b.shape;have e:=congrArg Array.toList (Value.agg.inj e);dsimp only at e;subst e;rw [Qy1];exact ⟨x,y,p,xb,yb,pb,xc,yc,pc,xd,yd,pd,xe,ye,pe,fa,fb,⟨c,f⟩,a⟩
theorem Du.swap {V:View}{n:Nat}{vs:List Value}{l:List (L3×Sp)}(h:Du V n vs l){i j:Nat}(hi:i<l.length)(hj:j<l.length){x y:Int}{p:OA}{xb yb:Int}{pb:OA}{xc yc:Int}{pc:OA}{xd yd:Int}{pd:OA}{xe ye:Int}{pe:OA}{fa fb:Bool}{x' y':Int}{p':OA}{T3 Ud:Int}{pb':OA}{Ln Ug:Int}{pc':OA}{T8 yd':Int}{SO:OA}{Ua Ul:Int}{SS:OA}{Rv Rw:Bool}
  (h1:Hi V (.agg #[.int .i64 x,.int .i64 y,.pointer p,.int .i64 xb,.int .i64 yb,.pointer pb,.int .i64 xc,.int .i64 yc,.pointer pc,.int .i64 xd,.int .i64 yd,.pointer pd,.int .i64 xe,.int .i64 ye,.pointer pe,.bool fa,.bool fb]) (l.getD i wU))(h2:Hi V (.agg #[.int .i64 x',.int .i64 y',.pointer p',.int .i64 T3,.int .i64 Ud,.pointer pb',.int .i64 Ln,.int .i64 Ug,.pointer pc',.int .i64 T8,.int .i64 yd',.pointer SO,.int .i64 Ua,.int .i64 Ul,.pointer SS,.bool Rv,.bool Rw]) (l.getD j wU)) :
  (0+i*17)+17<=vs.length/\(0+j*17)+17<=(af vs (0+i*17) [.int .i64 x',.int .i64 y',.pointer p',.int .i64 T3,.int .i64 Ud,.pointer pb',.int .i64 Ln,.int .i64 Ug,.pointer pc',.int .i64 T8,.int .i64 yd',.pointer SO,.int .i64 Ua,.int .i64 Ul,.pointer SS,.bool Rv,.bool Rw]).length /\
  Du V n (af (af vs (0+i*17) [.int .i64 x',.int .i64 y',.pointer p',.int .i64 T3,.int .i64 Ud,.pointer pb',.int .i64 Ln,.int .i64 Ug,.pointer pc',.int .i64 T8,.int .i64 yd',.pointer SO,.int .i64 Ua,.int .i64 Ul,.pointer SS,.bool Rv,.bool Rw]) (0+j*17) [.int .i64 x,.int .i64 y,.pointer p,.int .i64 xb,.int .i64 yb,.pointer pb,.int .i64 xc,.int .i64 yc,.pointer pc,.int .i64 xd,.int .i64 yd,.pointer pd,.int .i64 xe,.int .i64 ye,.pointer pe,.bool fa,.bool fb]) (jM wU l i j):=by
 obtain ⟨-,-,-,a,-⟩:=h.row.get (d:=wU) hi (by decide);obtain ⟨-,-,-,b,-⟩:=h.row.get (d:=wU) hj (by decide);rw [Qy1,Qy1];refine ⟨a,by rw [sE (by exact a)];exact b,h.row.swap hi hj (by decide) rfl rfl h1 h2,by rw [mQ];exact h.len,by rw [mQ];exact h.kO⟩
def Hx (lb n:Nat)(l:List (L3×Sp))(a b:Nat)(V':View)(Q:List (L3×Sp)->Prop):Prop:=∃vs' l',V'.w.heap[lb]?=some (.cells vs'.toArray 104 (0,0))/\Du V' n vs' l'/\gM wU l l' a b/\Q l'
theorem qE {V:View}{lb n c:Nat}{vs:List Value}{l:List (L3×Sp)}(hw:V.w.heap[lb]?=some (.cells vs.toArray 104 (0,0)))(hx:V.X lb)(h:Du V n vs l){a b:Nat}(ni:a<=b)(hb:b<=l.length:=by omega) :
  aa prog 220 #[.slice (some ⟨lb,0,none⟩) n c,.int .i64 a,.int .i64 b,.func (.func 124) #[] #[]] V fun r V'=>r=.tuple #[]/\Hx lb n l a b V' fun l'=>oG Lu wU l' a b:=by
 have kO:=h.kO;have len:=h.len;have wa:i64.wrap ((a:Int)+1)=((a+1:Nat):Int):=by rw [ar (by omega)];omega
 refine fD lb n c vs a b V _ hw hx ⟨fun z V'=>∃(i:Nat)(m:List (L3×Sp)),z.1=(i:Int)/\a<i/\(i<=b\/i=a+1)/\Du V' n z.2 m/\gM wU l m a b/\oG Lu wU m a i,fun z=>(b-z.1).toNat,
  ⟨(_,vs),by and_intros<;>rfl,a+1,l,wa,by omega,.inr rfl,h,.refl _ _ _,.short (by omega)⟩,?_⟩
 rintro ⟨z,us⟩ V1 l1 ⟨i,m,e,a1,q,f,d,o⟩;dsimp only at e f;subst e;dsimp only;have ml:m.length=l.length:=d.len;refine ⟨rfl,fun g=>?_,fun g V6 l6 ML=>⟨rfl,us,m,ML,f.le l6,d,?_⟩⟩
 ·have g:(i:Int)<b:=of_decide_eq_true g;have w2:i64.wrap ((i:Int)+1)=((i+1:Nat):Int):=by rw [ar (by omega)];omega
  rw [w2];refine ⟨fun z V'=>∃(j:Nat)(k:List (L3×Sp)),z.1=(j:Int)/\a<=j/\j<=i/\Du V' n z.2 k/\gM wU l k a b/\J5 Lu wU k a i j,fun z=>z.1.toNat,⟨((i:Int),us),by and_intros<;>rfl,i,m,rfl,by omega,Qq3 _,f,d,.start o⟩,?_⟩;rintro ⟨z,ws⟩ V2 l2 ⟨j,k,e,a2,A,f,d,p⟩;dsimp only at e f;subst e;dsimp only;have kl:k.length=l.length:=d.len;refine ⟨rfl,fun z V'=>V2.Le V'/\(z=true->a<j/\Lu (k.getD j wU) (k.getD (j-1) wU)<0)/\(z=false->j<=a\/¬Lu (k.getD j wU) (k.getD (j-1) wU)<0),⟨fun s=>?_,fun s=>?_⟩,?_⟩
  ·have s:(j:Int)>a:=of_decide_eq_true s;have D:i64.wrap ((j:Int)-1)=((j-1:Nat):Int):=by rw [ar (by omega)];omega
   rw [D,Qq0,Qq0];obtain ⟨E,F,G,H,I,J,K,L,u,M,N,O,P,Q,R,v,S,T,U⟩:=f.get (k:=j) (by omega);obtain ⟨W,Y,Z,T5,Uf,SN,T7,Ui,x,T_,Uk,SQ,Uc,Un,SW,y,Ry,g2,r2⟩:=f.get (k:=j-1) (by omega);refine ⟨⟨by omega,by omega⟩,E,F,G,H,I,J,K,L,u,M,N,O,P,Q,R,v,S,T,⟨by omega,by omega⟩,W,Y,Z,T5,Uf,SN,T7,Ui,x,T_,Uk,SQ,Uc,Un,SW,y,Ry,g2,fun V3 l3=>(DJ (U.le l3) (r2.le l3)).mono ?_⟩;rintro r V4 l4 rfl;exact ⟨_,rfl,_,by and_intros<;>rfl,l3.trans l4,fun h=>⟨by omega,of_decide_eq_true h⟩,fun h=>.inr (of_decide_eq_false h)⟩
  ·have s:¬(j:Int)>a:=of_decide_eq_false s;exact ⟨false,by and_intros<;>rfl,View.Le.refl _,(fun h=>nomatch h),fun _=>.inl (by omega)⟩
  ·rintro t V5 C ⟨lv,t1,t2⟩;refine ⟨rfl,fun ht=>?_,fun ht=>⟨(((i+1:Nat):Int),ws),by dsimp only;omega,by and_intros<;>rfl,i+1,k,rfl,by omega,.inl (by omega),f.le C,d,p.done LZ A (t2 ht)⟩⟩;obtain ⟨s,B⟩:=t1 ht;have D:i64.wrap ((j:Int)-1)=((j-1:Nat):Int):=by rw [ar (by omega)];omega
   rw [D,Qq0,Qq0];obtain ⟨E,F,G,H,I,J,K,L,u,M,N,O,P,Q,R,v,S,T,U⟩:=(f.le C).get (k:=j) (by omega);obtain ⟨W,Y,Z,T5,Uf,SN,T7,Ui,x,T_,Uk,SQ,Uc,Un,SW,y,Ry,g2,r2⟩:=(f.le C).get (k:=j-1) (by omega);obtain ⟨s1,s2,s3⟩:=(f.le C).swap (i:=j) (j:=j-1) (by omega) (by omega) U r2
   exact ⟨⟨by omega,by omega⟩,W,Y,Z,T5,Uf,SN,T7,Ui,x,T_,Uk,SQ,Uc,Un,SW,y,Ry,g2,⟨by omega,by omega⟩,E,F,G,H,I,J,K,L,u,M,N,O,P,Q,R,v,S,T,⟨by omega,by omega⟩,s1,⟨by omega,by omega⟩,s2,(((j-1:Nat):Int),_),by dsimp only;omega,by and_intros<;>rfl,j-1,_,rfl,by omega,by omega,s3,
    d.trans (gM.jM (by omega) (by omega) (by omega) (by omega)),p.move LZ s A (by omega) B⟩
 ·have g:¬(i:Int)<b:=of_decide_eq_false g;rcases q with q|q
  ·rw [show b=i by omega];exact o
  ·exact .short (by omega)
theorem Gd {V:View}{lb n c:Nat}{vs:List Value}{l:List (L3×Sp)}(hw:V.w.heap[lb]?=some (.cells vs.toArray 104 (0,0)))(hx:V.X lb)(h:Du V n vs l)(kO:l.length<20) :
  aa prog 174 #[.slice (some ⟨lb,0,none⟩) n c,.int .i64 n,.func (.func 124) #[] #[]] V fun r V'=>r=.tuple #[]/\Hx lb n l 0 n V' fun l'=>oG Lu wU l' 0 n:=by
 have len:=h.len;refine je lb n c vs n V _ hw hx ⟨fun z _=>z=(0,20,vs),fun _=>0,⟨(0,20,vs),by and_intros<;>rfl,rfl⟩,?_⟩;rintro z x f rfl;dsimp only;refine ⟨rfl,fun d=>absurd (of_decide_eq_true d) (by omega),fun _ g i j k p=>(qE (V:=g.ax [j]) k ⟨by simp,p⟩ (h.le fun b o h=>i b o (f b o h)) (a:=0) (b:=n) (by omega)).mono ?_⟩;rintro r y A ⟨rfl,ws,m,q,e,s,asc⟩;refine ⟨rfl,ws,q,fun z _=>z=(20,ws),fun _=>0,⟨(20,ws),by and_intros<;>rfl,rfl⟩,?_⟩;rintro z B t rfl;dsimp only;exact ⟨rfl,fun d=>absurd (of_decide_eq_true d) (by omega),fun _ C u v=>⟨rfl,ws,m,v,e.le fun b o h=>u b o (t b o h),s,asc⟩⟩
theorem w_ {V:View}{lb n c:Nat}{vs:List Value}{l:List (L3×Sp)}(hw:V.w.heap[lb]?=some (.cells vs.toArray 104 (0,0)))(hx:V.X lb)(h:Du V n vs l)(kO:l.length<20) :
  aa prog 123 #[.slice (some ⟨lb,0,none⟩) n c,.func (.func 124) #[] #[]] V fun r V'=>r=.tuple #[]/\∃vs' l',V'.w.heap[lb]?=some (.cells vs'.toArray 104 (0,0))/\Du V' n vs' l'/\l'.Perm l/\l'.Pairwise fun x y=>¬sU y.1 x.1<0:=by
 have len:=h.len;refine iW lb n c vs V _ hw hx fun e f g k p=>(Gd (V:=e.ax [g]) k ⟨by simp,p⟩ (h.le fun b o h=>f b o h) kO).mono ?_;rintro r V2 A ⟨rfl,ws,m,q,s,d,asc⟩;refine ⟨rfl,ws,q,fun B t a=>⟨rfl,ws,m,a,s.le fun b o h=>t b o h,d.perm,?_⟩⟩;have sl:=d.len;refine Qb2.2 fun i j u v z=>?_;have:=asc i j (by omega) z (by omega);rw [Qw6,Qw6,Qq1 u,Qq1 v] at this;simp only [Qm9] at this;exact this
theorem oR {V:View}:aa prog 123 #[.slice none 0 0,.func (.func 124) #[] #[]] V fun r V'=>r=.tuple #[]:=by
 refine fV V _ fun b j=>?_
 have st:aa prog 174 #[.slice none 0 0,.int .i64 0,.func (.func 124) #[] #[]] b fun r V'=>r=.tuple #[]:=by
  refine gK 0 b _ ⟨fun z _=>z=(0,20),fun _=>0,⟨(0,20),by and_intros<;>rfl,rfl⟩,?_⟩;rintro z V2 d rfl;refine ⟨rfl,fun a=>absurd (of_decide_eq_true a) (by decide),fun _ c k=>?_⟩
  have ins:aa prog 220 #[.slice none 0 0,.int .i64 0,.int .i64 0,.func (.func 124) #[] #[]] c fun r V'=>r=.tuple #[]:=by
   refine eg 0 0 c _ ⟨fun z _=>z=1,fun _=>0,⟨1,by and_intros<;>first|rfl|exact ar (by omega),rfl⟩,?_⟩;rintro z e f rfl;exact ⟨rfl,fun h=>absurd (of_decide_eq_true h) (by omega),fun _ g i=>rfl⟩
  refine ins.mono ?_;rintro r e f rfl;refine ⟨rfl,fun z _=>z=20,fun _=>0,⟨20,by and_intros<;>rfl,rfl⟩,?_⟩;rintro z g i rfl;exact ⟨rfl,fun h=>absurd (of_decide_eq_true h) (by omega),fun _ l m=>rfl⟩
 refine st.mono ?_;rintro r V2 d rfl;exact ⟨rfl,fun n o=>rfl⟩
theorem HP {V:View}{p:OA}{n c:Nat}{fs:List (L3×Sp)}(h:lC 17 oK V p n fs)(hn:fs.length<=1000000)(h0:fs=[]->p=none) :
  aa prog 122 #[.slice p n c] V fun r V'=>∃(bm:Nat)(vs:List Value),(vs≠[]->V'.w.heap[bm]?=some (.cells vs.toArray 104 (0,0)))/\(vs≠[]->V.w.heap.size<=bm) /\
   ∃e,r=.slice (mA bm e) fs.length e/\fs.length<=e/\(vs=[]↔e=0)/\(vs≠[]↔fs≠[])/\Row 17 oK (V'.cu (vs≠[]) bm) vs fs/\V.Le (V'.cu (vs≠[]) bm):=by
 obtain rfl:=h.len;refine qj p _ c V _ ⟨fun g A q=>?_,fun g=>?_⟩
 ·have s:p=none:=by simpa using g
  have e:fs=[]:=by
   rcases fs with-| ⟨x,r⟩
   ·rfl
   ·obtain ⟨B,e,-⟩:=h.at_ 0 (Nat.succ_pos _);rw [s] at e;cases e
  subst e;exact ⟨0,[],fun h=>absurd rfl h,fun h=>absurd rfl h,0,rfl,Qq3 _,⟨fun _=>rfl,fun _=>rfl⟩,⟨fun h=>absurd rfl h,fun h=>absurd rfl h⟩,Row.nil,Gz q fun h=>h rfl⟩
 ·have b:fs≠[]:=fun e=>by rw [h0 e] at g;cases g
  have i:0<fs.length:=List.length_pos_iff.2 b;obtain ⟨xs,t,f,j⟩:=GN h (by decide);refine ⟨xs,t,f,by omega,Qq3 _,Qq3 _,f,fun v hv=>?_,fun C J sp u k D V2 d y hb z=>?_⟩
  ·obtain ⟨m,hm,rfl⟩:=Qh8.1 hv;exact Az j (by decide) (fun xs a g=>vJ g) (m:=m) (by omega) (Qq1 hm)
  rw [Qy1] at k ⊢;have l:V.Le (V2.cu ((([]:List Value).take (0*17)++xs++sp)≠[]) d):=D5 y
  have o:(([]:List Value).take (0*17)++xs++sp)≠[]:=fun e=>by
   have:=congrArg List.length e;rw [Qq5,Qq5,f] at this;simp at this;omega
  exact ⟨d,_,fun _=>hb,fun _=>z.elim id False.elim,u,by rw [mA,if_neg (by omega)],k,⟨fun e=>absurd e o,fun e=>by omega⟩,⟨fun _=>b,fun _=>o⟩,(Ez (vs:=[]) (sp:=sp) Row.nil j (by decide)).le fun _ _ g=>qo.le g l,l⟩
end Go.Proofs.Tryz
