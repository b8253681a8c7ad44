import Derived.Test.YtnnbfoejafcdlaaGreatDoorF14
import Derived.Test.YtnnbfoejafcdlaaGreatDoorF13
import Derived.Test.YtnnbfoejafcdlaaGreatDoorF7
import Derived.Test.YtnnbfoejafcdlaaGreatDoorF5
import Derived.Test.YtnnbfoejafcdlaaGreatDoorF9
import Derived.Laws.IdiomCopy
import Derived.Lib.Overlaps
import Derived.Lib.JoinLaws
import Derived.Lib.AppendZerosOnto
import Derived.Shelf.RegionOpenPlain
import Derived.Lib.Walk
import Derived.Lib.SliceRun
import Derived.Laws.NewBlocks
set_option linter.unusedVariables false
open Go.IntKind (i64 u64 u32)
namespace Go.Proofs.Tryz
open Go.bJ Go.fo
theorem Bc:Sz 2 (((2:Int):Rat)):=⟨by show (2:Int).natAbs<_;decide,by show (1:Nat)<_;decide⟩
theorem ig:Sz 2 (((1:Int):Rat)):=⟨by show (1:Int).natAbs<_;decide,by show (1:Nat)<_;decide⟩
theorem LZ {s:Sp}{k:Nat}(ss:s.sz k):Sz (2*k+10) s.eh:=by
 have z:Sz (2*k+10) (0:Rat):=⟨by show (0:Int).natAbs<_;exact Nat.lt_of_lt_of_le (by decide) (Nat.one_le_two_pow),Nat.one_lt_two_pow (by omega)⟩
 unfold Sp.eh
 split
 ·split
  ·exact z
  ·exact (ss.2.sub ig).mono (by omega)
 ·split
  ·exact (ss.1.add ig).mono (by omega)
  ·exact ((ss.1.add ss.2).mul (eu Bc)).mono (by omega)
theorem nN {V:View}{v w:Value}{x y x' y':Rat}(h:RP V v x y)(h':RP V w x' y'){k:Nat}(s1:Sz k x)(s2:Sz k y)(s3:Sz k x')(s4:Sz k y')(hk:4*k+4<274877906944) :
  ab prog 90 #[v,w] V fun r V'=>RQ V' r (x*y'-y*x'):=by
 obtain ⟨_,_,_,_,_,_,_,_,_,_,_,_,rfl,h1,h2⟩:=h
 obtain ⟨_,_,_,_,_,_,_,_,_,_,_,_,rfl,h3,h4⟩:=h'
 refine wM _ _ _ _ _ _ _ _ _ _ _ _ _ _ _ _ _ _ _ _ _ _ _ _ _ _ _ _ V _ fun V1 l1=>(aN (h1.le l1) (h4.le l1) s1 s4 (by omega)).mono ?_
 rintro r V2 l2 g
 have g0:=g
 obtain ⟨_,_,_,_,_,_,rfl⟩:=g.shape
 refine ⟨_,_,_,_,_,_,_,rfl,fun V3 l3=>(aN (h2.le (l1.trans (l2.trans l3))) (h3.le (l1.trans (l2.trans l3))) s2 s3 (by omega)).mono ?_⟩
 rintro r V4 l4 g'
 have g0':=g'
 obtain ⟨_,_,_,_,_,_,rfl⟩:=g'.shape
 refine ⟨_,_,_,_,_,_,_,rfl,fun V5 l5=>(kb (g0.le (l3.trans (l4.trans l5))) (g0'.le l5) (s1.mul s4) (s2.mul s3) (by omega)).mono ?_⟩
 rintro r V6 l6 q
 have q0:=q
 obtain ⟨_,_,_,_,_,_,rfl⟩:=q.shape
 exact ⟨_,_,_,_,_,_,_,rfl,fun V7 l7=>q0.le l7⟩
theorem OX.raw {V:View}{v:Value}{l:L3}{s:Sp}(h:OX V v l s)(ho:X2 l s){k:Nat}(sl:jV k l)(ss:s.sz k)(hk:k<=1000000):∃f:FW,RK V v f/\f.ok=true/\f.ln=l/\f.sp=s/\f.short:=by
 obtain ⟨b1,p1,n1,c1,b2,p2,n2,c2,b3,p3,n3,c3,b,p,n,c,p',n',c',d,q,m,e,q',m',e',rfl,h1,h2⟩:=h
 obtain ⟨_,_,_,_,_,_,_,_,_,el,x1,x2,x3⟩:=h1
 have el:=congrArg Array.toList (Value.agg.inj el)
 simp only [List.cons.injEq,Value.bool.injEq,Value.slice.injEq,and_true] at el
 obtain ⟨rfl,⟨rfl,rfl,rfl⟩,rfl,⟨rfl,rfl,rfl⟩,rfl,rfl,rfl,rfl⟩:=el
 obtain ⟨_,_,_,_,_,_,_,_,_,_,_,_,_,_,es,y1,y2⟩:=h2
 have es:=congrArg Array.toList (Value.agg.inj es)
 simp only [List.cons.injEq,Value.bool.injEq,Value.slice.injEq,and_true] at es
 obtain ⟨rfl,⟨rfl,rfl,rfl⟩,⟨rfl,rfl,rfl⟩,rfl,⟨rfl,rfl,rfl⟩,⟨rfl,rfl,rfl⟩⟩:=es
 obtain ⟨ok,can,emp⟩:=ho
 obtain ⟨w1,us,vs,r1,o1,e1,z1⟩:=y1.raw can.1
 obtain ⟨w2,ws,ts,r2,o2,e2,z2⟩:=y2.raw can.2
 have i1:=r1
 have i2:=r2
 obtain ⟨_,_,_,_,_,_,f1,-,-⟩:=i1
 obtain ⟨_,_,_,_,_,_,f2,-,-⟩:=i2
 have f1:=congrArg Array.toList (Value.agg.inj f1)
 have f2:=congrArg Array.toList (Value.agg.inj f2)
 simp only [List.cons.injEq,Value.bool.injEq,Value.slice.injEq,and_true] at f1 f2
 obtain ⟨rfl,-⟩:=f1
 obtain ⟨rfl,-⟩:=f2
 have len:∀{z:Int},Sz k (z:Rat)->(ag z.natAbs).length<=1000000:=fun h=>Nat.le_trans (af h.1) hk
 have d1:=z1 k ss.1
 have d2:=z2 k ss.2
 refine ⟨⟨decide (l.1<0),ag l.1.natAbs,decide (l.2.1<0),ag l.2.1.natAbs,decide (l.2.2<0),ag l.2.2.natAbs,b,us,vs,d,ws,ts,s.a,s.b⟩,⟨_,_,_,_,_,_,_,_,_,_,_,_,_,_,_,_,_,_,_,_,_,rfl,⟨_,_,_,_,_,_,_,_,_,rfl,x1,x2,x3⟩,⟨_,_,_,_,_,_,_,_,_,_,_,_,rfl,r1,r2⟩⟩,?_,?_,?_,⟨len sl.1,len sl.2.1,len sl.2.2,Nat.le_trans d1.1 hk,Nat.le_trans d1.2 hk,Nat.le_trans d2.1 hk,Nat.le_trans d2.2 hk⟩⟩
 ·have e3:Ri b us vs d ws ts s.a s.b=s:=by unfold Ri;rw [e1,e2]
  unfold FW.ok okW
  dsimp only
  rw [CT,o1,o2,e3,emp]
  show dP l&&true=true
  rw [ok];rfl
 ·unfold FW.ln XC
  dsimp only
  rw [aF,aF,aF]
 ·unfold FW.sp Ri
  dsimp only
  rw [e1,e2]
theorem Az {c:List Rat}{i:Nat}(h:i<c.length):c.getD i 0=c[i]:=by rw [List.getD_eq_getElem?_getD,List.getElem?_eq_getElem h];rfl
def ic (cuts:List Rat)(i:Nat):Sp:=⟨if 0<i then cuts.getD (i-1) 0 else 0,if i<cuts.length then cuts.getD i 0 else 0,decide (i=0),decide (i=cuts.length)⟩
def I9 (out:List Sp)(s:Sp):List Sp:=out.dropLast++[⟨(out.getLastD Sp.zero).lo,s.hi,(out.getLastD Sp.zero).a,s.b⟩]
def fM (cuts:List Rat)(marks:List Bool):Nat->List Sp
 | 0=>[]
 | i+1=>if marks.getD i false=true then (if 0<i/\marks.getD (i-1) false=true/\0<(fM cuts marks i).length then I9 (fM cuts marks i) (ic cuts i) else fM cuts marks i++[ic cuts i]) else fM cuts marks i
end Go.Proofs.Tryz
namespace Go.Proofs.Tryz
open Go.bJ Go.fo
set_option linter.unusedSectionVars false
def qw (c:List Rat):Prop:=c.Pairwise (·< ·)
section
variable {c:List Rat} (h:qw c)
include h
theorem Ac {i j:Nat}(K9:i<j)(hj:j<c.length):c.getD i 0<c.getD j 0:=by
 rw [Az (by omega),Az hj]
 exact List.pairwise_iff_getElem.1 h i j (by omega) hj K9
omit h
include h
theorem IE {i:Nat}(hi:i<=c.length):(ic c i).jg:=by
 refine ⟨⟨fun e=>?_,fun e=>?_⟩,Sp.kS.2 ?_⟩
 ·have e:i=0:=of_decide_eq_true e
  subst e;rfl
 ·have e:i=c.length:=of_decide_eq_true e
  subst e
  exact if_neg (Nat.lt_irrefl _)
 ·by_cases h0:i=0
  ·exact .inl (decide_eq_true h0)
  ·by_cases h1:i=c.length
   ·exact .inr (.inl (decide_eq_true h1))
   ·refine .inr (.inr ?_)
    show (if 0<i then c.getD (i-1) 0 else 0)<(if i<c.length then c.getD i 0 else 0)
    rw [if_pos (by omega),if_pos (by omega)]
    exact Ac h (by omega) (by omega)
omit h
end
section
variable {c:List Rat} {ms:List Bool}
structure FI (c:List Rat) (ms:List Bool) (i:Nat):Prop where
 r:HY (fM c ms i)
 mem:∀t,t∉c->(Hm (fM c ms i) t↔∃j,j<i/\ms.getD j false=true/\(ic c j).oz t)
 top:0<i->i<=c.length->∀s∈fM c ms i,s.b=false/\s.hi<=c.getD (i-1) 0
 str:0<i->i<=c.length->ms.getD (i-1) false=false->∀s∈fM c ms i,s.hi<c.getD (i-1) 0
 last:0<i->i<=c.length->ms.getD (i-1) false=true->∃l0 l,fM c ms i=l0++[l]/\l.hi=c.getD (i-1) 0
theorem qZ {ss:List Sp}{s:Sp}{t:Rat}:Hm (ss++[s]) t↔Hm ss t\/s.oz t:=by
 unfold Hm
 constructor
 ·rintro ⟨x,hx,hi⟩
  rcases List.mem_append.1 hx with hx|hx
  ·exact .inl ⟨x,hx,hi⟩
  ·obtain rfl:x=s:=by simpa using hx
   exact .inr hi
 ·rintro (⟨x,hx,hi⟩|hi)
  ·exact ⟨x,by simp [hx],hi⟩
  ·exact ⟨s,by simp,hi⟩
theorem Dc {ss:List Sp}{s:Sp}(h:HY ss)(hs:s.jg)(hb:∀x∈ss,x.O3 s):HY (ss++[s]):=by
 refine ⟨fun x hx=>?_,List.pairwise_append.2 ⟨h.2,by simp,fun x hx y hy=>?_⟩⟩
 ·rcases List.mem_append.1 hx with hx|hx
  ·exact h.1 x hx
  ·obtain rfl:x=s:=by simpa using hx
   exact hs
 ·obtain rfl:y=s:=by simpa using hy
  exact hb x hx
theorem JR {ss:List Sp}{s:Sp}(h:HY (ss++[s])):HY ss/\s.jg/\∀x∈ss,x.O3 s:=by
 obtain ⟨h1,-,h3⟩:=List.pairwise_append.1 h.2
 exact ⟨⟨fun x hx=>h.1 x (by simp [hx]),h1⟩,h.1 s (by simp),fun x hx=>h3 x hx s (by simp)⟩
theorem Ay {P:Nat->Prop}{i:Nat}:(∃j,j<i+1/\P j)↔(∃j,j<i/\P j)\/P i:=by
 constructor
 ·rintro ⟨j,hj,hp⟩
  rcases Nat.lt_or_ge j i with h|h
  ·exact .inl ⟨j,h,hp⟩
  ·obtain rfl:j=i:=by omega
   exact .inr hp
 ·rintro (⟨j,hj,hp⟩|hp)
  ·exact ⟨j,by omega,hp⟩
  ·exact ⟨i,by omega,hp⟩
theorem KY (h:qw c){i:Nat}(hi:i<=c.length)(F:FI c ms i):FI c ms (i+1):=by
 have hg:=IE h hi
 have Kv:i<c.length->(ic c i).hi=c.getD i 0:=fun h0=>if_pos h0
 have Kw:0<i->(ic c i).lo=c.getD (i-1) 0:=fun h0=>if_pos h0
 have ga:0<i->(ic c i).a=false:=fun h0=>decide_eq_false (by omega)
 have gb:i<c.length->(ic c i).b=false:=fun h0=>decide_eq_false (by omega)
 by_cases hm:ms.getD i false=true
 ·have hne:¬ms.getD i false=false:=by rw [hm];decide
  by_cases h0:0<i/\ms.getD (i-1) false=true
  ·obtain ⟨l0,l,el,hl⟩:=F.last h0.1 hi h0.2
   have e:fM c ms (i+1)=l0++[⟨l.lo,(ic c i).hi,l.a,(ic c i).b⟩]:=by
    rw [fM,if_pos hm,if_pos ⟨h0.1,h0.2,by rw [el];simp⟩,el]
    simp [I9]
   have F1:=F.r
   rw [el] at F1
   obtain ⟨f1,f2,f3⟩:=JR F1
   have hlb:l.b=false:=(F.top h0.1 hi l (by rw [el];simp)).1
   have hgood:(⟨l.lo,(ic c i).hi,l.a,(ic c i).b⟩:Sp).jg:=by
    refine ⟨⟨f2.1.1,hg.1.2⟩,Sp.kS.2 ?_⟩
    dsimp only
    cases ha:l.a with
    | true=>exact .inl rfl
    | false=>
     cases hb:(ic c i).b with
     | true=>exact .inr (.inl rfl)
     | false=>
      have h1:=CG f2.2 ha hlb
      have h2:=CG hg.2 (ga h0.1) hb
      rw [Kw h0.1] at h2
      exact .inr (.inr (by grind))
   refine ⟨?_,fun t ht=>?_,fun _ hi1 s hs=>?_,fun _ hi1 hx=>?_,fun _ hi1 _=>?_⟩
   ·rw [e]
    exact Dc f1 hgood fun x hx=>⟨(f3 x hx).1,(f3 x hx).2.1,(f3 x hx).2.2⟩
   ·rw [e,Ay,←F.mem t ht,qZ,el,qZ,or_assoc]
    refine or_congr Iff.rfl ?_
    have hk:(ic c i).oz t↔c.getD (i-1) 0<t/\((ic c i).b=true\/t<(ic c i).hi):=by
     unfold Sp.oz;rw [ga h0.1,Kw h0.1];simp
    have hne':t≠c.getD (i-1) 0:=by
     rintro rfl
     rw [Az (by omega)] at ht
     exact ht (List.getElem_mem _)
    rw [hk]
    show (l.a=true\/l.lo<t)/\((ic c i).b=true\/t<(ic c i).hi)↔((l.a=true\/l.lo<t)/\(l.b=true\/t<l.hi))\/_
    rw [hl,hlb]
    have h1:l.a=true\/l.lo<c.getD (i-1) 0:=by
     cases ha:l.a with
     | true=>exact .inl rfl
     | false=>have:=CG f2.2 ha hlb;rw [hl] at this;exact .inr this
    have h2:(ic c i).b=true\/c.getD (i-1) 0<(ic c i).hi:=by
     cases hb:(ic c i).b with
     | true=>exact .inl rfl
     | false=>have:=CG hg.2 (ga h0.1) hb;rw [Kw h0.1] at this;exact .inr this
    constructor
    ·rintro ⟨g1,g2⟩
     by_cases g:t<c.getD (i-1) 0
     ·exact .inl ⟨g1,.inr g⟩
     ·exact .inr ⟨hm,by grind,g2⟩
    ·rintro (⟨g1,g2⟩|⟨-,g1,g2⟩)
     ·have g3:t<c.getD (i-1) 0:=by
       rcases g2 with g2|g2
       ·cases g2
       ·exact g2
      exact ⟨g1,h2.imp_right fun h2=>by grind⟩
     ·exact ⟨h1.imp_right fun h1=>by grind,g2⟩
   ·rw [e] at hs
    rw [Nat.add_sub_cancel]
    rcases List.mem_append.1 hs with hs|hs
    ·have b:=f3 s hs
     refine ⟨b.1,?_⟩
     have h1:l.lo<c.getD (i-1) 0:=by have:=CG f2.2 b.2.1 hlb;rwa [hl] at this
     have h2:=Ac h (show i-1<i by omega) hi1
     have:=b.2.2
     grind
    ·obtain rfl:s=_:=by simpa using hs
     refine ⟨gb hi1,?_⟩
     show (ic c i).hi<=_
     rw [Kv hi1];grind
   ·rw [Nat.add_sub_cancel] at hx;exact absurd hx hne
   ·rw [Nat.add_sub_cancel]
    exact ⟨l0,_,e,Kv hi1⟩
  ·have e:fM c ms (i+1)=fM c ms i++[ic c i]:=by
    rw [fM,if_pos hm,if_neg (fun g=>h0 ⟨g.1,g.2.1⟩)]
   have hb:∀x∈fM c ms i,x.O3 (ic c i):=fun x hx=>by
    by_cases hz:0<i
    ·have Zv:ms.getD (i-1) false=false:=by
      cases hq:ms.getD (i-1) false with
      | false=>rfl
      | true=>exact absurd ⟨hz,hq⟩ h0
     exact ⟨(F.top hz hi x hx).1,ga hz,by rw [Kw hz];exact F.str hz hi Zv x hx⟩
    ·obtain rfl:i=0:=by omega
     cases hx
   refine ⟨?_,fun t ht=>?_,fun _ hi1 s hs=>?_,fun _ hi1 hx=>?_,fun _ hi1 _=>?_⟩
   ·rw [e];exact Dc F.r hg hb
   ·rw [e,Ay,←F.mem t ht,qZ]
    exact or_congr Iff.rfl ⟨fun g=>⟨hm,g⟩,fun g=>g.2⟩
   ·rw [e] at hs
    rw [Nat.add_sub_cancel]
    rcases List.mem_append.1 hs with hs|hs
    ·refine ⟨(hb s hs).1,?_⟩
     by_cases hz:0<i
     ·have h1:=(F.top hz hi s hs).2
      have h2:=Ac h (show i-1<i by omega) hi1
      grind
     ·obtain rfl:i=0:=by omega
      cases hs
    ·obtain rfl:s=_:=by simpa using hs
     refine ⟨gb hi1,?_⟩
     rw [Kv hi1];grind
   ·rw [Nat.add_sub_cancel] at hx;exact absurd hx hne
   ·rw [Nat.add_sub_cancel]
    exact ⟨_,_,e,Kv hi1⟩
 ·have e:fM c ms (i+1)=fM c ms i:=by rw [fM,if_neg hm]
  have hlt:i<c.length->∀s∈fM c ms i,s.b=false/\s.hi<c.getD i 0:=fun hi1 s hs=>by
   by_cases hz:0<i
   ·obtain ⟨h1,h2⟩:=F.top hz hi s hs
    have h3:=Ac h (show i-1<i by omega) hi1
    exact ⟨h1,by grind⟩
   ·obtain rfl:i=0:=by omega
    cases hs
  refine ⟨by rw [e];exact F.r,fun t ht=>?_,fun _ hi1 s hs=>?_,fun _ hi1 hx s hs=>?_,fun _ hi1 hx=>?_⟩
  ·rw [e,Ay,F.mem t ht]
   exact ⟨.inl,fun g=>g.elim id fun g=>absurd g.1 hm⟩
  ·rw [e] at hs
   rw [Nat.add_sub_cancel]
   obtain ⟨h1,h2⟩:=hlt hi1 s hs
   exact ⟨h1,by grind⟩
  ·rw [e] at hs
   rw [Nat.add_sub_cancel]
   exact (hlt hi1 s hs).2
  ·rw [Nat.add_sub_cancel] at hx;exact absurd hx hm
theorem fi (h:qw c):∀{i:Nat},i<=c.length+1->FI c ms i:=by
 intro i
 induction i with
 | zero=>exact fun _=>⟨⟨(fun _ h=>by cases h),List.Pairwise.nil⟩,(fun t _=>⟨(fun ⟨_,h,_⟩=>by cases h),(fun ⟨_,h,_⟩=>absurd h (Nat.not_lt_zero _))⟩),(fun h=>absurd h (Nat.lt_irrefl _)),(fun h=>absurd h (Nat.lt_irrefl _)),(fun h=>absurd h (Nat.lt_irrefl _))⟩
 | succ i ih=>exact fun hi=>KY h (by omega) (ih (by omega))
end
end Go.Proofs.Tryz
namespace Go.Proofs.Tryz
open Go.bJ Go.fo
theorem CL {s u:Sp}{t:Rat}:(s.meet u).oz t↔s.oz t/\u.oz t:=by
 have h1:CJ s.lo u.lo<t↔s.lo<t/\u.lo<t:=by
  unfold CJ
  rcases mW u.lo s.lo with ⟨h,e⟩|⟨h,e⟩|⟨h,e⟩<;>rw [e]<;>simp<;>grind
 have h2:t<CN s.hi u.hi↔t<s.hi/\t<u.hi:=by
  unfold CN
  rcases mW u.hi s.hi with ⟨h,e⟩|⟨h,e⟩|⟨h,e⟩<;>rw [e]<;>simp<;>grind
 unfold Sp.oz Sp.meet
 cases s.a<;>cases s.b<;>cases u.a<;>cases u.b<;>simp [h1,h2]<;>grind
theorem oe {l:L3}(h:Nz l)(t:Rat):ax l (i_ l t) (je l t)=0/\AQ l (i_ l t) (je l t)=t:=by
 have hn:=h.norm
 have hi:=Rat.mul_inv_cancel _ hn
 unfold ax AQ i_ je
 unfold fT at *
 constructor<;>grind
theorem ON {l m:L3}(h:aU l m≠0):ax l (Gb l m) (Gc l m)=0/\ax m (Gb l m) (Gc l m)=0:=by
 have hi:=Rat.mul_inv_cancel _ h
 unfold ax Gb Gc
 constructor
 ·have e:(l.1:Rat)*(((l.2.1:Rat)*(m.2.2:Rat)-(l.2.2:Rat)*(m.2.1:Rat))*(aU l m)⁻¹)+(l.2.1:Rat)*(((l.2.2:Rat)*(m.1:Rat)-(l.1:Rat)*(m.2.2:Rat))*(aU l m)⁻¹)+(l.2.2:Rat)=(l.2.2:Rat)*(1-aU l m*(aU l m)⁻¹):=by
   generalize hc:(aU l m)⁻¹=c
   unfold aU
   grind
  rw [e,hi];grind
 ·have e:(m.1:Rat)*(((l.2.1:Rat)*(m.2.2:Rat)-(l.2.2:Rat)*(m.2.1:Rat))*(aU l m)⁻¹)+(m.2.1:Rat)*(((l.2.2:Rat)*(m.1:Rat)-(l.1:Rat)*(m.2.2:Rat))*(aU l m)⁻¹)+(m.2.2:Rat)=(m.2.2:Rat)*(1-aU l m*(aU l m)⁻¹):=by
   generalize hc:(aU l m)⁻¹=c
   unfold aU
   grind
  rw [e,hi];grind
theorem FN (l:L3):lP (lP l)=lP l:=by
 unfold lP
 by_cases h:l.1<0\/l.1=0/\l.2.1<0
 ·rw [if_pos h,if_neg]
  unfold iR
  dsimp only
  omega
 ·rw [if_neg h,if_neg h]
theorem Ju {l:L3}(h:dP l=true):dP (lP l)=true:=by
 unfold lP
 split
 ·unfold dP iR gP at *
  simp only [Int.natAbs_neg]
  rw [Bool.and_eq_true,decide_eq_true_iff,decide_eq_true_iff] at h ⊢
  exact ⟨fun e=>h.1 ⟨by omega,by omega⟩,h.2⟩
 ·exact h
theorem mq {l:L3}(h:dP l=true):¬(l.1=0/\l.2.1=0):=by
 unfold dP at h
 rw [Bool.and_eq_true,decide_eq_true_iff] at h
 exact h.1
theorem pD {s:Sp}:s.emp=false↔∃t,s.oz t:=by
 constructor
 ·intro h
  obtain ⟨h1,h2⟩:=Sp.Gq h
  refine ⟨s.eh,?_,?_⟩
  ·cases ha:s.a
   ·exact .inr (h1 ha)
   ·exact .inl rfl
  ·cases hb:s.b
   ·exact .inr (h2 hb)
   ·exact .inl rfl
 ·rintro ⟨t,h1,h2⟩
  rw [Sp.kS]
  rcases h1 with h1|h1
  ·exact .inl h1
  ·rcases h2 with h2|h2
   ·exact .inr (.inl h2)
   ·exact .inr (.inr (by grind))
theorem jr {l:L3}{s:Sp}{m:L3} :
  (dR l s m=true->∀t,(du l s m).oz t↔s.oz t/\0<ax m (i_ l t) (je l t))/\(s.emp=false->dR l s m=false->∀t,s.oz t->¬0<ax m (i_ l t) (je l t)):=by
 have key:dY m l≠0->∀t,(du l s m).oz t↔s.oz t/\0<jY m l+dY m l*t:=fun hd t=>by
  have hi:=Rat.mul_inv_cancel _ hd
  unfold du
  rcases nh (dY m l) with ⟨h,e⟩|⟨h,e⟩|⟨h,e⟩
  ·exact absurd h hd
  ·rw [e]
   show (s.meet ⟨dX m l,0,false,true⟩).oz t↔_
   rw [CL]
   have e2:dY m l*(t-dX m l)=jY m l+dY m l*t:=by unfold dX;grind
   have:(⟨dX m l,0,false,true⟩:Sp).oz t↔dX m l<t:=by unfold Sp.oz;simp
   rw [this,←e2]
   refine and_congr_right fun _=>⟨fun h'=>Rat.mul_pos h (by grind),fun h'=>?_⟩
   by_cases c:dX m l<t
   ·exact c
   ·have:=Rat.mul_nonneg (show 0<=dY m l by grind) (show 0<=dX m l-t by grind)
    grind
  ·rw [e]
   show (s.meet ⟨0,dX m l,true,false⟩).oz t↔_
   rw [CL]
   have e2:-dY m l*(dX m l-t)=jY m l+dY m l*t:=by unfold dX;grind
   have:(⟨0,dX m l,true,false⟩:Sp).oz t↔t<dX m l:=by unfold Sp.oz;simp
   rw [this,←e2]
   refine and_congr_right fun _=>⟨fun h'=>Rat.mul_pos (by grind) (by grind),fun h'=>?_⟩
   by_cases c:t<dX m l
   ·exact c
   ·have:=Rat.mul_nonneg (show 0<=-dY m l by grind) (show 0<=t-dX m l by grind)
    grind
 by_cases hd:dY m l=0
 ·have ec:du l s m=s:=by unfold du;rw [hd];rfl
  have eb:dR l s m=decide ((jY m l).num.sign>0):=by unfold dR;rw [hd];rfl
  constructor
  ·intro hb t
   rw [ec,v_,hd]
   rw [eb] at hb
   have hb:(jY m l).num.sign>0:=by simpa using hb
   have:0<jY m l:=by
    rcases nh (jY m l) with ⟨h,e⟩|⟨h,e⟩|⟨h,e⟩
    ·omega
    ·exact h
    ·omega
   exact ⟨fun h=>⟨h,by grind⟩,fun h=>h.1⟩
  ·intro _ hb t _ hp
   rw [v_,hd] at hp
   rw [eb] at hb
   have hb:¬(jY m l).num.sign>0:=by simpa using hb
   rcases nh (jY m l) with ⟨h,e⟩|⟨h,e⟩|⟨h,e⟩
   ·grind
   ·omega
   ·grind
 ·have eb:dR l s m=!(du l s m).emp:=by
   unfold dR
   rcases nh (dY m l) with ⟨h,e⟩|⟨h,e⟩|⟨h,e⟩
   ·exact absurd h hd
   ·rw [e];rfl
   ·rw [e];rfl
  constructor
  ·intro _ t
   rw [v_];exact key hd t
  ·intro _ hb t ht hp
   rw [v_] at hp
   rw [eb] at hb
   have:=pD.2 ⟨t,(key hd t).2 ⟨ht,hp⟩⟩
   rw [this] at hb;cases hb
theorem ke {l:L3}{s:Sp}{m:L3}(hs:s.jg)(hb:dR l s m=true):(du l s m).jg:=⟨Is hs.1,Ir hs.2 hb⟩
abbrev Sd:=L3×Sp
def dk:List Sd->L3->Sp->Option Sp
 | [],_,v=>some v
 | s::c,l,v=>if dR l v s.1 then dk c l (du l v s.1) else none
theorem zH:∀{c:List Sd} {l:L3} {v w:Sp},v.jg->dk c l v=some w->w.jg/\∀t,w.oz t↔v.oz t/\∀s∈c,0<ax s.1 (i_ l t) (je l t)
 | [],_,v,w,h,e=>by cases e;exact ⟨h,fun t=>⟨fun g=>⟨g,fun s hs=>by cases hs⟩,fun g=>g.1⟩⟩
 | s::c,l,v,w,h,e=>by
  unfold dk at e
  split at e
  ·rename_i hb
   obtain ⟨g1,g2⟩:=zH (ke h hb) e
   refine ⟨g1,fun t=>?_⟩
   rw [g2,(jr.1 hb t)]
   simp only [List.forall_mem_cons,and_assoc]
  ·cases e
theorem zG:∀{c:List Sd} {l:L3} {v:Sp},v.jg->dk c l v=none->∀t,v.oz t->¬∀s∈c,0<ax s.1 (i_ l t) (je l t)
 | [],_,v,h,e=>by cases e
 | s::c,l,v,h,e=>by
  intro t ht hall
  unfold dk at e
  split at e
  ·rename_i hb
   exact zG (ke h hb) e t ((jr.1 hb t).2 ⟨ht,hall s (List.mem_cons_self ..)⟩) fun u hu=>hall u (List.mem_cons_of_mem _ hu)
  ·rename_i hb
   exact jr.2 h.2 (by simpa using hb) t ht (hall s (List.mem_cons_self ..))
theorem uE (l:L3):lP l=l\/lP l=iR l:=by unfold lP;split;exact .inr rfl;exact .inl rfl
theorem rev_rev (l:L3):iR (iR l)=l:=by unfold iR;simp
theorem FT (l:L3):aq.ar (iR l)=(-(aq.ar l).1,-(aq.ar l).2):=by unfold aq.ar iR;simp only [Rat.intCast_neg]
theorem ET {l:L3}(h:dP l=true):(aq.ar l).1≠0\/(aq.ar l).2≠0:=by
 have:=mq h
 unfold aq.ar
 by_cases e:l.2.1=0
 ·right;intro e'
  have:(l.1:Rat)=0:=by grind
  exact mq h ⟨by exact_mod_cast this,e⟩
 ·left;show (l.2.1:Rat)≠0;exact_mod_cast e
theorem MT {l m:L3}(ol:dP l=true)(om:dP m=true){p:aq.V2}(h1:ax l p.1 p.2=0)(h2:ax m p.1 p.2=0)(hc:aq.cr (aq.ar l) (aq.ar m)=0):l=m\/l=iR m:=by
 have vz:∀{x:L3},ax x p.1 p.2=0->ax (lP x) p.1 p.2=0:=fun {x} h=>by
  rcases uE x with e|e<;>rw [e]
  ·exact h
  ·rw [val_rev];grind
 have c0:aq.cr (aq.ar (lP l)) (aq.ar (lP m))=0:=by
  unfold aq.cr at *
  rcases uE l with e|e<;>rcases uE m with e'|e'<;>rw [e,e']<;>(try rw [FT l])<;>(try rw [FT m])<;>(try dsimp only)<;>grind
 have:=aq.HF (Ju ol) (Ju om) (FN l) (FN m) (vz h1) (vz h2) c0
 rcases uE l with e|e<;>rcases uE m with e'|e'<;>rw [e,e'] at this
 ·exact .inl this
 ·exact .inr this
 ·right;rw [←this,rev_rev]
 ·left;have:=congrArg iR this;rwa [rev_rev,rev_rev] at this
theorem Iv {M:List L3}(hk:∀m∈M,dP m=true){q:aq.V2}(hq:aq.pos M q):aq.Sx M:=by
 intro l hl m hm hne p h1 h2 hc
 rcases MT (hk l hl) (hk m hm) h1 h2 hc with e|e
 ·exact hne e
 ·have a:=hq l hl
  have b:=hq m hm
  rw [e,val_rev] at a
  grind
theorem tS {l:L3}(h:Nz l){x y:Rat}(hp:ax l x y=0):∃t,x=i_ l t/\y=je l t:=by
 have hi:=Rat.mul_inv_cancel _ h.norm
 unfold ax at hp
 refine ⟨AQ l x y,?_,?_⟩
 ·unfold i_ AQ fT at *;grind
 ·unfold je AQ fT at *;grind
def bF:Sp:=⟨0,0,true,true⟩
theorem kf:bF.jg:=⟨⟨fun _=>rfl,fun _=>rfl⟩,rfl⟩
theorem uY (t:Rat):bF.oz t:=⟨.inl rfl,.inl rfl⟩
structure hJ (M:List L3) (c:List Sd):Prop where
 pos:∃q,aq.pos M q
 mem:∀s∈c,s.1∈M/\s.2.jg/\∀t,s.2.oz t↔∀m∈M,m≠s.1->0<ax m (i_ s.1 t) (je s.1 t)
 all:∀l∈M,aq.Es M l->∃v,(l,v)∈c
 qw:c.Pairwise fun s u=>aq.cH (aq.ar s.1) (aq.ar u.1)<0
def mh (x:Sd):List Sd->List Sd
 | []=>[x]
 | s::r=>if aq.cH (aq.ar s.1) (aq.ar x.1)<0 then s::mh x r else x::s::r
def lQ (c:List Sd)(l:L3):List Sd:=c.filterMap fun s=>if dR s.1 s.2 l then some (s.1,du s.1 s.2 l) else none
def eL:List Sd->L3->Int
 | [],_=>-1
 | s::c,l=>if (ax l (i_ s.1 s.2.eh) (je s.1 s.2.eh)).num.sign≠0 then (ax l (i_ s.1 s.2.eh) (je s.1 s.2.eh)).num.sign else if s.1=l then 1 else eL c l
def cI (c:List Sd)(l:L3):Option (List Sd):=
 match dk c l bF with
 | some v=>some (mh (l,v) (lQ c l))
 | none=>if 0<eL c l then some c else none
theorem mi {x y:Sd}:∀{r:List Sd},y∈mh x r↔y=x\/y∈r
 | []=>by simp [mh]
 | s::r=>by
  unfold mh
  split
  ·rw [List.mem_cons,mi,List.mem_cons];exact or_left_comm
  ·rw [List.mem_cons]
theorem z_ {a b d:aq.V2}(h:aq.cH a b<0)(h':aq.cH b d<0):aq.cH a d<0:=by
 by_cases q:aq.cH a d<0
 ·exact q
 ·exact absurd h (aq.ug _ _ _ q (aq.tK _ _ h'))
theorem Cz {x:Sd}:∀{r:List Sd},(r.Pairwise fun s u=>aq.cH (aq.ar s.1) (aq.ar u.1)<0)->(∀s∈r,aq.cH (aq.ar s.1) (aq.ar x.1)≠0)->(mh x r).Pairwise fun s u=>aq.cH (aq.ar s.1) (aq.ar u.1)<0
 | [],_,_=>List.pairwise_singleton ..
 | s::r,h,hn=>by
  obtain ⟨h1,h2⟩:=List.pairwise_cons.1 h
  unfold mh
  split
  ·rename_i hs
   refine List.pairwise_cons.2 ⟨fun y hy=>?_,Cz h2 fun u hu=>hn u (List.mem_cons_of_mem _ hu)⟩
   rcases mi.1 hy with rfl|hy
   ·exact hs
   ·exact h1 y hy
  ·rename_i hs
   have hx:aq.cH (aq.ar x.1) (aq.ar s.1)<0:=by
    rcases aq.ue (aq.ar s.1) (aq.ar x.1) with g|g|g
    ·exact absurd g hs
    ·exact absurd g (hn s (List.mem_cons_self ..))
    ·exact g
   refine List.pairwise_cons.2 ⟨fun y hy=>?_,h⟩
   rcases List.mem_cons.1 hy with rfl|hy
   ·exact hx
   ·exact z_ hx (h1 y hy)
theorem Cj {c:List Sd}{l:L3}{y:Sd}:y∈lQ c l↔∃s∈c,dR s.1 s.2 l=true/\y=(s.1,du s.1 s.2 l):=by
 unfold lQ
 rw [List.mem_filterMap]
 constructor
 ·rintro ⟨s,hs,e⟩
  split at e
  ·rename_i hb;cases e;exact ⟨s,hs,hb,rfl⟩
  ·cases e
 ·rintro ⟨s,hs,hb,rfl⟩
  exact ⟨s,hs,by rw [if_pos hb]⟩
theorem Ci {c:List Sd}{l:L3}(h:c.Pairwise fun s u=>aq.cH (aq.ar s.1) (aq.ar u.1)<0):(lQ c l).Pairwise fun s u=>aq.cH (aq.ar s.1) (aq.ar u.1)<0:=by
 unfold lQ
 refine List.Pairwise.filterMap _ ?_ h
 intro a b xG x hx y hy
 split at hx
 ·split at hy
  ·cases hx;cases hy;exact xG
  ·cases hy
 ·cases hx
theorem CY {l s:L3}(hl:aq.nz (aq.ar s))(h:aq.cH (aq.ar s) (aq.ar l)=0){p r:aq.V2}(p0:ax l p.1 p.2=0)(p1:0<ax s p.1 p.2)(r0:ax s r.1 r.2=0)(r1:0<ax l r.1 r.2):False:=by
 obtain ⟨c,c0,e⟩:=aq.BO hl h
 have e1:(s.2.1:Rat)=c*(l.2.1:Rat):=congrArg Prod.fst e
 have e2:-(s.1:Rat)=c*-(l.1:Rat):=congrArg Prod.snd e
 have e2:(s.1:Rat)=c*(l.1:Rat):=by grind
 have key:∀x:aq.V2,ax s x.1 x.2=c*(ax l x.1 x.2-(l.2.2:Rat))+(s.2.2:Rat):=fun x=>by unfold ax;rw [e1,e2];grind
 have k:=aq.mp c0 r1
 rw [key] at p1 r0
 rw [p0] at p1
 generalize ax l r.1 r.2=z at *
 grind
section
variable {M:List L3} {c:List Sd} (h:hJ M c) (hk:∀m ∈ M,dP m=true)
include h hk
theorem hJ.int {p:aq.V2}(hp:∀s∈c,0<ax s.1 p.1 p.2):aq.pos M p:=by
 obtain ⟨q,hq⟩:=h.pos
 refine aq.WA (Iv hk hq) (fun m hm=>ET (hk m hm)) hq fun m hm he=>?_
 obtain ⟨v,hv⟩:=h.all m hm he
 exact hp _ hv
theorem G4 {l:L3}(hl:dP l=true){v:Sp}(e:dk c l bF=some v):hJ (l::M) (mh (l,v) (lQ c l)):=by
 have hN:Nz l:=mq hl
 obtain ⟨gv,hv⟩:=zH kf e
 have ny:∀t,v.oz t↔aq.pos M (i_ l t,je l t):=fun t=>⟨fun g=>h.int hk ((hv t).1 g).2,fun g=>(hv t).2 ⟨uY t,fun s hs=>g s.1 (h.mem s hs).1⟩⟩
 obtain ⟨t0,ht0⟩:=pD.1 gv.2
 have p0:=(ny t0).1 ht0
 have z0:=(oe hN t0).1
 have lM:l∉M:=fun hm=>by have:=p0 l hm;dsimp only at this;grind
 have ne:∀m∈M,m≠l:=fun m hm e=>lM (e▸hm)
 obtain ⟨q,hq,Zy,-⟩:=aq.Eu (M:=M) (x:=(i_ l t0,je l t0)) (ET hl) z0 (fun m hm _=>p0 m hm) [] (fun m hm=>by cases hm)
 have QD:∀s∈lQ c l,s.1∈M/\s.2.jg/\∀t,s.2.oz t↔∀m∈l::M,m≠s.1->0<ax m (i_ s.1 t) (je s.1 t):=fun s hs=>by
  obtain ⟨s0,h0,hb,rfl⟩:=Cj.1 hs
  obtain ⟨m1,m2,m3⟩:=h.mem s0 h0
  refine ⟨m1,ke m2 hb,fun t=>?_⟩
  dsimp only
  rw [jr.1 hb t,m3 t,List.forall_mem_cons]
  exact ⟨fun g=>⟨fun _=>g.2,g.1⟩,fun g=>⟨g.2,g.1 (fun e=>ne _ m1 e.symm)⟩⟩
 refine ⟨⟨q,List.forall_mem_cons.2 ⟨Zy,hq⟩⟩,fun s hs=>?_,fun l' hl' he=>?_,Cz (Ci h.qw) fun s hs e0=>?_⟩
 ·rcases mi.1 hs with rfl|hs
  ·refine ⟨List.mem_cons_self ..,gv,fun t=>?_⟩
   rw [ny t,List.forall_mem_cons]
   exact ⟨fun g=>⟨fun h=>absurd rfl h,fun m hm _=>g m hm⟩,fun g m hm=>g.2 m hm (ne m hm)⟩
  ·obtain ⟨a,b⟩:=QD s hs
   exact ⟨List.mem_cons_of_mem _ a,b⟩
 ·rcases List.mem_cons.1 hl' with rfl|hl'
  ·exact ⟨v,mi.2 (.inl rfl)⟩
  ·obtain ⟨p,pz,hp⟩:=he
   obtain ⟨w,hw⟩:=h.all l' hl' ⟨p,pz,fun m hm hne=>hp m (List.mem_cons_of_mem _ hm) hne⟩
   obtain ⟨m1,m2,m3⟩:=h.mem _ hw
   obtain ⟨t,e1,e2⟩:=tS (mq (hk l' hl')) pz
   have hb:dR l' w l=true:=by
    cases hb:dR l' w l
    ·exfalso
     refine jr.2 m2.2 hb t ((m3 t).2 fun m hm hne=>?_) ?_
     ·dsimp only;rw [←e1,←e2];exact hp m (List.mem_cons_of_mem _ hm) hne
     ·rw [←e1,←e2];exact hp l (List.mem_cons_self ..) (fun e=>lM (e▸hl'))
    ·rfl
   exact ⟨du l' w l,mi.2 (.inr (Cj.2 ⟨_,hw,hb,rfl⟩))⟩
 ·obtain ⟨m1,m2,m3⟩:=QD s hs
  obtain ⟨t,ht⟩:=pD.1 m2.2
  have hr:=(m3 t).1 ht l (List.mem_cons_self ..) (fun e=>ne _ m1 e.symm)
  exact CY (ET (hk _ m1)) e0 (p:=(i_ l t0,je l t0)) (r:=(i_ s.1 t,je s.1 t)) z0 (p0 _ m1) (oe (mq (hk _ m1)) t).1 hr
omit h in
theorem qL {l:L3}(hl:dP l=true)(hno:∀x:aq.V2,ax l x.1 x.2=0->¬aq.pos M x){q:aq.V2}(hq:aq.pos M q){s:L3}(hs:s∈M){x:aq.V2}(xz:ax s x.1 x.2=0)(hx:∀m∈M,m≠s->0<ax m x.1 x.2) :
  (0<ax l q.1 q.2->0<ax l x.1 x.2\/s=l)/\(ax l q.1 q.2<0->ax l x.1 x.2<0\/ax l x.1 x.2=0/\s≠l):=by
 have side:∀g:L3,(∀x:aq.V2,ax g x.1 x.2=0->¬aq.pos M x)->0<ax g q.1 q.2->∀y:aq.V2,ax s y.1 y.2=0->(∀m∈M,m≠s->0<ax m y.1 y.2)->¬ax g y.1 y.2<0:=fun g hno gq y yz hy hneg=>by
  obtain ⟨q',h1,-,h3⟩:=aq.Eu (ET (hk s hs)) yz hy [iR g] (fun m hm=>by rcases List.mem_singleton.1 hm with rfl;rw [val_rev];grind)
  have h3:=h3 _ (List.mem_singleton.2 rfl)
  rw [val_rev] at h3
  have:=aq.CU hno hq h1 gq
  grind
 constructor
 ·intro hp
  by_cases c1:0<ax l x.1 x.2
  ·exact .inl c1
  right
  have z:ax l x.1 x.2=0:=by have:=side l hno hp x xz hx;grind
  by_cases e:s=l
  ·exact e
  exfalso
  have YM:aq.cr (aq.ar l) (aq.ar s)≠0:=fun e0=>by
   rcases MT hl (hk s hs) z xz e0 with g|g
   ·exact e g.symm
   ·rw [g,val_rev] at hp
    have:=hq s hs
    grind
  have step:∀d:aq.V2,aq.nv s d=0->aq.nv l d<0->False:=fun d d0 d1=>by
   obtain ⟨r,r0,hr⟩:=aq.A8 ((M.filter fun m=>decide (m≠s)).map fun m=>(ax m x.1 x.2,aq.nv m d)) (fun y hy=>by
    obtain ⟨m,hm,rfl⟩:=List.mem_map.1 hy
    have:=List.mem_filter.1 hm
    exact hx m this.1 (by simpa using this.2))
   refine side l hno hp (x.1+r*d.1,x.2+r*d.2) ?_ (fun m hm hne=>?_) ?_
   ·rw [aq.ik,xz,d0];grind
   ·rw [aq.ik]
    exact hr (ax m x.1 x.2,aq.nv m d) (List.mem_map.2 ⟨m,List.mem_filter.2 ⟨hm,by simpa using hne⟩,rfl⟩)
   ·rw [aq.ik,z]
    have:=aq.mp r0 (show -aq.nv l d>0 by grind)
    grind
  have s0:aq.nv s (aq.ar s)=0:=by rw [aq.Gh];exact aq.FR _
  have ls:aq.nv l (aq.ar s)≠0:=by rw [aq.Gh];exact YM
  by_cases c2:aq.nv l (aq.ar s)<0
  ·exact step _ s0 c2
  ·have e1:aq.nv s (-(aq.ar s).1,-(aq.ar s).2)=-aq.nv s (aq.ar s):=by unfold aq.nv;dsimp only;grind
   have e2:aq.nv l (-(aq.ar s).1,-(aq.ar s).2)=-aq.nv l (aq.ar s):=by unfold aq.nv;dsimp only;grind
   exact step (-(aq.ar s).1,-(aq.ar s).2) (by rw [e1,s0];grind) (by rw [e2];grind)
 ·intro hp
  have:=side (iR l) (fun x hx=>hno x (by rw [val_rev] at hx;grind)) (by rw [val_rev];grind) x xz hx
  rw [val_rev] at this
  by_cases c1:ax l x.1 x.2<0
  ·exact .inl c1
  ·refine .inr ⟨by grind,fun e=>?_⟩
   have:=hq s hs
   rw [e] at this
   grind
theorem sw {s:Sd}(hs:s∈c):ax s.1 (i_ s.1 s.2.eh) (je s.1 s.2.eh)=0/\∀m∈M,m≠s.1->0<ax m (i_ s.1 s.2.eh) (je s.1 s.2.eh):=by
 obtain ⟨m1,m2,m3⟩:=h.mem s hs
 refine ⟨(oe (mq (hk _ m1)) _).1,(m3 _).1 ?_⟩
 obtain ⟨h1,h2⟩:=Sp.Gq m2.2
 constructor
 ·cases ha:s.2.a
  ·exact .inr (h1 ha)
  ·exact .inl rfl
 ·cases hb:s.2.b
  ·exact .inr (h2 hb)
  ·exact .inl rfl
theorem Ht {l:L3}(hl:dP l=true)(hno:∀x:aq.V2,ax l x.1 x.2=0->¬aq.pos M x){q:aq.V2}(hq:aq.pos M q)(hp:0<ax l q.1 q.2)(h0:c≠[]):eL c l=1:=by
 cases hc:c with
 | nil=>exact absurd hc h0
 | cons s r=>
  have hs:s∈c:=by rw [hc];exact List.mem_cons_self ..
  obtain ⟨e1,e2⟩:=sw h hk hs
  have:=(qL hk hl hno hq (h.mem s hs).1 (x:=(i_ s.1 s.2.eh,je s.1 s.2.eh)) e1 e2).1 hp
  unfold eL
  dsimp only at this
  by_cases c1:0<ax l (i_ s.1 s.2.eh) (je s.1 s.2.eh)
  ·rw [aq.A7.2 c1];rfl
  ·have hsl:s.1=l:=this.resolve_left c1
   have z:ax l (i_ s.1 s.2.eh) (je s.1 s.2.eh)=0:=by
    have h:=e1;rw [hsl] at h ⊢;exact h
   rw [aq.jE.2 z,if_neg (by simp),if_pos hsl]
theorem Hs {l:L3}(hl:dP l=true)(hno:∀x:aq.V2,ax l x.1 x.2=0->¬aq.pos M x){q:aq.V2}(hq:aq.pos M q)(hp:ax l q.1 q.2<0):eL c l=-1:=by
 have:∀r:List Sd,(∀s∈r,s∈c)->eL r l=-1:=by
  intro r
  induction r with
  | nil=>intro _;rfl
  | cons s r ih=>
   intro hr
   have hs:=hr s (List.mem_cons_self ..)
   obtain ⟨e1,e2⟩:=sw h hk hs
   have:=(qL hk hl hno hq (h.mem s hs).1 (x:=(i_ s.1 s.2.eh,je s.1 s.2.eh)) e1 e2).2 hp
   dsimp only at this
   unfold eL
   rcases this with g|⟨g,g'⟩
   ·rw [aq.vP.2 g];rfl
   ·rw [aq.jE.2 g,if_neg (by simp),if_neg g']
    exact ih fun u hu=>hr u (List.mem_cons_of_mem _ hu)
 exact this c fun _ h=>h
theorem FO {l:L3}(hl:dP l=true):(∀c',cI c l=some c'->hJ (l::M) c')/\(cI c l=none->¬∃q,aq.pos (l::M) q):=by
 unfold cI
 cases e:dk c l bF with
 | some v=>exact ⟨fun c' e'=>by cases e';exact G4 h hk hl e,fun e'=>by cases e'⟩
 | none=>
  dsimp only
  have hno:∀x:aq.V2,ax l x.1 x.2=0->¬aq.pos M x:=fun x hx hp=>by
   obtain ⟨t,e1,e2⟩:=tS (mq hl) hx
   refine zG kf e t (uY t) fun s hs=>?_
   rw [←e1,←e2];exact hp s.1 (h.mem s hs).1
  have h0:c≠[]:=fun e0=>by rw [e0] at e;cases e
  obtain ⟨q,hq⟩:=h.pos
  by_cases c1:0<ax l q.1 q.2
  ·rw [Ht h hk hl hno hq c1 h0]
   refine ⟨fun c' e'=>?_,fun e'=>by cases e'⟩
   cases e'
   refine ⟨⟨q,List.forall_mem_cons.2 ⟨c1,hq⟩⟩,fun s hs=>?_,fun l' hl' he=>?_,h.qw⟩
   ·obtain ⟨m1,m2,m3⟩:=h.mem s hs
    refine ⟨List.mem_cons_of_mem _ m1,m2,fun t=>?_⟩
    rw [m3 t,List.forall_mem_cons]
    refine ⟨fun g=>⟨fun hne=>?_,g⟩,fun g=>g.2⟩
    exact ((qL hk hl hno hq m1 (x:=(i_ s.1 t,je s.1 t)) (oe (mq (hk _ m1)) t).1 g).1 c1).resolve_right fun e=>hne e.symm
   ·obtain ⟨p,pz,hp⟩:=he
    by_cases hm:l'∈M
    ·exact h.all l' hm ⟨p,pz,fun m hm hne=>hp m (List.mem_cons_of_mem _ hm) hne⟩
    ·exfalso
     have e1:l'=l:=(List.mem_cons.1 hl').resolve_right hm
     refine hno p (e1▸pz) fun m hm'=>hp m (List.mem_cons_of_mem _ hm') fun e2=>hm (e2▸hm')
  ·have c2:ax l q.1 q.2<0:=by
    by_cases z:ax l q.1 q.2=0
    ·exact absurd hq (hno q z)
    ·grind
   rw [Hs h hk hl hno hq c2]
   refine ⟨fun c' e'=>(by cases e'),fun _=>?_⟩
   rintro ⟨q',hq'⟩
   obtain ⟨a,b⟩:=List.forall_mem_cons.1 hq'
   have:=aq.CU hno (fun m hm=>b m hm) hq a
   grind
end
theorem hJ.nil:hJ [] []:=⟨⟨(0,0),fun m hm=>by cases hm⟩,(fun s hs=>by cases hs),(fun l hl=>by cases hl),List.Pairwise.nil⟩
def aT:List L3->List L3->List Sd->Option (List Sd)
 | [],_,c=>some c
 | l::r,M,c=>match cI c l with
  | some c'=>aT r (l::M) c'
  | none=>none
theorem uG:∀{ls M:List L3} {c:List Sd},hJ M c->(∀m∈M,dP m=true)->(∀m∈ls,dP m=true)->(∀c',aT ls M c=some c'->hJ (ls.reverse++M) c')/\(aT ls M c=none->¬∃q,aq.pos (ls.reverse++M) q)
 | [],M,c,h,hk,hl=>⟨fun c' e=>by cases e;exact h,fun e=>by cases e⟩
 | l::r,M,c,h,hk,hl=>by
  obtain ⟨h1,h2⟩:=FO h hk (hl l (List.mem_cons_self ..))
  rw [List.reverse_cons,List.append_assoc]
  unfold aT
  cases e:cI c l with
  | some c'=>exact uG (h1 c' e) (List.forall_mem_cons.2 ⟨hl l (List.mem_cons_self ..),hk⟩) fun m hm=>hl m (List.mem_cons_of_mem _ hm)
  | none=>
   refine ⟨fun c' e'=>(by cases e'),fun _=>?_⟩
   rintro ⟨q,hq⟩
   exact h2 e ⟨q,fun m hm=>hq m (List.mem_append_right _ hm)⟩
theorem BS:∀{a b:List L3},(a.Pairwise fun l m=>aq.cH (aq.ar l) (aq.ar m)<0)->(b.Pairwise fun l m=>aq.cH (aq.ar l) (aq.ar m)<0)->(∀x,x∈a↔x∈b)->a=b
 | [],b,_,_,h=>by
  cases b with
  | nil=>rfl
  | cons y b=>have:=(h y).2 (List.mem_cons_self ..);cases this
 | x::a,[],_,_,h=>by have:=(h x).1 (List.mem_cons_self ..);cases this
 | x::a,y::b,ha,hb,h=>by
  obtain ⟨a1,a2⟩:=List.pairwise_cons.1 ha
  obtain ⟨b1,b2⟩:=List.pairwise_cons.1 hb
  have e:x=y:=by
   rcases List.mem_cons.1 ((h x).1 (List.mem_cons_self ..)) with e|hx
   ·exact e
   ·rcases List.mem_cons.1 ((h y).2 (List.mem_cons_self ..)) with e|hy
    ·exact e.symm
    ·exact absurd (a1 y hy) (aq.tK _ _ (b1 x hx))
  subst e
  have Xs:∀z:L3,¬aq.cH (aq.ar z) (aq.ar z)<0:=fun z hz=>aq.tK _ _ hz hz
  congr 1
  refine BS a2 b2 fun z=>⟨fun hz=>?_,fun hz=>?_⟩
  ·rcases List.mem_cons.1 ((h z).1 (List.mem_cons_of_mem _ hz)) with e|g
   ·exact absurd (a1 z hz) (e▸Xs z)
   ·exact g
  ·rcases List.mem_cons.1 ((h z).2 (List.mem_cons_of_mem _ hz)) with e|g
   ·exact absurd (b1 z hz) (e▸Xs z)
   ·exact g
end Go.Proofs.Tryz
namespace Go.Proofs.Tryz
open Go.bJ Go.fo
theorem qJ (l m:L3):aU l m=-dY m l:=by unfold aU dY;grind
theorem Nt (m l:L3):aq.cr (aq.ar m) (aq.ar l)=dY m l:=by unfold aq.cr aq.ar dY;grind
def lf (l m:L3):Rat:=AQ l (Gb l m) (Gc l m)
theorem CX {l m:L3}(hl:Nz l)(h:aU l m≠0):lf l m=dX m l:=by
 obtain ⟨v1,v2⟩:=ON h
 obtain ⟨t,e1,e2⟩:=tS hl v1
 have e3:lf l m=t:=by unfold lf;rw [e1,e2];exact (oe hl t).2
 rw [e1,e2,v_] at v2
 rw [e3]
 have hd:dY m l≠0:=fun e=>h (by rw [qJ,e];grind)
 have hi:=Rat.mul_inv_cancel _ hd
 unfold dX
 grind
def pC (l m:L3)(s:Sp):Option Sp:=
 if aU l m=0 then (if (ax m (i_ l 0) (je l 0)).num.sign<=0 then none else some s)
 else
  let s':Sp:=if 0<(dY m l).num.sign then (if s.a=true\/s.lo<lf l m then ⟨lf l m,s.hi,false,s.b⟩ else s) else (if s.b=true\/lf l m<s.hi then ⟨s.lo,lf l m,s.a,false⟩ else s)
  if s'.a=false/\s'.b=false/\s'.hi<=s'.lo then none else some s'
theorem Ix {s:Sp}:s.emp=true↔s.a=false/\s.b=false/\s.hi<=s.lo:=by
 cases h:s.emp
 ·have:=Sp.kS.1 h
  constructor
  ·intro h;cases h
  ·rintro ⟨h1,h2,h3⟩
   rw [h1,h2] at this
   rcases this with h|h|h
   ·cases h
   ·cases h
   ·exfalso;grind
 ·refine ⟨fun _=>?_,fun _=>rfl⟩
  have hn:¬(s.a=true\/s.b=true\/s.lo<s.hi):=fun g=>by rw [←Sp.kS] at g;rw [h] at g;cases g
  refine ⟨?_,?_,?_⟩
  ·cases e:s.a
   ·rfl
   ·exact absurd (.inl e) hn
  ·cases e:s.b
   ·rfl
   ·exact absurd (.inr (.inl e)) hn
  ·by_cases c:s.lo<s.hi
   ·exact absurd (.inr (.inr c)) hn
   ·grind
theorem uP {l m:L3}{s:Sp}(hl:Nz l)(hs:s.jg):pC l m s=if dR l s m=true then some (du l s m) else none:=by
 unfold pC
 by_cases hc:aU l m=0
 ·have hd:dY m l=0:=by rw [qJ] at hc;grind
  have ec:du l s m=s:=by unfold du;rw [hd];rfl
  have eb:dR l s m=decide ((jY m l).num.sign>0):=by unfold dR;rw [hd];rfl
  rw [if_pos hc,ec,eb]
  show (if (jY m l).num.sign<=0 then none else some s)=_
  by_cases g:(jY m l).num.sign<=0
  ·rw [if_pos g,if_neg (by rw [decide_eq_true_iff];omega)]
  ·rw [if_neg g,if_pos (by rw [decide_eq_true_iff];omega)]
 ·have hd:dY m l≠0:=fun e=>hc (by rw [qJ,e];grind)
  rw [if_neg hc,CX hl hc]
  have es:(if 0<(dY m l).num.sign then (if s.a=true\/s.lo<dX m l then (⟨dX m l,s.hi,false,s.b⟩:Sp) else s) else (if s.b=true\/dX m l<s.hi then ⟨s.lo,dX m l,s.a,false⟩ else s))=du l s m:=by
   obtain ⟨ca,cb⟩:=hs.1
   obtain ⟨lo,hi,a,b⟩:=s
   dsimp only at ca cb ⊢
   unfold du
   rcases nh (dY m l) with ⟨h,e⟩|⟨h,e⟩|⟨h,e⟩
   ·exact absurd h hd
   ·rw [e,if_pos (by decide)]
    show _=Sp.meet ⟨lo,hi,a,b⟩ ⟨dX m l,0,false,true⟩
    unfold Sp.meet CJ
    rcases mW (dX m l) lo with ⟨g,e⟩|⟨g,e⟩|⟨g,e⟩<;>rw [e]<;>cases a<;>cases b<;>simp at ca cb⊢<;> grind
   ·rw [e,if_neg (by decide)]
    show _=Sp.meet ⟨lo,hi,a,b⟩ ⟨0,dX m l,true,false⟩
    unfold Sp.meet CN
    rcases mW (dX m l) hi with ⟨g,e⟩|⟨g,e⟩|⟨g,e⟩<;>rw [e]<;>cases a<;>cases b<;>simp at ca cb⊢<;> grind
  have eb:dR l s m=!(du l s m).emp:=by
   unfold dR
   rcases nh (dY m l) with ⟨h,e⟩|⟨h,e⟩|⟨h,e⟩
   ·exact absurd h hd
   ·rw [e];rfl
   ·rw [e];rfl
  dsimp only
  rw [es,eb]
  by_cases g:(du l s m).a=false/\(du l s m).b=false/\(du l s m).hi<=(du l s m).lo
  ·rw [if_pos g,Ix.2 g,if_neg (by decide)]
  ·rw [if_neg g]
   cases h:(du l s m).emp
   ·rw [if_pos (by decide)]
   ·exact absurd (Ix.1 h) g
def eV (l:L3):List L3->Sp->Option Sp
 | [],s=>some s
 | m::r,s=>if m=l then eV l r s else match pC l m s with
  | some s'=>eV l r s'
  | none=>none
theorem qM {l:L3}(hl:Nz l):∀{c:List L3} {s w:Sp},s.jg->eV l c s=some w->w.jg/\∀t,w.oz t↔s.oz t/\∀m∈c,m≠l->0<ax m (i_ l t) (je l t)
 | [],s,w,h,e=>by cases e;exact ⟨h,fun t=>⟨fun g=>⟨g,fun m hm=>by cases hm⟩,fun g=>g.1⟩⟩
 | m::c,s,w,h,e=>by
  unfold eV at e
  by_cases hm:m=l
  ·rw [if_pos hm] at e
   obtain ⟨g1,g2⟩:=qM hl h e
   refine ⟨g1,fun t=>(g2 t).trans (and_congr_right fun _=>?_)⟩
   rw [List.forall_mem_cons]
   exact ⟨fun g=>⟨fun hne=>absurd hm hne,g⟩,fun g=>g.2⟩
  ·rw [if_neg hm,uP hl h] at e
   by_cases hb:dR l s m=true
   ·rw [if_pos hb] at e
    obtain ⟨g1,g2⟩:=qM hl (ke h hb) e
    refine ⟨g1,fun t=>?_⟩
    rw [g2,jr.1 hb t,List.forall_mem_cons,and_assoc]
    exact and_congr_right fun _=>and_congr_left fun _=>⟨fun g _=>g,fun g=>g hm⟩
   ·rw [if_neg hb] at e;cases e
theorem qK {l:L3}(hl:Nz l):∀{c:List L3} {s:Sp},s.jg->eV l c s=none->∀t,s.oz t->¬∀m∈c,m≠l->0<ax m (i_ l t) (je l t)
 | [],s,h,e=>by cases e
 | m::c,s,h,e=>by
  intro t ht hall
  obtain ⟨ha,hr⟩:=List.forall_mem_cons.1 hall
  unfold eV at e
  by_cases hm:m=l
  ·rw [if_pos hm] at e
   exact qK hl h e t ht hr
  ·rw [if_neg hm,uP hl h] at e
   by_cases hb:dR l s m=true
   ·rw [if_pos hb] at e
    exact qK hl (ke h hb) e t ((jr.1 hb t).2 ⟨ht,ha hm⟩) hr
   ·exact jr.2 h.2 (by simpa using hb) t ht (ha hm)
theorem FU {l:L3}(hl:Nz l){c:List L3}:(eV l c bF).isSome=true↔aq.Es c l:=by
 constructor
 ·intro h
  obtain ⟨w,hw⟩:=Option.isSome_iff_exists.1 h
  obtain ⟨g1,g2⟩:=qM hl kf hw
  obtain ⟨t,ht⟩:=pD.1 g1.2
  exact ⟨(i_ l t,je l t),(oe hl t).1,((g2 t).1 ht).2⟩
 ·rintro ⟨p,p0,p1⟩
  obtain ⟨t,e1,e2⟩:=tS hl p0
  cases h:eV l c bF with
  | some w=>rfl
  | none=>
   rw [e1,e2] at p1
   exact absurd p1 (qK hl kf h t (uY t))
def nA (l:L3):List L3->List L3
 | []=>[l]
 | u::r=>if aq.cH (aq.ar u) (aq.ar l)<0 then u::nA l r else if u=l then u::r else l::u::r
def ll (c:List L3):List L3->List L3->List L3
 | [],out=>out
 | l::r,out=>ll c r (if (eV l c bF).isSome=true then nA l out else out)
theorem mj {l x:L3}:∀{r:List L3},x∈nA l r↔x=l\/x∈r
 | []=>by simp [nA]
 | u::r=>by
  unfold nA
  split
  ·rw [List.mem_cons,mj,List.mem_cons];exact or_left_comm
  split
  ·rename_i e
   subst e
   rw [List.mem_cons]
   exact ⟨.inr,fun h=>h.elim .inl id⟩
  ·rw [List.mem_cons]
theorem CB {l:L3}:∀{r:List L3},(r.Pairwise fun s u=>aq.cH (aq.ar s) (aq.ar u)<0)->(∀s∈r,aq.cH (aq.ar s) (aq.ar l)=0->s=l)->(nA l r).Pairwise fun s u=>aq.cH (aq.ar s) (aq.ar u)<0
 | [],_,_=>List.pairwise_singleton _ _
 | u::r,h,hz=>by
  obtain ⟨h1,h2⟩:=List.pairwise_cons.1 h
  unfold nA
  split
  ·rename_i hlt
   refine List.pairwise_cons.2 ⟨fun y hy=>?_,CB h2 (fun s hs=>hz s (List.mem_cons_of_mem _ hs))⟩
   rcases mj.1 hy with rfl|hy
   ·exact hlt
   ·exact h1 y hy
  split
  ·exact h
  ·rename_i hlt hne
   have hgt:aq.cH (aq.ar l) (aq.ar u)<0:=by
    have h0:aq.cH (aq.ar u) (aq.ar l)≠0:=fun e=>hne (hz u (List.mem_cons_self ..) e)
    rcases aq.ue (aq.ar u) (aq.ar l) with g|g|g
    ·exact absurd g hlt
    ·exact absurd g h0
    ·exact g
   refine List.pairwise_cons.2 ⟨fun y hy=>?_,h⟩
   rcases List.mem_cons.1 hy with rfl|hy
   ·exact hgt
   ·exact z_ hgt (h1 y hy)
theorem NA {c:List L3}(hk:∀m∈c,dP m=true){l m:L3}(hl:l∈c)(hm:m∈c)(el:aq.Es c l)(em:aq.Es c m)(h:aq.cH (aq.ar l) (aq.ar m)=0):l=m:=by
 by_cases e:l=m
 ·exact e
 exfalso
 obtain ⟨p,p0,p1⟩:=em
 obtain ⟨r,r0,r1⟩:=el
 exact CY (ET (hk l hl)) h p0 (p1 l hl e) r0 (r1 m hm fun e'=>e e'.symm)
theorem AZ {c:List L3}(hk:∀m∈c,dP m=true):∀{r out:List L3},(∀m∈r,m∈c)->(∀m∈out,m∈c/\aq.Es c m)->(out.Pairwise fun s u=>aq.cH (aq.ar s) (aq.ar u)<0) ->
  ((ll c r out).Pairwise fun s u=>aq.cH (aq.ar s) (aq.ar u)<0)/\∀x,x∈ll c r out↔x∈out\/x∈r/\aq.Es c x
 | [],out,_,_,h=>⟨h,fun x=>by simp [ll]⟩
 | l::r,out,hr,ho,h=>by
  obtain ⟨hl,hr⟩:=List.forall_mem_cons.1 hr
  unfold ll
  by_cases he:aq.Es c l
  ·rw [if_pos ((FU (mq (hk l hl))).2 he)]
   obtain ⟨g1,g2⟩:=AZ hk (r:=r) (out:=nA l out) hr (fun m hm=>by
    rcases mj.1 hm with rfl|hm
    ·exact ⟨hl,he⟩
    ·exact ho m hm) (CB h fun s hs e=>NA hk (ho s hs).1 hl (ho s hs).2 he e)
   refine ⟨g1,fun x=>?_⟩
   rw [g2,mj,List.mem_cons]
   constructor
   ·rintro ((rfl|h)|h)
    ·exact .inr ⟨.inl rfl,he⟩
    ·exact .inl h
    ·exact .inr ⟨.inr h.1,h.2⟩
   ·rintro (h|⟨rfl|h,e⟩)
    ·exact .inl (.inr h)
    ·exact .inl (.inl rfl)
    ·exact .inr ⟨h,e⟩
  ·rw [if_neg fun g=>he ((FU (mq (hk l hl))).1 g)]
   obtain ⟨g1,g2⟩:=AZ hk (r:=r) (out:=out) hr ho h
   refine ⟨g1,fun x=>?_⟩
   rw [g2,List.mem_cons]
   constructor
   ·rintro (h|h)
    ·exact .inl h
    ·exact .inr ⟨.inr h.1,h.2⟩
   ·rintro (h|⟨rfl|h,e⟩)
    ·exact .inl h
    ·exact absurd e he
    ·exact .inr ⟨h,e⟩
theorem Es.of {M N:List L3}(h:∀x,x∈M->x∈N){l:L3}(e:aq.Es N l):aq.Es M l:=by
 obtain ⟨p,p0,p1⟩:=e
 exact ⟨p,p0,fun m hm=>p1 m (h m hm)⟩
theorem uF {ls:List L3}(hk:∀m∈ls,dP m=true):(∀c,aT ls [] []=some c->ll ls ls []=c.map Prod.fst/\hJ ls.reverse c/\(ls=[]\/ll ls ls []≠[]))/\(aT ls [] []=none->ll ls ls []=[]/\ls≠[]/\¬∃q,aq.pos ls q):=by
 obtain ⟨h1,h2⟩:=uG (ls:=ls) hJ.nil (fun m hm=>by cases hm) hk
 rw [List.append_nil] at h1 h2
 obtain ⟨g1,g2⟩:=AZ hk (r:=ls) (out:=[]) (fun m hm=>hm) (fun m hm=>by cases hm) List.Pairwise.nil
 have g2:∀x,x∈ll ls ls []↔x∈ls/\aq.Es ls x:=fun x=>(g2 x).trans ⟨fun h=>h.elim (fun h=>by cases h) id,.inr⟩
 have hpos:∀q,aq.pos ls q↔aq.pos ls.reverse q:=fun q=>⟨fun h m hm=>h m (List.mem_reverse.1 hm),fun h m hm=>h m (List.mem_reverse.2 hm)⟩
 constructor
 ·intro c e
  have hc:=h1 c e
  obtain ⟨q,hq⟩:=hc.pos
  have hq:=(hpos q).2 hq
  refine ⟨?_,hc,?_⟩
  ·refine BS g1 (List.pairwise_map.2 hc.qw) fun x=>?_
   rw [g2,List.mem_map]
   constructor
   ·rintro ⟨a,b⟩
    obtain ⟨v,hv⟩:=hc.all x (List.mem_reverse.2 a) (Es.of (fun y hy=>List.mem_reverse.1 hy) b)
    exact ⟨_,hv,rfl⟩
   ·rintro ⟨s,hs,rfl⟩
    obtain ⟨a1,a2,a3⟩:=hc.mem s hs
    obtain ⟨t,ht⟩:=pD.1 a2.2
    have a1:=List.mem_reverse.1 a1
    exact ⟨a1,⟨(i_ s.1 t,je s.1 t),(oe (mq (hk _ a1)) t).1,fun m hm hne=>(a3 t).1 ht m (List.mem_reverse.2 hm) hne⟩⟩
  ·by_cases h0:ls=[]
   ·exact .inl h0
   right
   obtain ⟨l,hl,he⟩:=aq.KX (Iv hk hq) (fun m hm=>ET (hk m hm)) hq h0
   exact List.ne_nil_of_mem ((g2 l).2 ⟨hl,he⟩)
 ·intro e
  have hno:¬∃q,aq.pos ls q:=fun ⟨q,hq⟩=>h2 e ⟨q,(hpos q).1 hq⟩
  refine ⟨?_,fun h0=>hno ⟨(0,0),fun m hm=>by rw [h0] at hm;cases hm⟩,hno⟩
  refine List.eq_nil_iff_forall_not_mem.2 fun x hx=>?_
  obtain ⟨a,p,p0,p1⟩:=(g2 x).1 hx
  obtain ⟨q,hq,-⟩:=aq.Eu (ET (hk x a)) p0 p1 [] (fun m hm=>by cases hm)
  exact hno ⟨q,hq⟩
theorem Om {l:L3}(h:dP l=true):dP (iR l)=true:=by
 unfold dP iR gP at *
 simp only [Int.natAbs_neg]
 rw [Bool.and_eq_true,decide_eq_true_iff,decide_eq_true_iff] at h ⊢
 exact ⟨fun e=>h.1 ⟨by omega,by omega⟩,h.2⟩
section
variable {M:List L3} {c:List Sd} (h:hJ M c) (hk:∀m ∈ M,dP m=true)
include h hk
end
end Go.Proofs.Tryz
namespace Go.Proofs.Tryz
open Go.bJ Go.fo
section
variable {M:List L3} {c:List Sd} (h:hJ M c) (hk:∀m ∈ M,dP m=true)
include h hk
end
end Go.Proofs.Tryz
namespace Go.Proofs.Tryz
open Go.bJ Go.fo
namespace aq
end aq
section
variable {M:List L3} {c:List Sd} (h:hJ M c) (hk:∀m ∈ M,dP m=true)
include h hk
end
end Go.Proofs.Tryz
namespace Go.Proofs.Tryz
open Go.bJ Go.fo
namespace aq
end aq
section
variable {M:List L3} {c:List Sd} (h:hJ M c) (hk:∀m ∈ M,dP m=true)
include h hk
end
end Go.Proofs.Tryz
namespace Go.Proofs.Tryz
open Go.bJ Go.fo
def tw (l:List aq.V2):Rat:=((List.range l.length).map fun i=>aq.cr (l.getD i (0,0)) (l.getD ((i+1)%l.length) (0,0))).sum
def nE (S:List L3):List aq.V2:=(List.range S.length).filterMap fun i=>if 0<aq.cr (aq.ar (S.getD i (0,0,0))) (aq.ar (S.getD ((i+1)%S.length) (0,0,0))) then some (Gb (S.getD i (0,0,0)) (S.getD ((i+1)%S.length) (0,0,0)),Gc (S.getD i (0,0,0)) (S.getD ((i+1)%S.length) (0,0,0))) else none
section
variable {M:List L3} {c:List Sd} (h:hJ M c) (hk:∀m ∈ M,dP m=true) (hb:∀s ∈ c,s.2.a=false/\s.2.b=false)
include h hk hb
end
end Go.Proofs.Tryz
namespace Go.Proofs.Tryz
open Go.bJ Go.fo
section
variable {M:List L3} {c:List Sd} (h:hJ M c) (hk:∀m ∈ M,dP m=true) (hb:∀s ∈ c,s.2.a=false/\s.2.b=false)
include h hk hb
end
end Go.Proofs.Tryz
namespace Go.Proofs.Tryz
open Go.bJ Go.fo
section
variable {M:List L3} {c:List Sd} (h:hJ M c) (hk:∀m ∈ M,dP m=true) (hb:∀s ∈ c,s.2.a=false/\s.2.b=false)
include h hk hb
end
end Go.Proofs.Tryz
namespace Go.Proofs.Tryz
open Go.bJ Go.fo
section
variable {M:List L3} {c:List Sd} (h:hJ M c) (hk:∀m ∈ M,dP m=true)
include h hk
end
end Go.Proofs.Tryz
namespace Go.Proofs.Tryz
open Go.bJ Go.fo
theorem jV.up {k K:Nat}{l:L3}(h:jV k l)(hk:k<=K):jV K l:=⟨h.1.mono hk,h.2.1.mono hk,h.2.2.mono hk⟩
theorem Ba {L M:L3}{s:Sp}{k K:Nat}(sl:jV k L)(sm:jV k M)(hs:s.sz K)(hk:60*k+60<=K):(du L s M).sz K:=by
 have z:=L1 K (by omega)
 have c:=(tW sl sm).mono hk
 unfold du
 split
 ·exact hs
 ·split
  ·exact Sp.AJ hs ⟨c,z⟩
  ·exact Sp.AJ hs ⟨z,c⟩
theorem FY {k:Nat}(hk:0<k):bF.sz k:=⟨L1 k hk,L1 k hk⟩
def SF (s:Sd):Prop:=Bd s.1/\s.2.sz 100000
theorem F0 {x:Sd}:∀{r:List Sd} {i:Nat},i<=r.length->(∀k (h:k<r.length),k<i->aq.cH (aq.ar r[k].1) (aq.ar x.1)<0)->(∀h:i<r.length,¬aq.cH (aq.ar r[i].1) (aq.ar x.1)<0)->mh x r=r.take i++x::r.drop i
 | [],i,hi,_,_=>by simp [mh]
 | s::r,0,_,_,h=>by
  have:¬aq.cH (aq.ar s.1) (aq.ar x.1)<0:=h (Nat.zero_lt_succ _)
  unfold mh
  rw [if_neg this]
  rfl
 | s::r,i+1,hi,h1,h2=>by
  have:aq.cH (aq.ar s.1) (aq.ar x.1)<0:=h1 0 (Nat.zero_lt_succ _) (Nat.zero_lt_succ _)
  unfold mh
  rw [if_pos this,F0 (r:=r) (i:=i) (by simpa using hi) (fun k hk hki=>h1 (k+1) (by simpa using hk) (by omega)) fun h=>h2 (by simpa using h)]
  rfl
structure Bs (r:List Sd) (l:L3) (i j:Nat):Prop where
 le:i<=j
 len:j<=r.length
 lo:∀k (h:k<r.length),k<i->aq.cH (aq.ar r[k].1) (aq.ar l)<0
 hi:∀h:j<r.length,¬aq.cH (aq.ar r[j].1) (aq.ar l)<0
theorem Bs.start (r:List Sd)(l:L3):Bs r l 0 r.length:=⟨Nat.zero_le _,Nat.le_refl _,fun k h hk=>absurd hk (Nat.not_lt_zero _),fun h=>absurd h (Nat.lt_irrefl _)⟩
theorem Bs.up {r:List Sd}{l:L3}{i j h:Nat}(b:Bs r l i j)(qw:r.Pairwise fun s u=>aq.cH (aq.ar s.1) (aq.ar u.1)<0)(h2:h<j)(hl:h<r.length)(hc:aq.cH (aq.ar r[h].1) (aq.ar l)<0):Bs r l (h+1) j:=
 ⟨h2,b.len,fun k hk hkh=>by
  by_cases e:k=h
  ·subst e;exact hc
  ·exact z_ (List.pairwise_iff_getElem.1 qw k h hk hl (by omega)) hc,b.hi⟩
theorem Bs.down {r:List Sd}{l:L3}{i j h:Nat}(b:Bs r l i j)(h1:i<=h)(hl:h<r.length)(hc:¬aq.cH (aq.ar r[h].1) (aq.ar l)<0):Bs r l i h:=
 ⟨h1,by omega,b.lo,fun _=>hc⟩
theorem Bs.done {r:List Sd}{l:L3}{i:Nat}(b:Bs r l i i)(v:Sp):mh (l,v) r=r.take i++(l,v)::r.drop i:=F0 b.len b.lo b.hi
theorem RR.half (V:View):RR V (.agg #[.int .i64 1,.int .i64 1,.pointer none]) (((2:Int):Rat)⁻¹):=by
 have e1:(((2:Int):Rat)⁻¹).num=1:=by decide +kernel
 have e2:(((2:Int):Rat)⁻¹).den=2:=by decide +kernel
 refine .inl ⟨by rw [e1,e2];rfl,?_⟩
 unfold Wd
 rw [e1,e2];decide
theorem B0 {V:View}{v:Value}{x:Rat}(hx:RR V v x){k:Nat}(hk:Sz k x)(hkm:k+2<1099511627776) :
  ab prog 151 #[v] V fun r V'=>RR V' r (x*((2:Int):Rat)⁻¹):=by
 have hx0:=hx
 obtain ⟨a,b,c,rfl⟩:=hx.shape
 refine wh a b c V _ fun V1 l1=>(fa (hx0.le l1) (RR.half V1) hk (eu Bc) hkm).mono ?_
 rintro r V2 l2 g
 have g0:=g
 obtain ⟨u,v,w,rfl⟩:=g.shape
 exact ⟨_,_,_,rfl,fun V3 l3=>g0.le l3⟩
theorem BX {V:View}{v:Value}{s:Sp}(h:FE V v s){k:Nat}(hs:s.sz k)(hk:4*k+8<1099511627776) :
  ab prog 133 #[v] V fun r V'=>RR V' r s.eh:=by
 obtain ⟨x1,x2,p,y1,y2,q,rfl,h1,h2⟩:=h
 have a1:s.a=true->s.b=true->s.eh=0:=fun x y=>by simp [Sp.eh,x,y]
 have a2:s.a=true->s.b=false->s.eh=s.hi-((1:Int):Rat):=fun x y=>by simp [Sp.eh,x,y]
 have a3:s.a=false->s.b=true->s.eh=s.lo+((1:Int):Rat):=fun x y=>by simp [Sp.eh,x,y]
 have a4:s.a=false->s.b=false->s.eh=(s.lo+s.hi)*((2:Int):Rat)⁻¹:=fun x y=>by simp [Sp.eh,x,y]
 have no:∀{P:Prop},s.a=true->s.a=false->P:=fun x y=>by rw [x] at y;cases y
 have nob:∀{P:Prop},s.b=true->s.b=false->P:=fun x y=>by rw [x] at y;cases y
 refine rB x1 x2 p y1 y2 q s.a s.b V _ ⟨fun ha=>⟨fun hb V1 l1=>?_,fun hb=>⟨fun _ V2 l2=>(iC 1 (by decide) (by decide)).mono ?_,fun e=>no ha e⟩⟩,fun ha=>⟨fun e=>no e ha,fun _=>⟨fun hb t_ jc=>(iC 1 (by decide) (by decide)).mono ?_,fun hb Nc lI=>(jm (h1.le lI) (h2.le lI) hs.1 hs.2 (by omega)).mono ?_⟩⟩⟩
 ·rw [a1 ha hb];exact RR.zero _
 ·rintro r V3 l3 g
  have g0:=g
  obtain ⟨u,v,w,rfl⟩:=g.shape
  refine ⟨_,_,_,rfl,fun V4 l4=>(pk (h2.le (l2.trans (l3.trans l4))) (g0.le l4) hs.2 ig (by omega)).mono ?_⟩
  rintro r V5 l5 f
  have f0:=f
  obtain ⟨u,v,w,rfl⟩:=f.shape
  exact ⟨_,_,_,rfl,fun V6 l6=>by rw [a2 ha hb];exact f0.le l6⟩
 ·rintro r V3 l3 g
  have g0:=g
  obtain ⟨u,v,w,rfl⟩:=g.shape
  refine ⟨_,_,_,rfl,fun V4 l4=>(jm (h1.le (jc.trans (l3.trans l4))) (g0.le l4) hs.1 ig (by omega)).mono ?_⟩
  rintro r V5 l5 f
  have f0:=f
  obtain ⟨u,v,w,rfl⟩:=f.shape
  exact ⟨_,_,_,rfl,fun V6 l6=>by rw [a3 ha hb];exact f0.le l6⟩
 ·rintro r V3 l3 g
  have g0:=g
  obtain ⟨u,v,w,rfl⟩:=g.shape
  refine ⟨_,_,_,rfl,fun V4 l4=>(B0 (g0.le l4) (hs.1.add hs.2) (by omega)).mono ?_⟩
  rintro r V5 l5 f
  have f0:=f
  obtain ⟨u,v,w,rfl⟩:=f.shape
  exact ⟨_,_,_,rfl,fun V6 l6=>by rw [a4 ha hb];exact f0.le l6⟩
theorem PE {V:View}:ab prog 179 #[] V fun r V'=>r=.agg #[.int .i64 0,.int .i64 0,.pointer none,.int .i64 0,.int .i64 0,.pointer none,.bool true,.bool true]:=
 Ff V _ fun V1 l1=>rfl
def fW (V:View)(v:Value)(s:Sd):Prop:=Nb V v s.1 s.2/\SF s
theorem fW.le {V V':View}{v:Value}{s:Sd}(h:fW V v s)(l:V.Le V'):fW V' v s:=⟨h.1.le l,h.2⟩
theorem fW.shape {V:View}{v:Value}{s:Sd}(h:fW V v s):∃(x1:Int)(x2:Int)(p:OA)(y1:Int)(y2:Int)(q:OA)(z1:Int)(z2:Int)(r:OA)(u1:Int)(u2:Int)(t:OA)(w1:Int)(w2:Int)(o:OA),v=.agg #[.int .i64 x1,.int .i64 x2,.pointer p,.int .i64 y1,.int .i64 y2,.pointer q,.int .i64 z1,.int .i64 z2,.pointer r,.int .i64 u1,.int .i64 u2,.pointer t,.int .i64 w1,.int .i64 w2,.pointer o,.bool s.2.a,.bool s.2.b]:=by
 obtain ⟨x1,x2,p,y1,y2,q,z1,z2,r,u1,u2,t,w1,w2,o,e,-⟩:=h.1
 exact ⟨x1,x2,p,y1,y2,q,z1,z2,r,u1,u2,t,w1,w2,o,e⟩
theorem Jv {x1:Int}{x2:Int}{p:OA}{y1:Int}{y2:Int}{q:OA}{z1:Int}{z2:Int}{r:OA}{u1:Int}{u2:Int}{t:OA}{w1:Int}{w2:Int}{o:OA}{c d:Bool}:∀v∈([.int .i64 x1,.int .i64 x2,.pointer p,.int .i64 y1,.int .i64 y2,.pointer q,.int .i64 z1,.int .i64 z2,.pointer r,.int .i64 u1,.int .i64 u2,.pointer t,.int .i64 w1,.int .i64 w2,.pointer o,.bool c,.bool d]:List Value),v.oneCell'=true:=by
 intro v hm
 simp only [List.mem_cons,List.not_mem_nil,or_false] at hm
 rcases hm with rfl|rfl|rfl|rfl|rfl|rfl|rfl|rfl|rfl|rfl|rfl|rfl|rfl|rfl|rfl|rfl|rfl<;>rfl
theorem LO {V:View}{s:Sd}:∀xs,fW V (.agg (List.toArray xs)) s->∀v∈xs,v.oneCell'=true:=by
 intro xs h
 obtain ⟨x1,x2,p,y1,y2,q,z1,z2,r,u1,u2,t,w1,w2,o,e⟩:=h.shape
 have e:=congrArg Array.toList (Value.agg.inj e)
 dsimp only at e
 subst e
 exact Jv
theorem kY {V:View}{c:OA}{n:Nat}{al:List Sd}(h:cG 17 fW V c n al){i:Nat}(hi:i<al.length) :
  c.isSome=true/\∃(x1:Int)(x2:Int)(p:OA)(y1:Int)(y2:Int)(q:OA)(z1:Int)(z2:Int)(r:OA)(u1:Int)(u2:Int)(t:OA)(w1:Int)(w2:Int)(o:OA)(a:Addr),ah c (i*17)=some a/\V.at (a.add 0) (.int .i64 x1)/\V.at (a.add 1) (.int .i64 x2)/\V.at (a.add 2) (.pointer p)/\V.at (a.add 3) (.int .i64 y1)/\V.at (a.add 4) (.int .i64 y2)/\V.at (a.add 5) (.pointer q)/\V.at (a.add 6) (.int .i64 z1)/\V.at (a.add 7) (.int .i64 z2)/\V.at (a.add 8) (.pointer r)/\V.at (a.add 9) (.int .i64 u1)/\V.at (a.add 10) (.int .i64 u2)/\V.at (a.add 11) (.pointer t)/\V.at (a.add 12) (.int .i64 w1)/\V.at (a.add 13) (.int .i64 w2)/\V.at (a.add 14) (.pointer o)/\V.at (a.add 15) (.bool al[i].2.a)/\V.at (a.add 16) (.bool al[i].2.b) /\
   fW V (.agg #[.int .i64 x1,.int .i64 x2,.pointer p,.int .i64 y1,.int .i64 y2,.pointer q,.int .i64 z1,.int .i64 z2,.pointer r,.int .i64 u1,.int .i64 u2,.pointer t,.int .i64 w1,.int .i64 w2,.pointer o,.bool al[i].2.a,.bool al[i].2.b]) al[i]:=by
 obtain ⟨ad,h0,xs,h1,h2,h3⟩:=h.at_ i hi
 have h20:=h2
 obtain ⟨x1,x2,p,y1,y2,q,z1,z2,r,u1,u2,t,w1,w2,o,e⟩:=h2.shape
 have e:=congrArg Array.toList (Value.agg.inj e)
 dsimp only at e
 subst e
 refine ⟨?_,x1,x2,p,y1,y2,q,z1,z2,r,u1,u2,t,w1,w2,o,ad,h0,h3 0 _ rfl,h3 1 _ rfl,h3 2 _ rfl,h3 3 _ rfl,h3 4 _ rfl,h3 5 _ rfl,h3 6 _ rfl,h3 7 _ rfl,h3 8 _ rfl,h3 9 _ rfl,h3 10 _ rfl,h3 11 _ rfl,h3 12 _ rfl,h3 13 _ rfl,h3 14 _ rfl,h3 15 _ rfl,h3 16 _ rfl,h20⟩
 cases c with
 | none=>cases h0
 | some a=>rfl
theorem Gp {V:View}{vs:List Value}{al:List Sd}(h:Row 17 fW V vs al){i:Nat}(hi:i<al.length):∃(x1:Int)(x2:Int)(p:OA)(y1:Int)(y2:Int)(q:OA)(z1:Int)(z2:Int)(r:OA)(u1:Int)(u2:Int)(t:OA)(w1:Int)(w2:Int)(o:OA),i*17+17<=vs.length/\(vs.drop (i*17)).take 17=[.int .i64 x1,.int .i64 x2,.pointer p,.int .i64 y1,.int .i64 y2,.pointer q,.int .i64 z1,.int .i64 z2,.pointer r,.int .i64 u1,.int .i64 u2,.pointer t,.int .i64 w1,.int .i64 w2,.pointer o,.bool al[i].2.a,.bool al[i].2.b] /\
  fW V (.agg #[.int .i64 x1,.int .i64 x2,.pointer p,.int .i64 y1,.int .i64 y2,.pointer q,.int .i64 z1,.int .i64 z2,.pointer r,.int .i64 u1,.int .i64 u2,.pointer t,.int .i64 w1,.int .i64 w2,.pointer o,.bool al[i].2.a,.bool al[i].2.b]) al[i]:=by
 obtain ⟨xs,h1,h2,h3⟩:=h.at_ i hi
 have hl:=h.iL (by decide)
 have h20:=h2
 obtain ⟨x1,x2,p,y1,y2,q,z1,z2,r,u1,u2,t,w1,w2,o,e⟩:=h2.shape
 have e:=congrArg Array.toList (Value.agg.inj e)
 dsimp only at e
 subst e
 refine ⟨x1,x2,p,y1,y2,q,z1,z2,r,u1,u2,t,w1,w2,o,by omega,?_,h20⟩
 apply List.ext_getElem?
 intro j
 rw [List.getElem?_take]
 split
 ·rename_i hj
  rw [List.getElem?_drop]
  exact h3 j _ (List.getElem?_eq_getElem (by show j<17;omega))▸(List.getElem?_eq_getElem (by show j<17;omega)).symm
 ·rename_i hj
  rw [List.getElem?_eq_none (by show 17<=j;omega)]
theorem fW.both {V:View}{s:Sd}{x1:Int}{x2:Int}{p:OA}{y1:Int}{y2:Int}{q:OA}{z1:Int}{z2:Int}{r:OA}{u1:Int}{u2:Int}{t:OA}{w1:Int}{w2:Int}{o:OA}{c d:Bool}(h:fW V (.agg #[.int .i64 x1,.int .i64 x2,.pointer p,.int .i64 y1,.int .i64 y2,.pointer q,.int .i64 z1,.int .i64 z2,.pointer r,.int .i64 u1,.int .i64 u2,.pointer t,.int .i64 w1,.int .i64 w2,.pointer o,.bool c,.bool d]) s) :
  tY V (.agg #[.int .i64 x1,.int .i64 x2,.pointer p,.int .i64 y1,.int .i64 y2,.pointer q,.int .i64 z1,.int .i64 z2,.pointer r]) s.1/\FE V (.agg #[.int .i64 u1,.int .i64 u2,.pointer t,.int .i64 w1,.int .i64 w2,.pointer o,.bool s.2.a,.bool s.2.b]) s.2/\c=s.2.a/\d=s.2.b:=by
 obtain ⟨x1',x2',p',y1',y2',q',z1',z2',r',u1',u2',t',w1',w2',o',e,h1,h2⟩:=h.1
 have e:=congrArg Array.toList (Value.agg.inj e)
 simp only [List.cons.injEq,Value.bool.injEq,Value.int.injEq,Value.pointer.injEq,true_and,and_true] at e
 obtain ⟨rfl,rfl,rfl,rfl,rfl,rfl,rfl,rfl,rfl,rfl,rfl,rfl,rfl,rfl,rfl,rfl,rfl⟩:=e
 exact ⟨h1,h2,rfl,rfl⟩
theorem lg:∀{c d:List Sd} {l:L3} {v:Sp},dk (c++d) l v=(dk c l v).bind (dk d l)
 | [],_,_,_=>rfl
 | s::c,d,l,v=>by
  rw [List.cons_append]
  unfold dk
  split
  ·exact lg
  ·rfl
theorem rM {V:View}{cp:OA}{cn cc:Nat}{c:List Sd}{lv:Value}{l:L3}(h:cG 17 fW V cp cn c)(hl:tY V lv l)(hb:Bd l)(hn:c.length<=1000000) :
  ab prog 130 #[.slice cp cn cc,lv] V fun r V'=>∃w,r=.tuple #[w,.bool (dk c l bF).isSome]/\FE V' w ((dk c l bF).getD Sp.zero)/\((dk c l bF).getD Sp.zero).sz 100000:=by
 have hl0:=hl
 obtain rfl:=h.len
 obtain ⟨_,_,_,_,_,_,_,_,_,rfl,-,-,-⟩:=hl
 have Ly:∀{i:Nat} (hi:i<c.length) {s:Sp},dk (c.take i) l bF=some s->dk (c.take (i+1)) l bF=if dR l s c[i].1=true then some (du l s c[i].1) else none:=fun {i} hi {s} e=>by
  rw [List.take_add_one,List.getElem?_eq_getElem hi,lg,e]
  show dk [c[i]] l s=_
  unfold dk
  rfl
 refine rA cp _ cc _ _ _ _ _ _ _ _ _ V _ fun V1 l1=>PE.mono ?_
 rintro r V2 l2 rfl
 have L2:=l1.trans l2
 refine ⟨_,_,_,_,_,_,_,_,rfl,fun z V'=>∃(i:Nat)(s:Sp),z.1=(i:Int)/\i<=c.length/\dk (c.take i) l bF=some s/\s.sz 100000/\z.2.2.2.2.2.2.2.1=s.a/\z.2.2.2.2.2.2.2.2=s.b/\FE V' (.agg #[.int .i64 z.2.1,.int .i64 z.2.2.1,.pointer z.2.2.2.1,.int .i64 z.2.2.2.2.1,.int .i64 z.2.2.2.2.2.1,.pointer z.2.2.2.2.2.2.1,.bool s.a,.bool s.b]) s,
  fun z=>c.length-z.1.toNat,⟨(0,0,0,none,0,0,none,true,true),by and_intros<;>rfl,0,bF,rfl,Nat.zero_le _,rfl,FY (by omega),rfl,rfl,⟨_,_,_,_,_,_,rfl,RR.zero _,RR.zero _⟩⟩,?_⟩
 rintro ⟨z1,x1,x2,p,y1,y2,q,ba,bb⟩ V3 l3 ⟨i,s,e1,hi,hp,hs,ea,eb,hv⟩
 dsimp only at e1 ea eb hv ⊢
 subst e1 ea eb
 have L3:=L2.trans l3
 refine ⟨rfl,fun hlt=>?_,fun hlt V7 l7=>?_⟩
 ·have hlt:(i:Int)<c.length:=of_decide_eq_true hlt
  have hi':i<c.length:=by omega
  have w:i64.wrap ((i:Int)+1)=((i+1:Nat):Int):=by rw [ay (by omega)];rfl
  rw [Int.toNat_natCast,w]
  obtain ⟨ps,a1,a2,a3,a4,a5,a6,a7,a8,a9,b1,b2,b3,b4,b5,b6,a,ha,h0,h1,h2,h3,h4,h5,h6,h7,h8,h9,h10,h11,h12,O6,HV,O7,h16,hr⟩:=kY (h.le L3 fun _ _ g=>fW.le g L3) hi'
  obtain ⟨rl,ri,-,-⟩:=hr.both
  have pa:=Ly hi' hp
  have sd:=hr.2
  refine ⟨ps,⟨by omega,by omega⟩,_,_,_,_,_,_,_,_,_,_,_,_,_,_,_,_,_,a,ha,h0,h1,h2,h3,h4,h5,h6,h7,h8,h9,h10,h11,h12,O6,HV,O7,h16,fun V4 l4=>(BZ (hl0.le (L3.trans l4)) (hv.le l4) (rl.le l4) (k:=100000) (hb.lK.up (by omega)) hs (sd.1.lK.up (by omega)) (by omega)).mono ?_⟩
  rintro r V5 l5 ⟨w5,rfl,g⟩
  have g0:=g
  obtain ⟨_,_,_,_,_,_,rfl,-,-⟩:=g
  refine ⟨_,_,_,_,_,_,_,_,_,rfl,fun hf V6 l6=>?_,fun hf=>⟨(((i+1:Nat):Int),_,_,_,_,_,_,_,_),by dsimp only;omega,by and_intros<;>rfl,i+1,du l s c[i].1,rfl,hi',?_,Ba hb.lK sd.1.lK hs (by omega),rfl,rfl,g0⟩⟩
  ·have hf:dR l s c[i].1=false:=by simpa using hf
   have e:dk c l bF=none:=by
    have:=lg (c:=c.take (i+1)) (d:=c.drop (i+1)) (l:=l) (v:=bF)
    rw [List.take_append_drop,pa,hf] at this
    exact this
   rw [e]
   exact ⟨_,rfl,⟨_,_,_,_,_,_,rfl,RR.zero _,RR.zero _⟩,L1 _ (by omega),L1 _ (by omega)⟩
  ·have hf:dR l s c[i].1=true:=by simpa using hf
   rw [pa,if_pos hf]
 ·have hlt:¬(i:Int)<c.length:=of_decide_eq_false hlt
  obtain rfl:i=c.length:=by omega
  rw [List.take_length] at hp
  rw [hp]
  exact ⟨_,rfl,hv.le l7,hs⟩
def Pc (c:List Sd)(l:L3):Int:=if (dk c l bF).isSome=true then 0 else eL c l
theorem Ag {V:View}{cp:OA}{cn cc:Nat}{c:List Sd}{lv:Value}{l:L3}(h:cG 17 fW V cp cn c)(hl:tY V lv l)(hb:Bd l)(hn:c.length<=1000000) :
  ab prog 78 #[.slice cp cn cc,lv] V fun r V'=>r=.int .i64 (Pc c l):=by
 have hl0:=hl
 obtain rfl:=h.len
 obtain ⟨_,_,_,_,_,_,_,_,_,rfl,-,-,-⟩:=hl
 refine qg cp _ cc _ _ _ _ _ _ _ _ _ V _ fun V1 l1=>(rM (h.le l1 fun _ _ g=>fW.le g l1) (hl0.le l1) hb hn).mono ?_
 rintro r V2 l2 ⟨w,rfl,g,-⟩
 obtain ⟨_,_,_,_,_,_,rfl,-,-⟩:=g
 have L2:=l1.trans l2
 refine ⟨_,_,_,_,_,_,_,_,_,rfl,fun hp V3 l3=>by unfold Pc;rw [if_pos hp],fun hp=>?_⟩
 have hp:(dk c l bF).isSome=false:=hp
 have e0:Pc c l=eL c l:=by unfold Pc;rw [if_neg (by rw [hp];exact Bool.false_ne_true)]
 rw [e0]
 refine ⟨fun z V'=>∃i:Nat,z=(i:Int)/\i<=c.length/\eL c l=eL (c.drop i) l,fun z=>c.length-z.toNat,⟨0,by and_intros<;>rfl,0,rfl,Nat.zero_le _,rfl⟩,?_⟩
 rintro z V4 l4 ⟨i,rfl,hi,hpl⟩
 have L4:=L2.trans l4
 refine ⟨rfl,fun hlt=>?_,fun hlt lU dO=>?_⟩
 ·have hlt:(i:Int)<c.length:=of_decide_eq_true hlt
  have hi':i<c.length:=by omega
  have w:i64.wrap ((i:Int)+1)=((i+1:Nat):Int):=by rw [ay (by omega)];rfl
  rw [Int.toNat_natCast,w]
  obtain ⟨ps,a1,a2,a3,a4,a5,a6,a7,a8,a9,b1,b2,b3,b4,b5,b6,a,ha,h0,h1,h2,h3,h4,h5,h6,h7,h8,h9,h10,h11,h12,O6,HV,O7,h16,hr⟩:=kY (h.le L4 fun _ _ g=>fW.le g L4) hi'
  obtain ⟨rl,ri,-,-⟩:=hr.both
  have sd:=hr.2
  have ed:c.drop i=c[i]::c.drop (i+1):=List.drop_eq_getElem_cons hi'
  rw [ed] at hpl
  have hpl:eL c l=if (ax l (i_ c[i].1 c[i].2.eh) (je c[i].1 c[i].2.eh)).num.sign≠0 then (ax l (i_ c[i].1 c[i].2.eh) (je c[i].1 c[i].2.eh)).num.sign else if c[i].1=l then 1 else eL (c.drop (i+1)) l:=hpl.trans (by rfl)
  generalize c[i]=S at *
  have Vi:=LZ sd.2
  refine ⟨ps,⟨by omega,by omega⟩,_,_,_,_,_,_,_,_,_,_,_,_,_,_,_,_,_,a,ha,h0,h1,h2,h3,h4,h5,h6,h7,h8,h9,h10,h11,h12,O6,HV,O7,h16,fun V5 l5=>(BX (ri.le l5) sd.2 (by omega)).mono ?_⟩
  rintro r V6 l6 g
  have g0:=g
  obtain ⟨_,_,_,rfl⟩:=g.shape
  refine ⟨_,_,_,rfl,fun V7 l7=>(Un (rl.le (l5.trans (l6.trans l7))) (g0.le l7) (k:=300000) (sd.1.lK.up (by omega)) (Vi.mono (by omega)) (by omega)).mono ?_⟩
  rintro r V8 l8 gp
  have Y6:=gp
  obtain ⟨_,_,_,_,_,_,rfl,-,-⟩:=gp
  have sx:=Ka (sd.1.lK.up (show 1000<=300000 by omega)) (Vi.mono (show 2*100000+10<=300000 by omega))
  have sy:=Kb (sd.1.lK.up (show 1000<=300000 by omega)) (Vi.mono (show 2*100000+10<=300000 by omega))
  refine ⟨_,_,_,_,_,_,rfl,fun V9 l9=>(N4 (hl0.le (L4.trans (l5.trans (l6.trans (l7.trans (l8.trans l9)))))) (Y6.le l9) (hb.lK.up (by omega)) sx sy (by omega)).mono ?_⟩
  rintro r jh l10 rfl
  refine ⟨_,rfl,fun hs jd bG=>?_,fun hs nF cN=>(Lf (rl.le (l5.trans (l6.trans (l7.trans (l8.trans (l9.trans (l10.trans cN))))))) (hl0.le (L4.trans (l5.trans (l6.trans (l7.trans (l8.trans (l9.trans (l10.trans cN)))))))) (k:=1000) sd.1.lK hb.lK (by omega)).mono ?_⟩
  ·rw [hpl,if_pos (by simpa using hs)]
  ·rintro r rH dg rfl
   rw [if_neg (by simpa using hs)] at hpl
   refine ⟨_,rfl,fun he nG dE=>?_,fun he=>⟨((i+1:Nat):Int),by dsimp only;omega,by and_intros<;>rfl,i+1,rfl,hi',?_⟩⟩
   ·rw [hpl,if_pos (of_decide_eq_true he)]
   ·rw [hpl,if_neg (of_decide_eq_false he)]
 ·have hlt:¬(i:Int)<c.length:=of_decide_eq_false hlt
  obtain rfl:i=c.length:=by omega
  rw [hpl,List.drop_length]
  rfl
end Go.Proofs.Tryz
namespace Go.bJ
open Go.Lib
variable {P:Program}
theorem jC (w:World)(dT sT ty elem:TypeId)(sz b o dLen dCap:Nat)(a:Addr)(sLen sCap:Nat)(cs:List Value)
  (hu:P.underlying dT=some (.slice elem))(hs:(P.info? elem).map (·.size)=some sz)(hn:cs.length=Nat.min sLen dLen*sz)
  (hsrc:∀j v,cs[j]?=some v->w.cell? (a.add j)=some v)(hc:∀j,j<cs.length->(w.cell? ⟨b,o+j,none⟩).isSome=true)(hf:∀j,j<cs.length->w.frozen? ⟨b,o+j,none⟩=false)(h1:∀v∈cs,v.oneCell'=true) :
  (Builtin.copy_ #[dT,sT] ty #[.slice (some ⟨b,o,none⟩) dLen dCap,.slice (some a) sLen sCap]).run P w=.ok (goInt (Nat.min sLen dLen)) (w.setCells b o cs):=by
 have hl:=run_loadCells_list (P:=P) w a cs hsrc
 have hst:=run_storeCells_cells (P:=P) b o cs 0 w (by simpa using hc) (by simpa using hf) h1
 cases hq:P.info? elem with
 | none=>simp [hq] at hs
 | some i=>
  have hi:i.size=sz:=by simpa [hq] using hs
  simp [Builtin.copy_,run_underlying hu,Builtin.lenOf,Builtin.firstCells,sizeOf,typeInfo,hq,hi,←hn,hl,hst]
theorem BD (w:World){o:Oper}{a:Act}{K:Act->World->Prop}{Q:Exit->Act->World->Prop}(d s:Operand)(t t':TypeId)
  (ho:o.op=.call { callee:=.builtin .copy,args:=#[d,s],argTypes:=#[t,t'] })(v u:Value)(hd:a.eval d=v)(hs:a.eval s=u){v':Value}{w':World}
  (hr:(Builtin.copy_ #[t,t'] o.type #[v,u]).run P w=.ok v' w')(h:K (a.put o.dst v') w'):o.wp P a w K Q:=by
 unfold Oper.wp execOp
 simp only [ho,resolve,invoke,builtin,Sem.run_bind,Sem.run_pure,Result.andThen_ok,List.map_toArray,List.map_cons,List.map_nil,hd,hs,hr]
 exact h
theorem kx (w:World){ops:Array Oper}{rest:List Oper}{o:Oper}{a:Act}{Q:Exit->Act->World->Prop}(hgd:o.guard=none)(d s:Operand)(t t':TypeId)
  (ho:o.op=.call { callee:=.builtin .copy,args:=#[d,s],argTypes:=#[t,t'] })(v u:Value)(hd:a.eval d=v)(hs:a.eval s=u){v':Value}{w':World}
  (hr:(Builtin.copy_ #[t,t'] o.type #[v,u]).run P w=.ok v' w')(h:wpList P ops Q rest (a.put o.dst v') w'):wpList P ops Q (o::rest) a w:=
 wpList_plain hgd fun _ hK=>BD w d s t t' ho v u hd hs hr (hK _ _ h)
theorem mD {ops:Array Oper}{o:Oper}{a:Act}{w:World}{K:Act->World->Prop}{Q:Exit->Act->World->Prop}{E:Prop}
  (hg:o.guard=none)(d x:Operand)(dT sT:TypeId)(hop:o.op=Op.call { callee:=Callee.builtin Builtin.copy,args:=#[d,x],argTypes:=#[dT,sT] })
  (v u:Value)(hd:a.eval d=v)(hx:a.eval x=u){v':Value}{w':World}(hr:(Builtin.copy_ #[dT,sT] o.type #[v,u]).run P w=.ok v' w')(hK:K (a.put o.dst v') w') :
  if Region.wanted o (yielded ops a.tmps)=true then Oper.wp P o a w K Q else E:=by
 have hw:Region.wanted o (yielded ops a.tmps)=true:=by simp [Region.wanted,hg]
 rw [if_pos hw]
 unfold Oper.wp
 simp [execOp,hop,resolve,invoke,builtin,hd,hx,hr,Result.andThen]
 exact hK
theorem fm {w:World}{b o:Nat}{vs:List Value}{ty:TypeId}(h:w.heap[b]?=some (.cells vs.toArray ty (0,0))):w.frozen? ⟨b,o,none⟩=false:=by simp [World.frozen?,h]
theorem zP {w:World}{b:Nat}{vs:List Value}{ty:TypeId}(h:w.heap[b]?=some (.cells vs.toArray ty (0,0))):w.shape? b=some (ty,vs.length):=by simp [World.shape?,h]
theorem bU {w:World}{b o:Nat}{vs:List Value}{ty:TypeId}(h:w.heap[b]?=some (.cells vs.toArray ty (0,0))):w.cell? ⟨b,o,none⟩=vs[o]?:=cell_of_row h
theorem uU (X:Nat->Prop)(w:World):eO X w w.drew:=⟨Nat.le_refl _,fun _ _ _=>rfl,rfl,rfl,rfl⟩
theorem qO (X:Nat->Prop)(w:World)(o:Obj):eO X w (w.alloc o):=⟨by rw [show (w.alloc o).heap.size=w.heap.size+1 from Array.size_push ..];omega,fun b hb _=>bX w o hb,rfl,rfl,rfl⟩
theorem Ev {w:World}{g:Nat}{old cs:Array Value}{ty:TypeId}(h:w.heap[g]?=some (.cells old ty (0,0))):eO (·=g) w (w.setRow g cs):=by
 refine ⟨?_,fun b hb hn=>?_,?_,?_,?_⟩
 ·rw [eo h,Array.size_setIfInBounds];exact Nat.le_refl _
 ·rw [eo h,Array.getElem?_setIfInBounds_ne (fun e=>hn e.symm)]
 all_goals simp [World.setRow,h]
theorem cP {b:Nat}{ty:TypeId}:∀(xs:List Value)(o:Nat)(vs:List Value)(w:World),w.heap[b]?=some (.cells vs.toArray ty (0,0))->o+xs.length<=vs.length ->
  (w.setCells b o xs).heap[b]?=some (.cells (vs.take o++xs++vs.drop (o+xs.length)).toArray ty (0,0))/\eO (·=b) w (w.setCells b o xs)
 | [],o,vs,w,h,hl=>⟨by rw [World.setCells,List.append_nil,List.length_nil,Nat.add_zero,List.take_append_drop];exact h,eO.refl _ _⟩
 | x::xs,o,vs,w,h,hl=>by
  rw [List.length_cons] at hl
  have e1:w.setCell ⟨b,o,none⟩ x=w.setRow b (vs.toArray.setIfInBounds o x):=setCell_eq_setRow w b o vs.toArray ty (0,0) x h
  have e2:vs.toArray.setIfInBounds o x=(vs.set o x).toArray:=by simp
  rw [World.setCells,e1,e2]
  have h2:(w.setRow b (vs.set o x).toArray).heap[b]?=some (.cells (vs.set o x).toArray ty (0,0)):=setRow_heap w b vs.toArray _ ty (0,0) h
  obtain ⟨g1,g2⟩:=cP xs (o+1) (vs.set o x) _ h2 (by rw [List.length_set];omega)
  refine ⟨?_,(Ev h).trans g2⟩
  rw [g1]
  congr 3
  rw [List.take_set,List.take_add_one,List.getElem?_eq_getElem (by omega),List.drop_set_of_lt (by omega),List.length_cons,show o+1+xs.length=o+(xs.length+1) by omega]
  rw [List.set_append_right _ _ (by rw [List.length_take];omega),List.length_take,Nat.min_eq_left (by omega),Nat.sub_self]
  simp
end Go.bJ
namespace Go.Proofs.Tryz
open Go.bJ Go.RowKit Go.Lib
theorem pJ:∃i z,prog.info? 211=some i/\i.zero=some z/\i.size=17/\i.bytes=128/\z.cells.size=17:=by
 have h:=lD 211 _ rfl
 unfold km at h
 split at h
 ·rename_i i d e1 e2
  split at h
  ·rename_i z ez
   have h:=Option.some.inj h
   injection h with h1 h2 h3 h4
   refine ⟨i,z,e1,ez,h2,h3,?_⟩
   have:=congrArg List.length h4
   rw [List.length_map,Array.length_toList] at this
   rw [this]
   rfl
  ·cases h
 ·cases h
theorem dU (b o j:Nat):(⟨b,o,none⟩:Addr).add j=⟨b,o+j,none⟩:=by
 unfold Addr.add
 split
 ·rename_i h;subst h;rfl
 ·rfl
theorem MY (w:World){t:TypeId}{i:TypeInfo}(h:prog.info? t=some i):(Go.sizeOf t).run prog w=.ok i.size w:=by
 simp [sizeOf,typeInfo,h]
set_option maxHeartbeats 4000000 in
set_option maxRecDepth 100000 in
theorem Hi (b n c i vb:Nat)(cs vs:List Value)(w:World)(hi:i<n)(hroom:n+1<=c)(hn63:n<=1000000)(hvb:vb≠b)(hcl:c*17<=cs.length)(hvl:vs.length=17)
  (hb:w.heap[b]?=some (.cells cs.toArray 211 (0,0)))(hv:w.heap[vb]?=some (.cells vs.toArray 211 (0,0)))
  (h1c:∀v∈(cs.take (n*17)).drop (i*17),v.oneCell'=true)(h1v:∀v∈vs,v.oneCell'=true) :
  Calls prog 164 #[.slice (some ⟨b,0,none⟩) n c,.int .i64 i,.slice (some ⟨vb,0,none⟩) 1 1] w fun e w'=>
   e=.returned (.slice (some ⟨b,0,none⟩) (n+1) c)/\w'=(w.drew.setCells b ((i+1)*17) ((cs.take (n*17)).drop (i*17))).setCells b (i*17) vs:=by
 obtain ⟨ti,z,e1,e2,e3,e4,e5⟩:=pJ
 have hz2:¬((i:Int)=(n:Int)):=by omega
 have hsz:(prog.info? 211).map (·.size)=some 17:=by rw [e1];simp [e3]
 have uT:=underlying119
 have uV:=underlying118
 have rz:∀w,(Go.sizeOf 211).run prog w=.ok 17 w:=fun w=>by rw [MY w e1,e3]
 have ru:=run_underlying uT
 have rv:=run_underlying uV
 have hov:∀lb cb,(callFunc 197 #[.slice (some ⟨vb,0,none⟩) 1 1,.slice (some ⟨b,(i+1)*17,none⟩) lb cb]).run prog w=.ok (.value (.bool false)) w:=fun lb cb=>by
  rw [run_callFunc_extern func197 (by kernel_rfl) (by kernel_rfl) (by kernel_rfl) (e:=Extern.SlicesOverlaps.overlaps #[118,118] #[4]) (by kernel_rfl),
   Lib.run_overlaps_apart w 118 4 211 uV 17 rz ⟨vb,0,none⟩ ⟨b,(i+1)*17,none⟩ 1 1 lb cb hvb _ _ _ _ (zP hv) (zP hb) (by omega) (fm hv) (fm hv)]
  rfl
 obtain ⟨mid,hmid⟩:∃mid,mid=(cs.take (n*17)).drop (i*17):=⟨_,rfl⟩
 rw [←hmid] at h1c ⊢
 have hml:mid.length=(n-i)*17:=by rw [hmid,List.length_drop,List.length_take];omega
 have hcell:∀(W:World)(o:Nat),W.heap[b]?=some (.cells cs.toArray 211 (0,0))->o<cs.length->(W.cell? ⟨b,o,none⟩).isSome=true:=fun W o hW ho=>by rw [bU hW,List.getElem?_eq_getElem ho];rfl
 have hbd:(w.drew).heap[b]?=some (.cells cs.toArray 211 (0,0)):=hb
 have hmn:∀x:Nat,Nat.min (n+1-i) (n+1-(i+1))=n-i:=fun _=>by simp only [Nat.min_def];split<;>omega
 have hcp1:∀ty dc sc,(Builtin.copy_ #[119,119] ty #[.slice (some ⟨b,(i+1)*17,none⟩) (n+1-(i+1)) dc,.slice (some ⟨b,i*17,none⟩) (n+1-i) sc]).run prog w.drew=  .ok (goInt ((n-i:Nat):Int)) (w.drew.setCells b ((i+1)*17) mid):=fun ty dc sc=>by
  have:=jC (P:=prog) w.drew 119 119 ty 211 17 b ((i+1)*17) (n+1-(i+1)) dc ⟨b,i*17,none⟩ (n+1-i) sc mid uT hsz (by rw [hmn 0,hml])
   (fun j v hj=>by
    rw [dU b,bU hbd]
    rw [hmid,List.getElem?_drop,List.getElem?_take] at hj
    split at hj
    ·exact hj
    ·cases hj)
   (fun j hj=>hcell _ _ hbd (by rw [hml] at hj;omega)) (fun j hj=>fm hbd) h1c
  rw [hmn 0] at this
  exact this
 obtain ⟨g1,g2⟩:=cP mid ((i+1)*17) cs w.drew hbd (by rw [hml];omega)
 obtain ⟨W1,hW1⟩:∃W1,W1=w.drew.setCells b ((i+1)*17) mid:=⟨_,rfl⟩
 rw [←hW1] at hcp1 g1 g2 ⊢
 have PW:Nat.min 1 (n+1-i)=1:=by simp only [Nat.min_def];split<;>omega
 have hvw:vb<w.heap.size:=(Array.getElem?_eq_some_iff.1 hv).1
 have hv1:W1.heap[vb]?=some (.cells vs.toArray 211 (0,0)):=by rw [g2.bD vb hvw hvb];exact hv
 have hcp2:∀ty dc,(Builtin.copy_ #[119,118] ty #[.slice (some ⟨b,i*17,none⟩) (n+1-i) dc,.slice (some ⟨vb,0,none⟩) 1 1]).run prog W1=.ok (goInt 1) (W1.setCells b (i*17) vs):=fun ty dc=>by
  have:=jC (P:=prog) W1 119 118 ty 211 17 b (i*17) (n+1-i) dc ⟨vb,0,none⟩ 1 1 vs uT hsz (by rw [PW,hvl])
   (fun j v hj=>by rw [dU vb,Nat.zero_add,bU hv1];exact hj)
   (fun j hj=>by rw [bU g1,List.getElem?_eq_getElem (by rw [hvl] at hj;simp only [List.length_append,List.length_take,List.length_drop,hml];omega)];rfl) (fun j hj=>fm g1) h1v
  rw [PW] at this
  exact this
 clear g1 g2 hmid h1c hW1
 have mixed:=mixed
 have hw1:i64.wrap ((i:Int)+1)=(i:Int)+1:=by rw [IntKind.wrap_i64];omega
 have hb1:(0:Int)<=(i:Int)+1:=by omega
 have hin:i<=n:=by omega
 have htn:((i:Int)+1).toNat=i+1:=by omega
 have hb2:¬(c=i+1):=by omega
 have hb3:(i:Int)<=(n:Int)+1:=by omega
 have hb4:¬(c=i):=by omega
 go_enter func164,ntmps164
 go_wp2_with (simp only [hov])
 go_region_law_o (refine mD rfl _ _ 119 119 rfl (.slice (some ⟨b,(i+1)*17,none⟩) (n+1-(i+1)) (c-(i+1))) (.slice (some ⟨b,i*17,none⟩) (n+1-i) (c-i)) (by simp [Act.eval,Act.put]) (by simp [Act.eval,Act.put]) (hcp1 3 _ _) ?_)
 go_wp2_with (at_builtin;refine kx _ rfl _ _ 119 118 rfl _ _ rfl rfl (hcp2 _ _) ?_)
 go_ret
 exact ⟨rfl,rfl⟩
set_option maxHeartbeats 4000000 in
set_option maxRecDepth 100000 in
theorem Lc (b n c vb:Nat)(cs vs:List Value)(w:World)(hroom:n+1<=c)(hn63:n<=1000000)(hcl:c*17<=cs.length)(hvl:vs.length=17)
  (hb:w.heap[b]?=some (.cells cs.toArray 211 (0,0)))(hv:w.heap[vb]?=some (.cells vs.toArray 211 (0,0)))(h1v:∀v∈vs,v.oneCell'=true) :
  Calls prog 164 #[.slice (some ⟨b,0,none⟩) n c,.int .i64 n,.slice (some ⟨vb,0,none⟩) 1 1] w fun e w'=>
   e=.returned (.slice (some ⟨b,0,none⟩) (n+1) c)/\w'=w.setCells b (0+n*17) vs:=by
 obtain ⟨ti,z,e1,e2,e3,e4,e5⟩:=pJ
 have uT:=underlying119
 have uV:=underlying118
 have ru:=run_underlying uT
 have rv:=run_underlying uV
 have mixed:=mixed
 have hsrc:Src prog ti.size 118 (.slice (some ⟨vb,0,none⟩) 1 1) 1 vs w:=Src.ofSlice w uV ⟨vb,0,none⟩ 1 1 vs (by rw [e3,hvl]) (fun j u hj=>by rw [dU vb,Nat.zero_add,bU hv];exact hj) h1v
 have hc:∀j,j<vs.length->(w.cell? ⟨b,0+n*ti.size+j,none⟩).isSome=true:=fun j hj=>by rw [bU hb,e3,List.getElem?_eq_getElem (by rw [hvl] at hj;omega)];rfl
 have hf:∀j,j<vs.length->w.frozen? ⟨b,0+n*ti.size+j,none⟩=false:=fun j hj=>fm hb
 go_enter func164,ntmps164
 go_wp2_with (at_builtin;refine wpList_append_room_src _ rfl _ _ 119 118 rfl 211 ti uT e1 b 0 n c rfl _ rfl 1 vs hsrc hroom hc hf ?_)
 go_ret
 exact ⟨rfl,by rw [Nat.zero_add]⟩
set_option maxHeartbeats 4000000 in
set_option maxRecDepth 100000 in
theorem AE (b n c vb:Nat)(cs vs:List Value)(w:World)(hnc:n<=c)(hroom:c<n+1)(hn63:n<=1000000)(hcl:c*17<=cs.length)(hvl:vs.length=17)
  (hb:w.heap[b]?=some (.cells cs.toArray 211 (0,0)))(hv:w.heap[vb]?=some (.cells vs.toArray 211 (0,0)))(h1v:∀v∈vs,v.oneCell'=true) :
  ∃z:Array Value,z.size=17/\Calls prog 164 #[.slice (some ⟨b,0,none⟩) n c,.int .i64 n,.slice (some ⟨vb,0,none⟩) 1 1] w fun e w'=>
   e=.returned (.slice (some ⟨w.heap.size,0,none⟩) (n+1) (grownCap w (n+1) c 211)) /\
   w'=w.drew.alloc (.cells ((cs.take (n*17)++vs).toArray++Builtin.zeroCells z (grownCap w (n+1) c 211-(n+1))) 211):=by
 obtain ⟨ti,z,e1,e2,e3,e4,e5⟩:=pJ
 refine ⟨z.cells,e5,?_⟩
 have uT:=underlying119
 have uV:=underlying118
 have ru:=run_underlying uT
 have rv:=run_underlying uV
 have mixed:=mixed
 have hsrc:Src prog ti.size 118 (.slice (some ⟨vb,0,none⟩) 1 1) 1 vs w:=Src.ofSlice w uV ⟨vb,0,none⟩ 1 1 vs (by rw [e3,hvl]) (fun j u hj=>by rw [dU vb,Nat.zero_add,bU hv];exact hj) h1v
 have hbd:(w.drew).heap[b]?=some (.cells cs.toArray 211 (0,0)):=hb
 have hold:(Builtin.firstCells ti.size n (.slice (some ⟨b,0,none⟩) n c)).run prog w.drew=.ok (cs.take (n*17)).toArray w.drew:=by
  rw [e3]
  exact run_firstCells_some w.drew 17 n ⟨b,0,none⟩ n c (cs.take (n*17)) (by rw [List.length_take];omega) (fun j v hj=>by
   rw [dU b,Nat.zero_add,bU hbd]
   rw [List.getElem?_take] at hj
   split at hj
   ·exact hj
   ·cases hj)
 have hrun:∀ty,(Builtin.append_ #[119,118] ty #[.slice (some ⟨b,0,none⟩) n c,.slice (some ⟨vb,0,none⟩) 1 1]).run prog w=_:=fun ty=>
  run_append_grow_src w 119 118 ty 211 ti z uT e1 e2 (some ⟨b,0,none⟩) n c (cs.take (n*17)) hold _ 1 vs hsrc hroom (by omega) (by rw [e4];exact growslice_fits hroom (by omega))
 obtain ⟨zc,hzc⟩:∃zc,zc=z.cells:=⟨_,rfl⟩
 rw [←hzc] at hrun ⊢
 obtain ⟨ROW,hROW⟩:∃ROW:Array Value,ROW=(cs.take (n*17)++vs).toArray++Builtin.zeroCells zc (grownCap w (n+1) c 211-(n+1)):=⟨_,rfl⟩
 rw [←hROW] at hrun ⊢
 clear hzc e5 hold hROW
 go_enter func164,ntmps164
 go_wp2_with (at_builtin;refine Lib.wpList_append_run _ rfl _ _ _ _ rfl _ _ rfl rfl _ _ (hrun _) ?_)
 all_goals (go_ret;exact ⟨rfl,rfl⟩)
set_option maxHeartbeats 4000000 in
set_option maxRecDepth 100000 in
theorem IV (b n c i vb:Nat)(cs vs:List Value)(w:World)(hi:i<n)(hnc:n<=c)(hroom:c<n+1)(hn63:n<=1000000)(hvb:vb≠b)(hcl:c*17<=cs.length)(hvl:vs.length=17)
  (hb:w.heap[b]?=some (.cells cs.toArray 211 (0,0)))(hv:w.heap[vb]?=some (.cells vs.toArray 211 (0,0)))
  (h1c:∀v∈(cs.take (n*17)).drop (i*17),v.oneCell'=true)(h1v:∀v∈vs,v.oneCell'=true) :
  ∃z:Array Value,z.size=17/\Calls prog 164 #[.slice (some ⟨b,0,none⟩) n c,.int .i64 i,.slice (some ⟨vb,0,none⟩) 1 1] w fun e w'=>
   e=.returned (.slice (some ⟨w.heap.size,0,none⟩) (n+1) (grownCap w (n+1) c 211)) /\
   w'=(((w.alloc (.cells ((cs.take (i*17)).toArray++Builtin.zeroCells z (n+1-i)++Builtin.zeroCells z (grownCap w (n+1) c 211-(n+1))) 211)).drew.setCells w.heap.size (i*17) vs).drew).setCells w.heap.size ((i+1)*17) ((cs.take (n*17)).drop (i*17)):=by
 obtain ⟨ti,z,e1,e2,e3,e4,e5⟩:=pJ
 refine ⟨z.cells,e5,?_⟩
 have uT:=underlying119
 have uV:=underlying118
 have uI:=underlying3
 have ru:=run_underlying uT
 have rv:=run_underlying uV
 have rz:∀w,(Go.sizeOf 211).run prog w=.ok 17 w:=fun w=>by rw [MY w e1,e3]
 have mixed:=mixed
 have hz2:¬((i:Int)=(n:Int)):=by omega
 have hz3:(c:Int)<(n:Int)+1:=by omega
 have hsz:(prog.info? 211).map (·.size)=some 17:=by rw [e1];simp [e3]
 have hbw:b<w.heap.size:=(Array.getElem?_eq_some_iff.1 hb).1
 have hvw:vb<w.heap.size:=(Array.getElem?_eq_some_iff.1 hv).1
 have hkk:(n:Int)+1-(i:Int)=((n+1-i:Nat):Int):=by omega
 have hik:i+(n+1-i)=n+1:=by omega
 have hbd:(w.drew).heap[b]?=some (.cells cs.toArray 211 (0,0)):=hb
 have hold:(Builtin.firstCells ti.size i (.slice (some ⟨b,0,none⟩) i c)).run prog w.drew=.ok (cs.take (i*17)).toArray w.drew:=by
  rw [e3]
  exact run_firstCells_some w.drew 17 i ⟨b,0,none⟩ i c (cs.take (i*17)) (by rw [List.length_take];omega) (fun j v hj=>by
   rw [dU b,Nat.zero_add,bU hbd]
   rw [List.getElem?_take] at hj
   split at hj
   ·exact hj
   ·cases hj)
 obtain ⟨zc,hzc⟩:∃zc,zc=z.cells:=⟨_,rfl⟩
 rw [←hzc] at e5 ⊢
 have hrz:∀ty,(Builtin.append_ #[119,3] ty #[.slice (some ⟨b,0,none⟩) i c,.int .i64 ((n:Int)+1-(i:Int))]).run prog w =
   .ok (.slice (some ⟨w.heap.size,0,none⟩) (n+1) (grownCap w (n+1) c 211)) (w.drew.alloc (.cells ((cs.take (i*17)).toArray++Builtin.zeroCells zc (n+1-i)++Builtin.zeroCells zc (grownCap w (n+1) c 211-(n+1))) 211)):=fun ty=>by
  have h:=Lib.run_append_grow_zeros w 119 3 ty 211 ti z .i64 .i64 uT uI e1 e2 (some ⟨b,0,none⟩) i c (cs.take (i*17)) hold (n+1-i) (by omega) (by omega) (by omega) (by omega) (by rw [e4];omega) (by rw [e4,hik];exact growslice_fits hroom (by omega))
  rw [hik,←hzc] at h
  rw [hkk]
  exact h
 obtain ⟨G,hG⟩:∃G,G=grownCap w (n+1) c 211:=⟨_,rfl⟩
 obtain ⟨ROW,hROW⟩:∃ROW:List Value,ROW.toArray=(cs.take (i*17)).toArray++Builtin.zeroCells zc (n+1-i)++Builtin.zeroCells zc (G-(n+1)):=⟨((cs.take (i*17)).toArray++Builtin.zeroCells zc (n+1-i)++Builtin.zeroCells zc (G-(n+1))).toList,by simp⟩
 rw [←hG] at hrz ⊢
 rw [←hROW] at hrz ⊢
 have hRl:(n+1)*17<=ROW.length:=by
  have:=congrArg Array.size hROW
  simp [Builtin.zeroCells,e5] at this
  omega
 obtain ⟨mid,hmid⟩:∃mid,mid=(cs.take (n*17)).drop (i*17):=⟨_,rfl⟩
 rw [←hmid] at h1c ⊢
 have hml:mid.length=(n-i)*17:=by rw [hmid,List.length_drop,List.length_take];omega
 obtain ⟨W1,hW1⟩:∃W1,W1=w.drew.alloc (.cells ROW.toArray 211):=⟨_,rfl⟩
 rw [←hW1] at hrz
 have hN:W1.heap[w.heap.size]?=some (.cells ROW.toArray 211 (0,0)):=by rw [hW1];exact Array.getElem?_push_size
 have hB:W1.heap[b]?=some (.cells cs.toArray 211 (0,0)):=by rw [hW1];exact (bX w.drew _ hbw).trans hb
 have hV:W1.heap[vb]?=some (.cells vs.toArray 211 (0,0)):=by rw [hW1];exact (bX w.drew _ hvw).trans hv
 have NL:Nat.min 1 (n+1-i)=1:=by simp only [Nat.min_def];split<;>omega
 have hcpA:∀(W:World),W.heap=W1.heap->∀ty dc,(Builtin.copy_ #[119,118] ty #[.slice (some ⟨w.heap.size,i*17,none⟩) (n+1-i) dc,.slice (some ⟨vb,0,none⟩) 1 1]).run prog W=.ok (goInt 1) (W.setCells w.heap.size (i*17) vs):=fun W hW ty dc=>by
  have:=jC (P:=prog) W 119 118 ty 211 17 w.heap.size (i*17) (n+1-i) dc ⟨vb,0,none⟩ 1 1 vs uT hsz (by rw [NL,hvl])
   (fun j v hj=>by rw [dU vb,Nat.zero_add,bU (by rw [hW];exact hV)];exact hj)
   (fun j hj=>by rw [bU (by rw [hW];exact hN),List.getElem?_eq_getElem (by omega)];rfl) (fun j hj=>fm (by rw [hW];exact hN)) h1v
  rw [NL] at this
  exact this
 have hbN:b≠w.heap.size:=by omega
 have NM:Nat.min (n-i) (n+1-(i+1))=n-i:=by simp only [Nat.min_def];split<;>omega
 have hcpB:∀(W:World),W.heap=W1.heap->∀ty dc sc,(Builtin.copy_ #[119,119] ty #[.slice (some ⟨w.heap.size,(i+1)*17,none⟩) (n+1-(i+1)) dc,.slice (some ⟨b,i*17,none⟩) (n-i) sc]).run prog (W.setCells w.heap.size (i*17) vs).drew=.ok (goInt ((n-i:Nat):Int)) ((W.setCells w.heap.size (i*17) vs).drew.setCells w.heap.size ((i+1)*17) mid):=fun W hW ty dc sc=>by
  obtain ⟨g1,g2⟩:=cP vs (i*17) ROW W (by rw [hW];exact hN) (by omega)
  have hb2:(W.setCells w.heap.size (i*17) vs).drew.heap[b]?=some (.cells cs.toArray 211 (0,0)):=by
   have:=g2.bD b (by rw [hW];exact (Array.getElem?_eq_some_iff.1 hB).1) hbN
   rw [hW,hB] at this
   exact this
  have hn2:(W.setCells w.heap.size (i*17) vs).drew.heap[w.heap.size]?=_:=g1
  have:=jC (P:=prog) (W.setCells w.heap.size (i*17) vs).drew 119 119 ty 211 17 w.heap.size ((i+1)*17) (n+1-(i+1)) dc ⟨b,i*17,none⟩ (n-i) sc mid uT hsz (by rw [NM,hml])
   (fun j v hj=>by
    rw [dU b,bU hb2]
    rw [hmid,List.getElem?_drop,List.getElem?_take] at hj
    split at hj
    ·exact hj
    ·cases hj)
   (fun j hj=>by rw [bU hn2,List.getElem?_eq_getElem (by rw [hml] at hj;simp only [List.length_append,List.length_take,List.length_drop,hvl];omega)];rfl) (fun j hj=>fm hn2) h1c
  rw [NM] at this
  exact this
 have hGn:n+1<=G:=by rw [hG];exact grownCap_ge w _ _ _
 have hG63:G<=9223372036854775807:=by
  have:=grownCap_le_maxLen w (n+1) c 211 (by unfold maxLen;omega)
  rw [←hG] at this
  unfold maxLen at this
  omega
 have hGi:¬(G=i):=by omega
 have hGim:¬(G=i+1):=by omega
 have hci:¬(c=i):=by omega
 have hA:=hcpA ((w.alloc (.cells ROW.toArray 211)).drew) (by rw [hW1];rfl)
 have hA':=hcpA W1 rfl
 have hB':=hcpB ((w.alloc (.cells ROW.toArray 211)).drew) (by rw [hW1];rfl)
 subst hW1
 have hw1:i64.wrap ((i:Int)+1)=(i:Int)+1:=by rw [IntKind.wrap_i64];omega
 have hw2:i64.wrap ((n:Int)+1)=(n:Int)+1:=by rw [IntKind.wrap_i64];omega
 have hb1:(0:Int)<=(i:Int)+1:=by omega
 have hin:i<=n:=by omega
 have htn:((i:Int)+1).toNat=i+1:=by omega
 have hb3:(i:Int)<=(n:Int):=by omega
 clear hkk hik hold hROW hG hRl hcpA hcpB hN hB hV hzc e5 hmid h1c NL NM hml
 go_enter func164,ntmps164
 go_wp2_with (first
  | (at_builtin;refine Lib.wpList_append_run _ rfl _ _ _ _ rfl _ _ rfl rfl _ _ (hrz _) ?_)
  | (at_builtin;refine kx _ rfl _ _ 119 118 rfl _ _ rfl rfl (hA _ _) ?_))
 go_region_law_o (refine mD rfl _ _ 119 119 rfl (.slice (some ⟨w.heap.size,(i+1)*17,none⟩) (n+1-(i+1)) (G-(i+1))) (.slice (some ⟨b,i*17,none⟩) (n-i) (c-i)) (by simp [Act.eval,Act.put]) (by simp [Act.eval,Act.put]) (hB' 3 (G-(i+1)) (c-i)) ?_)
 go_wp2
 go_ret
 exact ⟨rfl,rfl⟩
end Go.Proofs.Tryz
