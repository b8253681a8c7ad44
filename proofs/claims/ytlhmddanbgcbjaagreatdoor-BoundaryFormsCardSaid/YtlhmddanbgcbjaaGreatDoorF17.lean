import Derived.LaidEql
import Derived.Stop.Asserts
import Derived.RowKitTokens
import Derived.Test.YtlhmddanbgcbjaaGreatDoorF16
set_option linter.all false
open Go.IntKind (i64 u64 u32)
open Go.Value renaming slice→zF,agg→hF,bool→dB,pointer→dS,tuple→tN,int→Ô
open Go.Eng Go.Big
namespace Go.Proofs.Tryz
section
variable{k:Int}{t:Rat}
abbrev pk:=Rat×Int×Int
def kd (k:Int)(s:Sp):List pk:=(if s.a then [] else [(s.lo,k,1)])++(if s.b then [] else [(s.hi,k,-1)])
def qg (A B:List Sp):List pk:=A.flatMap (kd 0)++B.flatMap (kd 1)
def mZ:List Sp->Int
 | []=>0
 | s::r=>(if s.a then 1 else 0)+mZ r
def mS (k:Int):List pk->Rat->Int
 | [],_=>0
 | c::r,t=>(if c.2.1=k/\c.1<t then c.2.2 else 0)+mS k r t
def iU (k:Int):List pk->Int
 | []=>0
 | c::r=>(if c.2.1=k then c.2.2 else 0)+iU k r
theorem QQ {l m:pz pk}(h:l.Perm m):mS k l t=mS k m t:=by induction h<;>grind [mS]
theorem nT:∀{l m:pz pk},mS k (l++m) t=mS k l t+mS k m t
 | [],m=>by simp [mS]
 | c::r,m=>by simp only [Qc0,mS,nT (l:=r)];omega
theorem CU:∀{l m:pz pk},iU k (l++m)=iU k l+iU k m
 | [],m=>by simp [iU]
 | c::r,m=>by simp only [Qc0,iU,CU (l:=r)];omega
theorem KH:∀{l:pz pk},(∀c∈l,c.1<t)->mS k l t=iU k l
 | [],_=>rfl
 | c::r,h=>by
  simp only [mS,iU,KH (l:=r) λx hx=>h x (by simp [hx]),h c ψ,Í]
theorem Gk:∀{l:pz pk},(∀c∈l,¬c.1<t)->mS k l t=0
 | [],_=>rfl
 | c::r,h=>by
  simp only [mS,Gk (l:=r) λx hx=>h x (by simp [hx]),h c ψ,and_false,Ð];omega
theorem uf {k':Int}(hk:k≠k'):∀{l:pz Sp},mS k (l.flatMap (kd k')) t=0
 | []=>rfl
 | s::r=>by
  rw [Ď,nT,uf hk (l:=r)];have hk':¬k'=k:=λe=>hk e.symm;unfold kd;cases s.a<;>cases s.b<;>simp [mS,hk']
theorem CV {k:Int}{t:Rat}:∀{l:pz Sp},(∀s∈l,s.good)->(∀s∈l,¬s.cZ t)->mZ l+mS k (l.flatMap (kd k)) t=(l.countP λs=>s.innB t:Nat)
 | [],_,_=>rfl
 | s::r,hg,he=>by
  have ih:=CV (k:=k) (t:=t) (l:=r) (λx c=>hg x (by simp [c])) λx c=>he x (by simp [c]);have d:=(hg s ψ).2;have e:=he s ψ;rw [Ď,nT,List.countP_cons];simp only [mZ];rw [Sp.gy] at d;unfold Sp.cZ at e
  have key:(if s.a=true then (1:Int) else 0)+mS k (kd k s) t=(if s.innB t=true then 1 else 0:Nat):=by
   unfold kd Sp.innB;cases ha:s.a<;>cases hb:s.b<;>simp [hb] at d e<;>simp [mS]<;>(try (by_cases f:s.lo<t))<;>(try (by_cases g:s.hi<t))<;>(try (by_cases h:t<s.hi))<;>simp_all<;>grind
  omega
theorem Ji {l:pz Sp}:decide ((0:Int)<(l.countP λs=>s.innB t:Nat))=è l t:=by refine An ⟨λh=>?_,λh=>?_⟩;{have h:=Á h;have:0<l.countP λs=>s.innB t:=ω;have ⟨s,a,h⟩:=Qr6.1 this;exact Qh9.2 ⟨s,a,h⟩};{have ⟨s,a,h⟩:=Qh9.1 h;have:0<l.countP λs=>s.innB t:=Qr6.2 ⟨s,a,h⟩;grind}
theorem VY {A B:pz Sp}{c:pk}:c∈qg A B->∃s∈A++B,s.cZ c.1:=by intro h;have one:∀{k:Int} {s:Sp},c∈kd k s->s.cZ c.1:=λ{k s} h=>by{unfold kd at h;unfold Sp.cZ;cases ha:s.a<;>cases hb:s.b<;>simp [ha,hb] at h ⊢;{rcases h with rfl|rfl<;>simp};{subst h;rfl};{subst h;rfl}};rcases õ.1 h with h|h<;>grind
def nE (s:Sp):Sp:=⟨s.lo,0,s.a,true⟩
def CX (was:Bool)(last:Sp)(out:List Sp):List Sp:=out++if was then [nE last] else []
def Rs (acc:Bool->Bool->Bool)(A B:List Sp)(t:Rat):Bool:=acc (è A t) (è B t)
structure Ya (acc:Bool->Bool->Bool) (A B:List Sp) (cs:List pk) (i:Nat) (was:Bool) (last:Sp) (out:List Sp):Prop where
 rg:rW (CX was last out)
 lo:∀s∈CX was last out,∀h:i<cs.length,s.a=false->s.lo<cs[i].1
 hi:∀s∈out,s.b=false/\∀h:i<cs.length,s.hi<cs[i].1
 inn:∀t,(∀s∈A++B,¬s.cZ t)->(∀h:i<cs.length,t<cs[i].1)->è (CX was last out) t=Rs acc A B t
 fr:was=true->last.hi=0/\last.b=false
section
variable {acc:Bool->Bool->Bool} {A B:List Sp} {cs:List pk} {i:Nat} {was:Bool} {last:Sp} {out:List Sp}
theorem US (hp:cs.Perm (qg A B))(hA:∀s∈A,s.good)(hB:∀s∈B,s.good)(hs:cs.Pairwise λx y=>x.1<=y.1){t:Rat}(ht:∀s∈A++B,¬s.cZ t)(h1:∀c∈cs.take i,c.1<t)(h2:∀h:i<cs.length,t<cs[i].1):acc (decide ((0:Int)<mZ A+iU 0 (cs.take i))) (decide ((0:Int)<mZ B+iU 1 (cs.take i)))=Rs acc A B t:=by
 have a:∀c∈cs.drop i,¬c.1<t:=by grind [List.getElem_of_mem,List.pairwise_iff_getElem.1]
 have e:∀k,iU k (cs.take i)=mS k (qg A B) t:=λk=>by
  rw [<-QQ hp,<-KH h1]
  conv=>rhs;rw [<-Qv0 i cs]
  rw [nT,Gk a];omega
 have b:mS 0 (B.flatMap (kd 1)) t=0:=uf φ;have d:mS 1 (A.flatMap (kd 0)) t=0:=uf φ;rw [e,e];unfold qg Rs;rw [nT,nT,b,d,<-Ji,<-Ji,<-(CV (k:=0) (t:=t) hA λs hs=>ht s (ĭ _ hs)),<-(CV (k:=1) (t:=t) hB λs hs=>ht s (Ľ _ hs)),Wy0,Int.zero_add]
theorem Av {x y:pz Sp}{t:Rat}:è (x++y) t=(è x t||è y t):=by unfold è;rw [List.any_append]
theorem UT {was:md}(hw:was=acc (decide ((0:Int)<mZ A)) (decide ((0:Int)<mZ B)))(hp:cs.Perm (qg A B))(hA:∀s∈A,s.good)(hB:∀s∈B,s.good)(hs:cs.Pairwise λx y=>x.1<=y.1):Ya acc A B cs 0 was ⟨0,0,true,false⟩ []:=by refine ⟨?_,λs h _ a=>?_,λs h=>(by cases h),λt b d=>?_,λ_=>⟨rfl,rfl⟩⟩;{unfold CX;cases was;{exact ⟨λs h=>by simp at h,ψ⟩};{refine ⟨λs h=>?_,ψ⟩;obtain rfl:s=nE ⟨0,0,true,false⟩:=by{simpa using h};exact ⟨⟨λ_=>rfl,λ_=>rfl⟩,rfl⟩}};{unfold CX at h;cases was<;>simp at h;subst h;cases a};{have:=US (acc:=acc) (i:=0) hp hA hB hs b (λc e=>by simp at e) d;simp only [Qd4,iU,Wy0] at this;rw [<-this,<-hw];unfold CX nE è Sp.innB;cases was<;>simp}
theorem XD (h:Ya acc A B cs i was last out)(hi:i+1<cs.length)(he:cs[i].1=cs[i+1].1):Ya acc A B cs (i+1) was last out:=
 ⟨h.rg,λs a _ b=>by rw [<-he];exact h.lo s a ω b,λs a=>⟨(h.hi s a).1,λ_=>by rw [<-he];exact (h.hi s a).2 ω⟩,
  λt c d=>h.inn t c λ_=>by rw [he];exact d hi,h.fr⟩
theorem Xd (h:Ya acc A B cs i was last out)(hi:i<cs.length){t:Rat}(ht:cs[i].1<t):è out t=false:=by refine Bool.eq_false_iff.2 λhe=>?_;have ⟨s,b,a⟩:=Qh9.1 he;have ⟨c,e⟩:=h.hi s b;rw [innB_iff] at a;obtain ⟨-,d⟩:=a;rw [c] at d;grind
def lP (was now:Bool)(last:Sp)(x:Rat):Sp:=if now&&!was then ⟨x,0,false,false⟩ else if was&&!now then ⟨last.lo,x,last.a,last.b⟩ else last
def CW (was now:Bool)(last:Sp)(x:Rat)(out:List Sp):List Sp:=if was&&!now then out++[⟨last.lo,x,last.a,last.b⟩] else out
theorem XE (h:Ya acc A B cs i was last out)(hi:i<cs.length)(hn:∀h:i+1<cs.length,cs[i].1<cs[i+1].1)(hp:cs.Perm (qg A B))(hA:∀s∈A,s.good)(hB:∀s∈B,s.good)(hs:cs.Pairwise λx y=>x.1<=y.1){now:md}(hw:now=acc (decide ((0:Int)<mZ A+iU 0 (cs.take (i+1)))) (decide ((0:Int)<mZ B+iU 1 (cs.take (i+1))))):Ya acc A B cs (i+1) now (lP was now last cs[i].1) (CW was now last cs[i].1 out):=by have z:=VY (hp.mem_iff.1 (ù hi));have g:∀t,(∀s∈A++B,¬s.cZ t)->cs[i].1<t->(∀h:i+1<cs.length,t<cs[i+1].1)->Rs acc A B t=now:=λt f d o=>by{rw [hw,US (acc:=acc) hp hA hB hs f (λc D=>?_) o];obtain ⟨j,E,rfl⟩:=Qh6 D;rw [é] at E;rw [Qt5];by_cases e:j=i;{subst e;exact d};{have:=Qn4.1 hs j i ω hi ω;grind}};have apart:∀t,(∀s∈A++B,¬s.cZ t)->t<cs[i].1\/cs[i].1<t:=λt f=>by{obtain ⟨s,d,o⟩:=z;grind};have on:∀{t:Rat},cs[i].1<t->è out t=false:=λ{t}=>Xd (t:=t) h hi;have m:∀s∈CX was last out,s.a=false->s.lo<cs[i].1:=λs hs l=>h.lo s hs hi l;have n:∀s∈out,s.hi<cs[i].1:=λs hs=>(h.hi s hs).2 hi;have q:∀s∈out,s.b=false:=λs hs=>(h.hi s hs).1;have inn:∀t,(∀s∈A++B,¬s.cZ t)->t<cs[i].1->è (CX was last out) t=Rs acc A B t:=λt f d=>h.inn t f λ_=>d;have p:=h.rg;have u:=h.fr;generalize cs[i].1=x at *;clear z hw hp hs h;unfold lP CW;cases was<;>cases now<;>simp only [Bool.not_true,Bool.not_false,Bool.and_true,Wj7]<;>unfold CX at*<;>simp only [ň,Ï,Ð,Ć] at *;{refine ⟨by simpa [CX] using p,λs hs d l=>?_,λs hs=>⟨q s hs,λd=>?_⟩,λt f o=>?_,λh=>nomatch h⟩;{have:=m s (by simpa [CX] using hs) l;have:=hn d;grind};{have:=n s hs;have:=hn d;grind};{simp only [CX,ň,Ð,Ć];rcases apart t f with k|k;{exact inn t f k};{rw [g t f k o,on k]}}};{have e:è (out++[nE ⟨x,0,false,false⟩])=λt=>è out t||decide (x<t):=by{funext t;rw [Av];unfold è nE Sp.innB;simp};refine ⟨?_,λs hs d l=>?_,λs hs=>⟨q s hs,λd=>?_⟩,λt f o=>?_,λ_=>⟨rfl,rfl⟩⟩;{simp only [CX,Ï];exact vF p ⟨⟨κ,λ_=>rfl⟩,rfl⟩ λy r=>⟨q y r,rfl,n y r⟩};{simp only [CX,Ï] at hs;rcases õ.1 hs with hs|hs;{have:=m s hs l;have:=hn d;grind};{obtain rfl:s=nE ⟨x,0,false,false⟩:=by{simpa using hs};exact hn d}};{have:=n s hs;have:=hn d;grind};{simp only [CX,Ï];rw [e];dsimp only;rcases apart t f with k|k;{rw [inn t f k,È χ,Bool.or_false]};{rw [g t f k o,Ç k,Bool.or_true]}}};{obtain ⟨f1,f2⟩:last.hi=0/\last.b=false:=by{simpa using u};obtain ⟨F,G,C⟩:=Kr p;have v:last.a=false->last.lo<x:=λl=>m (nE last) ψ l;have e:è (out++[(⟨last.lo,x,last.a,last.b⟩:Sp)])=λt=>è out t||((last.a||decide (last.lo<t))&&decide (t<x)):=by{funext t;rw [Av];unfold è Sp.innB;simp [f2]};have w:è (out++[nE last])=λt=>è out t||(last.a||decide (last.lo<t)):=by{funext t;rw [Av];unfold è nE Sp.innB;simp};refine ⟨?_,λs hs d l=>?_,λs hs=>?_,λt f o=>?_,λh=>nomatch h⟩;{simp only [CX,ň,Ð,Ć];refine vF F ⟨⟨λh=>G.1.1 h,λh=>by rw [f2] at h;cases h⟩,?_⟩ λy r=>⟨q y r,(C y r).2.1,(C y r).2.2⟩;rw [Sp.gy];cases l:last.a;{exact .inr (.inr (v l))};{exact .inl rfl}};{simp only [CX,ň,Ð,Ć] at hs;rcases õ.1 hs with hs|hs;{have:=m s (ĭ _ hs) l;grind};{obtain rfl:s=⟨last.lo,x,last.a,last.b⟩:=by{simpa using hs};have:=v l;dsimp only;grind}};{rcases õ.1 hs with hs|hs;{exact ⟨q s hs,λd=>by have:=n s hs;have:=hn d;grind⟩};{obtain rfl:s=⟨last.lo,x,last.a,last.b⟩:=by{simpa using hs};exact ⟨f2,λd=>hn d⟩}};{simp only [CX,ň,Ð,Ć];rw [e];dsimp only;rcases apart t f with k|k;{rw [<-inn t f k,w,Ç k,Bool.and_true]};{rw [g t f k o,on k,È (show ¬t<x by grind),Wj7];rfl}}};{have w:è (out++[nE last])=λt=>è out t||(last.a||decide (last.lo<t)):=by{funext t;rw [Av];unfold è nE Sp.innB;simp};have v:last.a=false->last.lo<x:=λl=>m (nE last) ψ l;refine ⟨by simpa [CX] using p,λs hs d l=>?_,λs hs=>⟨q s hs,λd=>?_⟩,λt f o=>?_,λ_=>by simpa using u⟩;{have:=m s (by simpa [CX] using hs) l;have:=hn d;grind};{have:=n s hs;have:=hn d;grind};{simp only [CX,Ï];rcases apart t f with k|k;{exact inn t f k};{rw [g t f k o,w];dsimp only;cases l:last.a;{have:=v l;rw [Ç (show last.lo<t by grind)];simp};{simp}}}}
end
end
section
variable{a b:List Sp}
theorem CZ (k:Nat)(hk:0<k:=by omega):Sz k (0:Rat):=⟨by show (0:Int).natAbs<_;exact ĳ φ (Nat.one_le_two_pow),Qf0 ω⟩
def bZ:Sp:=⟨0,0,true,true⟩
def yy (l:List Sp):List Rat:=l.flatMap λs=>s.Iw++s.Hf
def fe (l:List Sp):Nat:=(yy l).length
theorem rC {s:Sp}{r:pz Sp}:fe (s::r)=(s.Iw++s.Hf).length+fe r:=by unfold fe yy;rw [Ď,í]
theorem Me:fe (a++b)=fe a+fe b:=by unfold fe yy;rw [Qc1,í]
theorem G1 {A B:pz Sp}:(qg A B).length=fe A+fe B:=by
 have one:∀(k:Int)(l:pz Sp),(l.flatMap (kd k)).length=fe l:=λk l=>by
  induction l with
  | nil=>rfl
  | cons s r ih=>
   rw [Ď,í,rC,ih];unfold kd Sp.Iw Sp.Hf;cases s.a<;>cases s.b<;>simp
 unfold qg;grind
theorem SF:∀(l:pz Sp),fe l<=2*l.length
 | []=>by simp [fe,yy]
 | s::r=>by
  have:=SF r;have h:(s.Iw++s.Hf).length<=2:=by unfold Sp.Iw Sp.Hf;cases s.a<;>cases s.b<;>simp
  rw [rC,Ą];omega
theorem sM:∀(ss:pz Sp)(o:pz Rat),(ss.foldl (λo s=>fg s o 2) o).length<=o.length+fe ss
 | [],o=>by simp [yy]
 | s::r,o=>by
  have ih:=sM r (fg s o 2)
  have:(fg s o 2).length<=o.length+(s.Iw++s.Hf).length:=by
   have c:=@nH s.lo o;have d:=@nH s.hi o;have e:=@nH s.hi (dI s.lo o);show (if s.b=true then (if s.a=true then o else dI s.lo o) else dI s.hi (if s.a=true then o else dI s.lo o)).length<=_;unfold Sp.Iw Sp.Hf;cases s.a<;>cases s.b<;>simp<;>omega
  grind [rC]
theorem Ju (ss:pz Sp):(Þ ss).length<=fe ss:=by have:=sM ss [];simpa [Þ] using this
theorem HH:∀{l:pz Sp},rW l->asc (yy l)
 | [],_=>List.Pairwise.nil
 | s::r,h=>by
  unfold asc yy;refine Qg7.2 ⟨?_,HH h.tail,λx hx y hy=>?_⟩
  ·refine Qg7.2 ⟨by unfold Sp.Iw;cases s.a<;>simp,by unfold Sp.Hf;cases s.b<;>simp,λx hx y hy=>?_⟩;obtain ⟨ha,rfl⟩:=mC hx;obtain ⟨c,rfl⟩:=oN hy;exact nK (h.1 s ψ).2 ha c
  ·have ⟨z,d,hy⟩:=Đ.1 hy;have ⟨e,f,g⟩:=h.LB d
   have i:x<=s.hi:=by
    rcases õ.1 hx with hx|hx
    ·obtain ⟨ha,rfl⟩:=mC hx;have:=nK (h.1 s ψ).2 ha e;grind
    grind [oN]
   have j:z.lo<=y:=by rcases õ.1 hy with hy|hy;{obtain ⟨ha,rfl⟩:=mC hy;grind};{obtain ⟨c,rfl⟩:=oN hy;have:=nK (h.1 z (by simp [d])).2 f c;grind}
   grind
theorem Am:∀{ys xs:pz Rat},asc xs->asc ys->(∀x∈xs,x∈ys)->xs.length<=ys.length
 | [],xs,_,_,h=>by
  cases xs with
  | nil=>simp
  | cons x r=>exact Å (h x ψ) ψ
 | y::r,[],_,_,_=>ψ
 | y::r,x::s,hx,hy,h=>by
  have ⟨x1,x2⟩:=Ġ.1 hx;have ⟨d,a⟩:=Ġ.1 hy;by_cases e:x=y
  ·have:=Am (xs:=s) x2 a λz b=>χ
   grind
  ·have c:x∈r:=χ
   have:=Am (xs:=x::s) hx a λz b=>χ
   grind
theorem SJ {c:pz Rat}{i:Nat}(hi:i<=c.length:=by omega):((dR c i).a=false->(dR c i).lo∈c)/\((dR c i).b=false->(dR c i).hi∈c):=by unfold dR;grind
theorem FP {c:pz Rat}{ms:pz md}:∀(i:Nat),i<=c.length+1->∀s∈cE c ms i,(s.a=false->s.lo∈c)/\(s.b=false->s.hi∈c)
 | 0,_,s,h=>by cases h
 | i+1,hi,s,h=>by
  have ih:=FP (c:=c) (ms:=ms) i ω;have g:=SJ (c:=c) (i:=i);unfold cE at h;split at h
  ·split at h
   ·rename_i f;rcases õ.1 h with h|h
    ·exact ih s (List.dropLast_subset _ h)
    ·obtain rfl:=ö.1 h;refine ⟨λj=>?_,λk=>g.2 k⟩;have d:cE c ms i≠[]:=λe=>by rw [e] at f;simp at f
     have l:(cE c ms i).getLastD Sp.zero=(cE c ms i).getLast d:=by rw [Wy6,List.getLast?_eq_some_getLast d];rfl
     rw [l] at j ⊢;exact (ih _ (List.getLast_mem d)).1 j
   ·rcases õ.1 h with h|h
    ·exact ih s h
    ·obtain rfl:=ö.1 h;exact g
  ·exact ih s h
theorem nw {op:Int}:∀s∈Ö op a b,(s.a=false->s.lo∈Þ (a++b))/\(s.b=false->s.hi∈Þ (a++b)):=by intro s c;exact FP _ (by rw [kT];omega) s c
theorem Wf (op:Int)(a b:pz Sp):fe (Ö op a b)<=fe a+fe b:=by have h:=Am (HH (comb_reg op a b)) (BF (a++b)) λx c=>by{have ⟨s,d,c⟩:=Đ.1 c;rcases õ.1 c with c|c;{obtain ⟨e,rfl⟩:=mC c;exact (nw s d).1 e};{obtain ⟨f,rfl⟩:=oN c;exact (nw s d).2 f}};have:=Ju (a++b);rw [Me] at this;unfold fe at *;omega
theorem G4 {op:Int}{k:Nat}(hk:1<=k)(ha:∀s∈a,s.sz k)(hb:∀s∈b,s.sz k):∀s∈Ö op a b,s.sz k:=by intro s d;have f:=(comb_reg op a b).1 s d;have he:∀q∈Þ (a++b),Sz k q:=λq g=>by{have ⟨x,c,h⟩:=xj g;have:x.sz k:=by{rcases õ.1 c with c|c;{exact ha x c};{exact hb x c}};rcases h with rfl|rfl;{exact this.1};{exact this.2}};have ⟨i,j⟩:=nw s d;constructor;{cases e:s.a;{exact he _ (i e)};{rw [f.1.1 e];exact CZ k hk}};{cases e:s.b;{exact he _ (j e)};{rw [f.1.2 e];exact CZ k hk}}
theorem Bw (op:Int)(a b:pz Sp):(Ö op a b).length<=fe a+fe b+1:=by have h:=FN (Þ (a++b)) (jm op a b (Þ (a++b))) (jm op a b (Þ (a++b))).length;have c:=Ju (a++b);rw [Me] at c;rw [kT] at h;unfold Ö FO;rw [kT];omega
end
end Go.Proofs.Tryz
namespace Go.Proofs.Tryz.aw
abbrev V2:=Rat×Rat
def cr (u v:V2):Rat:=u.1*v.2-u.2*v.1
def dt (u v:V2):Rat:=u.1*v.1+u.2*v.2
def up (u:V2):Prop:=u.2>0\/u.2=0/\u.1>0
def dn (u:V2):Prop:=u.2<0\/u.2=0/\u.1<0
def nz (u:V2):Prop:=u.1≠0\/u.2≠0
theorem N0 (u v:V2):cr v u=-cr u v:=by unfold cr;grind
def jac2 (u w r:V2):cr u r*w.2+cr r w*u.2=cr u w*r.2:=by unfold cr;grind
def mp {a b:Rat}(ha:a>0)(hb:b>0):a*b>0:=ń ha hb
def mn {a b:Rat}(ha:a≥0)(hb:b≥0):a*b≥0:=Wj8 ha hb
def sq_pos {u:V2}(h:nz u):dt u u>0:=by have a:∀x:Rat,x*x≥0:=λx=>by{by_cases b:x≥0;{exact mn b b};{have:=mn (show -x≥0 by grind) (show -x≥0 by grind);grind}};have:=a u.1;have:=a u.2;by_cases c:u.1*u.1+u.2*u.2>0;{exact c};grind [nz,Rat.mul_eq_zero.1]
end Go.Proofs.Tryz.aw
namespace Go.Proofs.Tryz
def tv (V:Ó)(g:Nat)(y:Value):Prop:=V.at ⟨g,0,none⟩ y
theorem tv.le {V V':ut}{g:Nat}{y:un}(h:tv V g y)(l:V.Le V'):tv V' g y:=l.at h
def SErr (y:Value):Prop:=∃a:Addr,y=.iface 375 (.pointer (some a))
end Go.Proofs.Tryz
namespace Go.Proofs.Tryz
variable{V:Ó}{p:OA}{v:Value}{vs:List Value}{b c k n:Nat}
def RT (V:Ó):OA->Tr->Prop
 | p,.leaf i=>∃(b:Nat)(c0 c1 c2 c3 c4 c5 c6 c7 c8:Value)(r:OA),p=some ⟨b,0,none⟩/\V.bg b (.cells #[c0,c1,c2,c3,c4,c5,c6,c7,c8,.pointer none,.pointer r,.bool i] 202 (0,0))
 | p,.node l x y=>∃(b:Nat)(x1 x2:Int)(x3:OA)(y1 y2:Int)(y3:OA)(z1 z2:Int)(z3:OA)(pl pr:OA)(i:Bool),p=some ⟨b,0,none⟩ /\
   V.bg b (.cells #[.int .i64 x1,.int .i64 x2,.pointer x3,.int .i64 y1,.int .i64 y2,.pointer y3,.int .i64 z1,.int .i64 z2,.pointer z3,.pointer pl,.pointer pr,.bool i] 202 (0,0)) /\
   AW V (.agg #[.int .i64 x1,.int .i64 x2,.pointer x3,.int .i64 y1,.int .i64 y2,.pointer y3,.int .i64 z1,.int .i64 z2,.pointer z3]) l.1 l.2.1 l.2.2/\RT V pl x/\RT V pr y
theorem RT.le {V V':ut}(h:V.Le V'):∀{t:Tr} {p:OA},RT V p t->RT V' p t
 | .leaf i,p,⟨b,c0,c1,c2,c3,c4,c5,c6,c7,c8,r,e,hb⟩=>⟨b,c0,c1,c2,c3,c4,c5,c6,c7,c8,r,e,h _ _ hb⟩
 | .node l x y,p,⟨b,x1,x2,x3,y1,y2,y3,z1,z2,z3,pl,pr,i,e,hb,hl,hx,hy⟩=>⟨b,x1,x2,x3,y1,y2,y3,z1,z2,z3,pl,pr,i,e,h _ _ hb,hl.le h,RT.le h hx,RT.le h hy⟩
theorem RT.isS {t:Tr}(h:RT V p t):p.isSome=true:=by (cases t with|leaf i=>{obtain ⟨b,a,c,d,e,f,g,j,k,m,r,rfl,n⟩:=h;rfl}|node l x y=>{obtain ⟨b,o,q,s,u,v,w,z,A,B,pl,C,i,rfl,-⟩:=h;rfl})
theorem ik (i:md):À 113 #[dB i] V λr V'=>∃p,r=dS p/\RT V' p (.leaf i):=
 KN V _ λc d b a=>⟨_,rfl,b,_,_,_,_,_,_,_,_,_,_,rfl,a⟩
theorem ch {t:Tr}(h:RT V p t):À 112 #[dS p] V λr V'=>r=dB t.qv:=by (cases t with|leaf i=>{obtain ⟨b,g,j,k,m,n,o,q,s,u,r,rfl,c⟩:=h;exact pK V _ ⟨rfl,rfl,_,zI c 9 rfl,λd e=>rfl⟩}|node l x y=>{obtain ⟨b,v,w,z,A,B,C,D,E,F,pl,G,i,rfl,c,H,f,I⟩:=h;refine pK V _ ⟨rfl,rfl,_,zI c 9 rfl,λd e=>?_⟩;have:=f.isS;(cases pl with|none=>{cases this}|some a=>rfl)})
theorem Fm {l:L3}{q:OA}{x y:Tr}(hl:AW V v l.1 l.2.1 l.2.2)(hx:RT V p x)(hy:RT V q y):À 114 #[v,dS p,dS q] V λr V'=>∃p',r=dS p'/\RT V' p' (.node l x y):=by obtain ⟨d,e,f,g,h,i,j,k,m,rfl,-⟩:=id hl;exact Nf V _ λn a b c=>⟨_,rfl,b,_,_,_,_,_,_,_,_,_,_,_,_,rfl,c,hl.le a,hx.le a,hy.le a⟩
def X8 (V:Ó)(v:Value)(l:L3):Prop:=RL V v l.1 l.2.1 l.2.2\/bX l=false/\∃b1 p n c xs b2 q m e ys b3 s i j zs,v=.agg #[.bool b1,.slice p n c,.bool b2,.slice q m e,.bool b3,.slice s i j]/\RD V p n c xs/\RD V q m e ys/\RD V s i j zs /\
 El b1 xs b2 ys b3 zs=false/\(xs.length<=1000000/\ys.length<=1000000/\zs.length<=1000000)/\Sz 1000000 (bF b1 xs:Rat)/\Sz 1000000 (bF b2 ys:Rat)/\Sz 1000000 (bF b3 zs:Rat)
theorem X8.le {V V':ut}{l:L3}(h:X8 V v l)(e:V.Le V'):X8 V' v l:=by rcases h with h|⟨a,b,p,n,c,xs,d,q,m,f,g,k,s,i,j,o,hv,r,t,u,w⟩;{exact .inl (h.le e)};{exact .inr ⟨a,b,p,n,c,xs,d,q,m,f,g,k,s,i,j,o,hv,r.le e,t.le e,u.le e,w⟩}
theorem X8.ok {l:L3}(h:X8 V v l)(ho:bX l=true):RL V v l.1 l.2.1 l.2.2:=by rcases h with h|⟨h,-⟩;{exact h};{rw [ho] at h;cases h}
theorem GS {x:L3}(h:X8 V v x)(hb:Bd x):À 37 #[v] V λr V'=>∃w,r=tN #[w,dB (bX x)]/\Vy w/\(bX x=true->AW V' w x.1 x.2.1 x.2.2):=by rcases h with h|⟨a,b,p,n,c,xs,d,q,m,u,y,e,s,i,j,z,rfl,f,g,k,l,⟨A,B,C⟩,s1,s2,s3⟩;{exact I4 h hb};{refine (tD b d e f g k ω ω ω s1 s2 s3).s ?_;rintro r V2 D ⟨w,rfl,o,t⟩;rw [l] at t ⊢;rw [a];exact ⟨w,rfl,o,λh=>by cases h⟩}
def NR (V:Ó)(vs:List Value)(l:List Nd):Prop:=∀(i:Nat)(d:Nd),l[i]?=some d->∃(b1:Bool)(p1:OA)(n1 c1:Nat)(b2:Bool)(p2:OA)(n2 c2:Nat)(b3:Bool)(p3:OA)(n3 c3:Nat),
 (∀j v,([.bool b1,.slice p1 n1 c1,.bool b2,.slice p2 n2 c2,.bool b3,.slice p3 n3 c3,.int .i64 d.left,.int .i64 d.right]:List Value)[j]?=some v->vs[i*8+j]?=some v) /\
 X8 V (.agg #[.bool b1,.slice p1 n1 c1,.bool b2,.slice p2 n2 c2,.bool b3,.slice p3 n3 c3]) d.ln
theorem NR.le {V V':ut}{l:pz Nd}(h:NR V vs l)(hl:V.Le V'):NR V' vs l:=λi d a=>by
 have ⟨b,c,e,f,g,j,k,m,n,o,p,q,r,s⟩:=h i d a;exact ⟨b,c,e,f,g,j,k,m,n,o,p,q,r,s.le hl⟩
structure NS (V:Ó) (p:OA) (n c:Nat) (l:List Nd):Prop where
 len:n=l.length
 cap:n<=c
 row:∃vs,V.sl p vs/\NR V vs l
 JW:p.isNone=true->c=0
theorem NS.le {V V':ut}{l:pz Nd}(h:NS V p n c l)(hl:V.Le V'):NS V' p n c l:=by obtain ⟨a,b,⟨d,e,f⟩,g⟩:=h;exact ⟨a,b,⟨d,hl.sl e,f.le hl⟩,g⟩
theorem NS.isS {l:pz Nd}(h:NS V p n c l)(hn:n≠0):p.isSome=true:=by (cases p with|none=>{have:=h.JW rfl;have:=h.cap;omega}|some a=>rfl)
def pV (l:List Bool):List Value:=l.map .bool
theorem Ph {l:pz md}{i:Nat}{b:md}(h:l[i]?=some b):(pV l)[i]?=some (dB b):=by simp [pV,h]
theorem NS.rd {l:pz Nd}(h:NS V p n c l){d:Nd}(hd:l[k]?=some d):∃(b1:md)(p1:OA)(n1 c1:Nat)(b2:md)(p2:OA)(n2 c2:Nat)(b3:md)(p3:OA)(n3 c3:Nat)(a:Addr),ae p (k*8)=some a/\V.at (a.add 0) (dB b1)/\V.at (a.add 1) (zF p1 n1 c1)/\V.at (a.add 2) (dB b2)/\V.at (a.add 3) (zF p2 n2 c2)/\V.at (a.add 4) (dB b3)/\V.at (a.add 5) (zF p3 n3 c3)/\V.at (a.add 6) (Ô .i64 d.left)/\V.at (a.add 7) (Ô .i64 d.right)/\X8 V (hF #[dB b1,zF p1 n1 c1,dB b2,zF p2 n2 c2,dB b3,zF p3 n3 c3]) d.ln:=by obtain ⟨r,b,g⟩:=h.row;have ⟨b1,p1,n1,c1,b2,p2,n2,c2,b3,p3,n3,c3,f,i⟩:=g k d hd;obtain ⟨m,rfl,-⟩:=b _ _ (f 0 _ rfl);have key:∀j v,([dB b1,zF p1 n1 c1,dB b2,zF p2 n2 c2,dB b3,zF p3 n3 c3,Ô .i64 d.left,Ô .i64 d.right]:pz un)[j]?=some v->V.at ((m.add (k*8)).add j) v:=by{intro j v hv;have ⟨o,e,q⟩:=b _ _ (f j v hv);cases e;rw [Lx];exact q};exact ⟨b1,p1,n1,c1,b2,p2,n2,c2,b3,p3,n3,c3,_,rfl,key 0 _ rfl,key 1 _ rfl,key 2 _ rfl,key 3 _ rfl,key 4 _ rfl,key 5 _ rfl,key 6 _ rfl,key 7 _ rfl,i⟩
theorem LH {l:pz Nd}(hb:∀x∈l,Bd x.ln)(hlen:l.length<=65536):∀(f:Nat) (n:Int) (s:RS) {V:ut} {rb sb:Nat} {npp:OA} {nc:Nat},NS V npp l.length nc l ->V.w.heap[rb]?=some (.cells #[zF npp l.length nc,zF (some ⟨sb,0,none⟩) l.length l.length,Ô .i64 (s.pR:Int),dB s.bad] 198 (0,0))->V.X rb ->V.w.heap[sb]?=some (.cells (pV s.seen).toArray 4 (0,0))->V.X sb->rb≠sb->s.seen.length=l.length->s.seen.count false<f->s.pR+s.seen.count false<=l.length ->À 111 #[dS (some ⟨rb,0,none⟩),Ô .i64 n] V λr V'=>∃p,r=dS p/\RT V' p (jq l f n s).1/\V'.w.heap[rb]?=some (.cells #[zF npp l.length nc,zF (some ⟨sb,0,none⟩) l.length l.length,Ô .i64 ((jq l f n s).2.pR:Int),dB (jq l f n s).2.bad] 198 (0,0))/\V'.w.heap[sb]?=some (.cells (pV (jq l f n s).2.seen).toArray 4 (0,0)):=by
 intro f
 induction f with
 | zero=>intro n s V rb sb npp nc _ _ _ _ _ _ _ h;omega
 | succ f ih=>
  intro n s V rb sb npp nc t T W Y Z a8 G b6 b7;refine uj rb sb npp l.length nc l.length l.length s.pR s.bad (pV s.seen) n V _ T W Y Z a8 ⟨λz V1 l1=>(ik _).s ?_,λz=>⟨λF V4 l4=>(ik _).s ?_,λF=>⟨λI V7 l7=>(ik _).s ?_,λI=>⟨λO fW b8=>(ik _).s ?_,λO=>?_⟩⟩⟩⟩
  ·rintro r V2 J ⟨p,rfl,d⟩;have e0:n=-2:=by{simpa using z};have e:jq l (f+1) n s=(.leaf true,s):=by{simp [jq,e0]};rw [z] at d;exact ⟨p,rfl,λK j g c=>⟨p,rfl,by rw [e];exact d.le j,by rw [e];exact g,by rw [e];exact c⟩⟩
  ·rintro r V2 J ⟨p,rfl,d⟩;have e0:n=-1:=by{simpa using F};have e:jq l (f+1) n s=(.leaf false,s):=by{simp [jq,e0]};rw [z] at d;exact ⟨p,rfl,λK j g c=>⟨p,rfl,by rw [e];exact d.le j,by rw [e];exact g,by rw [e];exact c⟩⟩
  ·rintro r V2 J ⟨p,rfl,d⟩;have D:¬n=-2:=by{simpa using z};have E:¬n=-1:=by{simpa using F};have A:n<0:=by{simpa using I};have e:jq l (f+1) n s=(.leaf false,{ s with bad:=true }):=by{simp [jq,D,E,A]};exact ⟨p,rfl,λK j g c=>⟨p,rfl,by rw [e];exact d.le j,by rw [e];exact g,by rw [e];exact c⟩⟩
  ·rintro r V2 J ⟨p,rfl,d⟩;have D:¬n=-2:=by{simpa using z};have E:¬n=-1:=by{simpa using F};have A:¬n<0:=by{simpa using I};have P:(l.length:Int)<=n:=by{simpa using O};have e:jq l (f+1) n s=(.leaf false,{ s with bad:=true }):=by{simp only [jq,D,E,A,Ð];rw [Ņ ω]};exact ⟨p,rfl,λK j g c=>⟨p,rfl,by rw [e];exact d.le j,by rw [e];exact g,by rw [e];exact c⟩⟩
  ·have D:¬n=-2:=by{simpa using z};have E:¬n=-1:=by{simpa using F};have A:¬n<0:=by{simpa using I};have P:n<(l.length:Int):=by{simpa using O};clear z F I O;obtain ⟨k,rfl⟩:=Ċ (Ww1.1 A);have hk:k<l.length:=ω;have a9:k<s.seen.length:=ω;simp only [Ý,Ē,ą];have i:=ô a9;have y:=ô hk;refine ⟨⟨ω,P⟩,s.seen[k],Ph i,λh4 ku ct=>(ik _).s ?_,λh4=>⟨⟨ω,P⟩,by simp [pV];omega,t.isS ω,⟨ω,P⟩,?_⟩⟩;{rintro r V2 J ⟨p,rfl,d⟩;have e:jq l (f+1) (k:Int) s=(.leaf false,{ s with bad:=true }):=by{simp only [jq,D,E,A,Ð,Ý];rw [i,h4,y]};exact ⟨p,rfl,λK j g c=>⟨p,rfl,by rw [e];exact d.le j,by rw [e];exact g,by rw [e];exact c⟩⟩};{have ⟨b1,p1,m1,c1,b2,p2,m2,c2,b3,p3,m3,c3,a,ha,a0,a1,a2,a3,a4,a5,a6,a7,hL⟩:=t.rd y;refine ⟨b1,p1,m1,c1,b2,p2,m2,c2,b3,p3,m3,c3,_,_,a,ha,a0,a1,a2,a3,a4,a5,a6,a7,λlY cK=>(GS (hL.le cK) (hb _ (ù hk))).s ?_⟩;rintro r mY cG ⟨w,rfl,⟨x1,x2,x3,y1,y2,y3,z1,z2,z3,rfl⟩,hw⟩;rw [h4] at i;have L:(pV s.seen).set k (dB true)=pV (s.seen.set k true):=by{simp [pV,List.map_set]};have Q:=count_set i;have w1:i64.wrap ((s.pR:Int)+1)=((s.pR+1:Nat):Int):=by{rw [au ω];omega};rw [L,w1];refine ⟨_,_,_,_,_,_,_,_,_,_,rfl,λB nX cD=>(ik _).s ?_,λB ux iA b0 b4 g c g3 g4 g5=>?_⟩;{rintro r V2 J ⟨p,rfl,d⟩;have B:bX l[k].ln=false:=by{simpa using B};have e:jq l (f+1) (k:Int) s=(.leaf false,⟨s.seen.set k true,s.pR+1,true⟩):=by{simp only [jq,D,E,A,Ð,Ý];rw [i,y];simp [B]};exact ⟨p,rfl,λK j g c=>⟨p,rfl,by rw [e];exact d.le j,by rw [e];exact g,by rw [e];exact c⟩⟩};{have B:bX l[k].ln=true:=by{simpa using B};have lv:=cK.m (cG.m iA);have R:∀(U:ut)(u v:Nat),U.H u->U.H v->(U.aq [u,v]).X u/\(U.aq [u,v]).X v:=λU u v hu hv=>⟨⟨ψ,hu⟩,⟨ψ,hv⟩⟩;have i1:=ih l[k].left ⟨s.seen.set k true,s.pR+1,s.bad⟩ (V:=ux.aq [b0,b4]) (t.le lv) g (R _ _ _ c g4).1 g3 (R _ _ _ c g4).2 g5 (by simp [G]) (by dsimp only;omega) (by dsimp only;omega);have hm:=Cu l f l[k].left ⟨s.seen.set k true,s.pR+1,s.bad⟩;have b5:=Hy l f l[k].left ⟨s.seen.set k true,s.pR+1,s.bad⟩;have e:jq l (f+1) (k:Int) s=(.node l[k].ln (jq l f l[k].left ⟨s.seen.set k true,s.pR+1,s.bad⟩).1 (jq l f l[k].right (jq l f l[k].left ⟨s.seen.set k true,s.pR+1,s.bad⟩).2).1,(jq l f l[k].right (jq l f l[k].left ⟨s.seen.set k true,s.pR+1,s.bad⟩).2).2):=by{simp only [jq,D,E,A,Ð,Ý];rw [i,y];simp [B]};rw [e];clear e;dsimp only;generalize jq l f l[k].left ⟨s.seen.set k true,s.pR+1,s.bad⟩=q1 at *;obtain ⟨t1,s1⟩:=q1;dsimp only at i1 hm b5 ⊢;refine i1.s ?_;rintro r uE iP ⟨p,rfl,d,e1,e2⟩;refine ⟨p,rfl,_,_,_,_,_,e1,_,e2,λS hZ RU NQ f1 f2 f3 f4 f5=>?_⟩;have M:ux.Le S:=λb o h=>hZ b o (iP b o h);have i2:=ih l[k].right s1 (V:=S.aq [RU,NQ]) (t.le (lv.m M)) f1 (R _ _ _ f2 f4).1 f3 (R _ _ _ f2 f4).2 f5 (by rw [hm.2];simp [G]) ω ω;generalize jq l f l[k].right s1=q2 at *;obtain ⟨t2,s2⟩:=q2;dsimp only at i2 ⊢;refine i2.s ?_;rintro r Gv kS ⟨q,rfl,hq,e3,e4⟩;refine ⟨q,rfl,_,_,_,_,_,e3,_,e4,λIF l_=>?_⟩;have C:S.Le Gv:=λb o h=>kS b o h;have m:Gv.Le IF:=λb o h=>l_ b o h;have N:uE.Le S:=λb o h=>hZ b o h;refine (Fm ((hw B).le (iA.m (M.m (C.m m)))) (d.le (N.m (C.m m))) (hq.le m)).s ?_;rintro r O6 pG ⟨u,rfl,hu⟩;exact ⟨u,rfl,λYb pS g c=>⟨u,rfl,hu.le pS,g,c⟩⟩}}
theorem Se {l:pz Nd}(hb:∀x∈l,Bd x.ln)(root:Int)(h:NS V p n c l):À 57 #[hF #[Ô .i64 root,zF p n c]] V λr V'=>(Ek l root=none->∃q,r=tN #[dS q,dB false])/\(∀t,Ek l root=some t->∃q,r=tN #[dS q,dB true]/\RT V' q t):=by have v:=h.len;subst v;refine QW V _ ⟨λa J K=>?_,λa=>⟨ω,Wx2 _,?_,λV2 w j k u y m z A=>?_⟩⟩;{have a:65536<l.length:=by{simp at a;omega};have e:Ek l root=none:=by{unfold Ek;rw [Ä a]};exact ⟨λ_=>⟨_,rfl⟩,λt d=>by rw [e] at d;cases d⟩};{have a:¬65536<l.length:=by{simp at a;omega};omega};{have a:¬65536<l.length:=by{simp at a;omega};simp only [Ý] at u m ⊢;have B:List.replicate l.length (Value.bool false)=pV (List.replicate l.length false):=by{simp [pV]};rw [B] at m;have C:(List.replicate l.length false).count false=l.length:=ψ;refine (LH hb ω (l.length+1) root ⟨List.replicate l.length false,0,false⟩ (V:=V2.aq [j,k]) (h.le w) u ⟨ψ,y⟩ m ⟨ψ,z⟩ A ψ (by dsimp only;omega) (by dsimp only;omega)).s ?_;rintro r D L ⟨q,rfl,E,F,G⟩;have g:Ek l root=if (jq l (l.length+1) root ⟨List.replicate l.length false,0,false⟩).2.bad=true\/(jq l (l.length+1) root ⟨List.replicate l.length false,0,false⟩).2.pR≠l.length then none else some (jq l (l.length+1) root ⟨List.replicate l.length false,0,false⟩).1:=by{unfold Ek;rw [Ã a]};rw [g];clear g;generalize jq l (l.length+1) root ⟨List.replicate l.length false,0,false⟩=r0 at *;obtain ⟨t,s⟩:=r0;refine ⟨q,rfl,_,_,_,_,_,F,_,G,λi M N=>?_,λi=>⟨λf O P=>?_,λf H I=>?_⟩⟩;{rw [Ä (.inl i)];exact ⟨λ_=>⟨_,rfl⟩,λt d=>by cases d⟩};{have f:s.pR≠l.length:=by{simp at f;omega};rw [Ä (.inr f)];exact ⟨λ_=>⟨_,rfl⟩,λt d=>by cases d⟩};{have f:s.pR=l.length:=by{simp at f;omega};dsimp only at i ⊢;rw [Ã (by rw [i,f];simp)];exact ⟨λe=>(by cases e),λt1 d=>by cases d;exact ⟨q,rfl,RT.le (V:=D) (V':=H) (λb o h=>I b o h) E⟩⟩}}
theorem SW {P:Prop}:(V.aW P b).Le V:=λx o h=>⟨λa=>h.1 (.inl a),h.2⟩
theorem aa.YO {f:FuncId}{args:Array un}{R R':un->ut->Prop}(h:À f args V R)(hR:∀r V',V.Le V'->(∀b,V'.H b->V.H b)->R r V'->R' r V'):À f args V R':=
 ⟨h.1,h.2.s λ_ c ⟨r,he,a,d⟩=>⟨r,he,a,hR r _ (V.Tt c a) (λ_ e=>e) d⟩⟩
theorem pJ (h:vs≠[]):vb vs n b=b:=by cases vs with|nil=>exact Å rfl h|cons v r=>rfl
theorem NR.push {vs sp:pz un}{l:pz Nd}(h:NR V vs l)(hl:l.length*8<=vs.length){ln:L3}{x y:Int}{b1:md}{p1:OA}{n1 c1:Nat}{b2:md}{p2:OA}{n2 c2:Nat}{b3:md}{p3:OA}{n3 c3:Nat}(hL:RL V (hF #[dB b1,zF p1 n1 c1,dB b2,zF p2 n2 c2,dB b3,zF p3 n3 c3]) ln.1 ln.2.1 ln.2.2):NR V (vs.take (l.length*8)++[dB b1,zF p1 n1 c1,dB b2,zF p2 n2 c2,dB b3,zF p3 n3 c3,Ô .i64 x,Ô .i64 y]++sp) (l++[⟨ln,x,y⟩]):=by intro i d a;rcases ĉ i l.length with c|c;{rw [Ī c] at a;have ⟨e,f,g,k,m,n,o,p,q,r,s,t,z,A⟩:=h i d a;refine ⟨e,f,g,k,m,n,o,p,q,r,s,t,λj v hv=>?_,A⟩;have b:j<8:=by{rcases ĉ j 8 with b|b;{exact b};{rw [Ņ (by simpa using b)] at hv;cases hv}};have:=z j v hv;rw [ė,Ī (by rw [é];omega),ğ,Ä ω];exact this};{rw [ņ c] at a;have u:i=l.length:=by{rcases ĉ (i-l.length) 1 with w|w;{omega};{rw [Ņ (by simpa using w)] at a;cases a}};subst u;simp only [Nat.sub_self,List.getElem?_cons_zero,ý] at a;subst a;refine ⟨b1,p1,n1,c1,b2,p2,n2,c2,b3,p3,n3,c3,λj v hv=>?_,.inl hL⟩<;>grind [Nat.add_sub_cancel_left]}
theorem NR.set6 {l:pz Nd}(h:NR V vs l){d:Nd}(hd:l[k]?=some d){x:Int}:NR V (vs.set (k*8+6) (Ô .i64 x)) (l.set k ⟨d.ln,x,d.right⟩):=by intro i z a;rw [Qp9] at a;split at a;{rename_i e;subst e;split at a;{cases a;have ⟨b,c,f,g,m,n,o,p,q,r,s,t,y,u⟩:=h k d hd;refine ⟨b,c,f,g,m,n,o,p,q,r,s,t,λj v hv=>?_,u⟩;rw [Qp9];by_cases A:j=6;{subst A;have:=y 6 _ rfl;have w:k*8+6<vs.length:=by{rcases ĉ (k*8+6) vs.length with h|h;{exact h};{rw [Ņ h] at this;cases this}};rw [Ä rfl,Ä w];exact hv};grind};{cases a}};{rename_i e;have ⟨b,c,f,g,m,n,o,p,q,r,s,t,y,u⟩:=h i z a;refine ⟨b,c,f,g,m,n,o,p,q,r,s,t,λj v hv=>?_,u⟩<;>grind}
theorem NR.set7 {l:pz Nd}(h:NR V vs l){d:Nd}(hd:l[k]?=some d){x:Int}:NR V (vs.set (k*8+7) (Ô .i64 x)) (l.set k ⟨d.ln,d.left,x⟩):=by intro i z a;rw [Qp9] at a;split at a;{rename_i e;subst e;split at a;{cases a;have ⟨b,c,f,g,m,n,o,p,q,r,s,t,y,u⟩:=h k d hd;refine ⟨b,c,f,g,m,n,o,p,q,r,s,t,λj v hv=>?_,u⟩;rw [Qp9];by_cases A:j=7;{subst A;have:=y 7 _ rfl;have w:k*8+7<vs.length:=by{rcases ĉ (k*8+7) vs.length with h|h;{exact h};{rw [Ņ h] at this;cases this}};rw [Ä rfl,Ä w];exact hv};grind};{cases a}};{rename_i e;have ⟨b,c,f,g,m,n,o,p,q,r,s,t,y,u⟩:=h i z a;refine ⟨b,c,f,g,m,n,o,p,q,r,s,t,λj v hv=>?_,u⟩<;>grind}
theorem NR.kids {V:ut}{l r:pz Nd}{ln:L3}{u v x y:Int}(h:NR V vs (l++⟨ln,u,v⟩::r)):NR V ((vs.set (l.length*8+6) (Ô .i64 x)).set (l.length*8+7) (Ô .i64 y)) (l++⟨ln,x,y⟩::r):=by have b:(l++(⟨ln,u,v⟩:Nd)::r)[l.length]?=some ⟨ln,u,v⟩:=ψ;have a:=h.set6 b (x:=x);have c:(l++(⟨ln,u,v⟩:Nd)::r).set l.length ⟨ln,x,v⟩=l++⟨ln,x,v⟩::r:=ψ;rw [c] at a;have d:(l++(⟨ln,x,v⟩:Nd)::r)[l.length]?=some ⟨ln,x,v⟩:=ψ;have e:=a.set7 d (x:=y);grind
theorem NR.take {l:pz Nd}(h:NR V vs l):NR V (vs.take (l.length*8)) l:=by intro i d a;have ⟨b,c,e,f,g,k,m,n,o,p,q,r,t,s⟩:=h i d a;refine ⟨b,c,e,f,g,k,m,n,o,p,q,r,λj v hv=>?_,s⟩<;>grind
theorem NS.ofRow {V:ut}{b c:Nat}{vm:pz un}{l:pz Nd}{ty:TypeId}(hb:vm≠[]->V.bg b (.cells vm.toArray ty (0,0)))(hc:l.length<=c)(hr:NR V vm l):NS V (mA b c) l.length c l:=by refine ⟨rfl,hc,⟨_,?_,hr.take⟩,?_⟩;{intro i v hv;rw [ğ] at hv;split at hv;{rename_i d;have a:vm≠[]:=λe=>by{rw [e] at hv;simp at hv};refine ⟨⟨b,0,none⟩,by unfold mA;rw [Ã ω],?_⟩<;>grind [add_zero',dL]};{cases hv}};{intro e;unfold mA at e;grind}
theorem LG:∀(t:Tr) {V:ut} {p:OA} {ob nb wb:Nat} {root:Int} {n c:Nat} {vs:pz un} {l:pz Nd},RT V p t->t.dV Bd->n=l.length ->V.w.heap[ob]?=some (.cells #[Ô .i64 root,zF (mA nb c) n c] 45 (0,0))->V.X ob ->V.w.heap[wb]?=some (.cells #[.func (.func 115) #[] #[dS (some ⟨ob,0,none⟩),dS (some ⟨wb,0,none⟩)]] 204 (0,0))->V.X wb ->(vs≠[]->V.w.heap[nb]?=some (.cells vs.toArray 179 (0,0)))->(vs≠[]->V.X nb)->ob≠wb->(vs≠[]->ob≠nb)->(vs≠[]->wb≠nb)->n<=c->c*8<=vs.length->NR V vs l->n+t.size<=1000000 ->À 115 #[dS p,dS (some ⟨ob,0,none⟩),dS (some ⟨wb,0,none⟩)] V λr V'=>∃(bm:Nat)(vm:pz un)(c':Nat),(vm≠[]->V'.w.heap[bm]?=some (.cells vm.toArray 179 (0,0)))/\(vm≠[]->V.w.heap.size<=bm\/(vs≠[]/\bm=nb))/\r=Ô .i64 (rt n t)/\V'.w.heap[ob]?=some (.cells #[Ô .i64 root,zF (mA bm c') (n+t.size) c'] 45 (0,0))/\V'.w.heap[wb]?=some (.cells #[.func (.func 115) #[] #[dS (some ⟨ob,0,none⟩),dS (some ⟨wb,0,none⟩)]] 204 (0,0))/\n+t.size<=c'/\c'*8<=vm.length/\NR (V'.aW (vm≠[]) bm) vm (l++wr n t):=by
 intro t
 induction t with
 | leaf i=>
  intro V p ob nb wb root n c vs l G _ H ho m hw s hv z h1 h2 h3 A B C I;refine qS p ob nb wb root n c vs V _ ho m hw s hv z h1 h2 h3 λV1 E=>(ch (G.le E)).s ?_;rintro r V2 Y rfl;obtain ⟨b,c0,c1,c2,c3,c4,c5,c6,c7,c8,q,rfl,J⟩:=G;have a0:=(E.m Y) _ _ J
  have fin:∀(f:ut)(g:Nat)(x:Int),V2.Le (f.aW (vs≠[]) g)->f.w.heap[ob]?=some (.cells #[Ô .i64 root,zF (mA g c) n c] 45 (0,0)) ->
    f.w.heap[wb]?=some (.cells #[.func (.func 115) #[] #[dS (some ⟨ob,0,none⟩),dS (some ⟨wb,0,none⟩)]] 204 (0,0))->(vs≠[]->f.w.heap[g]?=some (.cells vs.toArray 179 (0,0))) ->
    (vs≠[]->V.w.heap.size<=g\/(vs≠[]/\g=nb)\/False)->x=rt n (.leaf i)->∃(bm:Nat)(vm:pz un)(c':Nat),(vm≠[]->f.w.heap[bm]?=some (.cells vm.toArray 179 (0,0)))/\(vm≠[]->V.w.heap.size<=bm\/(vs≠[]/\bm=nb)) /\
   Value.int .i64 x=Ô .i64 (rt n (.leaf i))/\f.w.heap[ob]?=some (.cells #[Ô .i64 root,zF (mA bm c') (n+(Tr.leaf i).size) c'] 45 (0,0)) /\
   f.w.heap[wb]?=some (.cells #[.func (.func 115) #[] #[dS (some ⟨ob,0,none⟩),dS (some ⟨wb,0,none⟩)]] 204 (0,0)) /\
   n+(Tr.leaf i).size<=c'/\c'*8<=vm.length/\NR (f.aW (vm≠[]) bm) vm (l++wr n (.leaf i)):=by
   intro f g x hle e1 e2 e3 e4 hx;refine ⟨g,vs,c,e3,λh=>?_,by rw [hx],e1,e2,A,B,?_⟩
   ·rcases e4 h with h|h|h;{exact .inl h};{exact .inr h};{exact h.elim}
   ·simp only [wr,Ć];exact C.le ((E.m Y).m hle)
  refine ⟨_,rfl,λ_=>⟨rfl,rfl,i,zI a0 11 rfl,λhi f g K F L M N=>fin f g _ K F L M N (by subst hi;rfl),λhi f g K F L M N=>fin f g _ K F L M N (by subst hi;rfl)⟩,λh=>by cases h⟩
 | node ln x y Vm ihy=>
  intro V p ob nb wb root n c vs l G O H ho m hw s hv z h1 h2 h3 A B C I;simp only [Tr.size] at I;obtain ⟨a8,a9,b0⟩:=O;refine qS p ob nb wb root n c vs V _ ho m hw s hv z h1 h2 h3 λV1 E=>(ch (G.le E)).s ?_;rintro r V2 Y rfl;have sP:=E.m Y;obtain ⟨b,x1,x2,x3,y1,y2,y3,z1,z2,z3,pl,pr,i,rfl,J,hl,hx,hy⟩:=G;refine ⟨_,rfl,ţ,λ_=>⟨rfl,rfl,x1,x2,x3,y1,y2,y3,z1,z2,z3,?_⟩⟩
  have a:∀j v,([Ô .i64 x1,Ô .i64 x2,dS x3,Ô .i64 y1,Ô .i64 y2,dS y3,Ô .i64 z1,Ô .i64 z2,dS z3,dS pl,dS pr,dB i]:pz un)[j]?=some v->V2.at ((⟨b,0,none⟩:Addr).add j) v:=by intro j v hv;rw [add_zero'];exact dL (xs:=[_,_,_,_,_,_,_,_,_,_,_,_]) (sP _ _ J) hv
  obtain ⟨s1,s2,s3⟩:=a8.sz;refine ⟨⟨b,0,none⟩,rfl,a 0 _ rfl,a 1 _ rfl,a 2 _ rfl,a 3 _ rfl,a 4 _ rfl,a 5 _ rfl,a 6 _ rfl,a 7 _ rfl,a 8 _ rfl,λV5 l5=>(Fp (hl.le (sP.m l5)) s1 s2 s3).s ?_⟩;rintro r V6 l6 P;obtain ⟨q1,m1,e1,q2,m2,e2,q3,m3,e3,rfl,-⟩:=id P;have Ay:=sP.m (l5.m l6);refine qxW ⟨rfl,ω,A,B,rfl,by intro v hv;simp at hv;rcases hv with rfl|rfl|rfl|rfl|rfl|rfl|rfl|rfl<;>rfl,λsp c' g1 g2=>?_⟩;refine ⟨rfl,rfl,pl,zI (Ay _ _ J) 9 rfl,λD l7 Q R RU f1 f2 f3 f4 f5 f6 f7 f8 f9=>?_⟩;have d:=NR.push (sp:=sp) (x:=0) (y:=0) (C.le Ay) ω (ln:=ln) P;rw [<-H] at d;generalize hrow:vs.take (n*8)++([_,_,_,_,_,_,_,_]:pz un)++sp=row at f1 f2 f8 f9 d ⊢
  have S:row.length=n*8+8+sp.length:=by rw [<-hrow];simp only [í,é,Ą,į];omega
  have T:row≠[]:=λe=>by rw [e] at S;simp only [į] at S;omega
  have Oa:=Ay.m l7;refine (Vm (V:=D.aq [vb row D.w.heap.size Q,R,RU]) (p:=pl) (ob:=R) (nb:=Q) (wb:=RU) (root:=root) (n:=n+1) (c:=c') (vs:=row) (l:=l++[⟨ln,0,0⟩]) (RT.le (V:=V) (V':=D.aq _) (λb o h=>Oa b o h) hx) a9 (by simp [H]) f3 ⟨ψ,f4⟩ f5 ⟨ψ,f6⟩ f1 (λh=>⟨by simp [pJ h],f2 h⟩) f7 (λh=>(f8 h).symm) (λh=>(f9 h).symm) g1 ω (NR.le (V:=V6) (V':=D.aq _) d λb o h=>l7 b o h) ω).s ?_;rintro r V8 l8 ⟨bm,vm,c1,K,F,rfl,L,M,N,a6,a7⟩;have b8:D.Le V8:=λb o h=>l8 b o h;have U:=vo (V':=D) b8 (Ó.Le.refl D) λh=>(F h).imp id λh'=>by rw [h'.2];exact f2 T
  refine ⟨bm,vm,K,F,_,rfl,_,_,_,L,M,rfl,rfl,pr,zI ((Oa.m U) _ _ J) 10 rfl,λZ l9 NQ RV W d1 d2 d3 d4 d5 d6 d7 d8 d9=>?_⟩;have b9:vm≠[]:=λe=>by rw [e] at a6;simp at a6;omega
  refine (ihy (V:=Z.aq [vb vm Z.w.heap.size NQ,RV,W]) (p:=pr) (ob:=RV) (nb:=NQ) (wb:=W) (root:=root) (n:=n+1+x.size) (c:=c1) (vs:=vm) (l:=l++[⟨ln,0,0⟩]++wr (n+1) x) (RT.le (V:=V) (V':=Z.aq _) (λb o h=>((Oa.m U).m l9) b o h) hy) b0 (by simp [H,fw];omega) d3 ⟨ψ,d4⟩ d5 ⟨ψ,d6⟩ d1 (λh=>⟨by simp [pJ h],d2 h⟩) d7 (λh=>(d8 h).symm) (λh=>(d9 h).symm) N a6 (NR.le (V:=V8.aW (vm≠[]) bm) (V':=Z.aq _) a7 λb o h=>l9 b o h) ω).s ?_;rintro r fW d0 ⟨bn,vn,c2,b1,b2,rfl,b3,b4,b5,b6,b7⟩;have e0:n<n+1+x.size+y.size:=ω
  have hlen:n*8+8<=vn.length:=ω
  simp only [Ý];refine ⟨bn,vn,b1,b2,_,rfl,_,_,_,b3,b4,⟨ω,ω⟩,b5,ω,⟨ω,ω⟩,b5,by rw [Qf7];omega,λfk c9 u1 u2 u3 u4 u5=>?_⟩;have k:=NR.kids (V:=fW.aW (vn≠[]) bn) (l:=l) (r:=wr (n+1) x++wr (n+1+x.size) y) (ln:=ln) (u:=0) (v:=0) (x:=rt (n+1) x) (y:=rt (n+1+x.size) y) (by simpa using b7);rw [<-H] at k;refine ⟨c9,_,c2,u4,λh=>?_,rfl,by rw [show n+(Tr.node ln x y).size=n+1+x.size+y.size from by simp only [Tr.size];omega];exact u2,u3,by simp only [Tr.size];omega,by simp only [Qf7];omega,?_⟩
  ·rcases u5 h with h|h|h;{exact .inl h};{exact .inr h};{exact h.elim}
  ·simp only [wr];exact NR.le (V:=fW.aW (vn≠[]) bn) k λb o h=>u1 b o h
theorem Pq {t:Tr}(h:RT V p t)(ha:t.dV Bd)(hs:t.size<=1000000):À 59 #[dS p] V λr V'=>∃q n c,r=hF #[Ô .i64 (rt 0 t),zF q n c]/\NS V' q n c (wr 0 t):=by refine H6 V _ λe v g j x y z A B=>?_;refine aa.YO (LG t (V:=e.aq [g,j]) (nb:=0) (vs:=[]) (l:=[]) (n:=0) (c:=0) (RT.le (V:=V) (V':=e.aq _) (λb o h=>v b o h) h) ha rfl x ⟨ψ,y⟩ z ⟨ψ,A⟩ (λh=>Å rfl h) (λh=>Å rfl h) B (λh=>Å rfl h) (λh=>Å rfl h) (Ù _) (Ù _) (λi d C=>by simp at C) ω) ?_;rintro r V2 K hH ⟨f,vm,D,E,F,rfl,G,H,k,L,m⟩;refine ⟨_,rfl,_,_,_,_,G,H,λs I=>⟨_,_,_,rfl,?_⟩⟩;simp only [ō,ą] at m k ⊢;have u:V2.Le s:=λb o h=>I b o h;have:=NS.ofRow (V:=s) (b:=f) (c:=D) (vm:=vm) (l:=wr 0 t) (ty:=179) (λa=>u _ _ ⟨λJ=>?_,E a⟩) (by rw [fw];exact k) ((m.le SW).le u);{rw [fw] at this;exact this};{have M:=e.hH f (hH f J);rcases F a with h|h;{have h:e.w.heap.size<=f:=h;omega};{exact h.1 rfl}}
def Lr:List Tr->Nat
 | []=>0
 | t::r=>2*t.size+1+Lr r
theorem Cj (a b:pz Tr):Lr (a++b)=Lr a+Lr b:=by
 induction a with
 | nil=>simp [Lr]
 | cons t r ih=>simp only [Qc0,Lr];omega
def Ze (V:Ó)(vs:List Value)(ts:List Tr):Prop:=∀(i:Nat)(t:Tr),ts[i]?=some t->∃p,vs[i]?=some (.pointer p)/\RT V p t
theorem Ze.le {V V':ut}{ts:pz Tr}(h:Ze V vs ts)(l:V.Le V'):Ze V' vs ts:=λi t a=>by
 have ⟨p,b,c⟩:=h i t a;exact ⟨p,b,c.le l⟩
theorem W3 (ts:pz Tr):ts.length<=Lr ts:=by
 induction ts with
 | nil=>simp
 | cons t r ih=>simp only [Lr,Ą];omega
theorem Ze.Xj {sp:pz un}{ts:pz Tr}{x y:Tr}{q:OA}{m:Nat}(h:Ze V vs ts)(hm:m<=ts.length)(hl:m<=vs.length)(hx:RT V p x)(hy:RT V q y):Ze V (vs.take m++[dS p,dS q]++sp) (ts.take m++[x,y]):=by intro i t a;rcases ĉ i m with b|b;{rw [Ī (by rw [é];omega),ğ,Ä b] at a;have ⟨r,c,d⟩:=h i t a;grind};{rw [ņ (by rw [é];omega),é,ģ hm] at a;obtain ⟨j,rfl⟩:∃j,i=m+j:=⟨i-m,ω⟩;rw [Qn0] at a;have e:∀v,([dS p,dS q]:pz un)[j]?=some v->(vs.take m++[dS p,dS q]++sp)[m+j]?=some v:=χ;grind}
def AT (V:Ó)(v:Value)(root:Int)(l:List Nd):Prop:=∃q n c,v=.agg #[.int .i64 root,.slice q n c]/\NS V q n c l
theorem AT.le {V V':ut}{root:Int}{l:pz Nd}(h:AT V v root l)(hl:V.Le V'):AT V' v root l:=by obtain ⟨q,n,c,e,h⟩:=h;exact ⟨q,n,c,e,h.le hl⟩
theorem Fo {l:pz Nd}(hb:∀x∈l,Bd x.ln){root:Int}(h:AT V v root l):À 57 #[v] V λr V'=>∃q,r=tN #[dS q,dB (Ek l root).isSome]/\∀t,Ek l root=some t->RT V' q t:=by obtain ⟨p,n,c,rfl,h⟩:=h;refine (Se hb root h).s ?_;rintro r V' _ ⟨b,d⟩;(cases e:Ek l root with|none=>{obtain ⟨q,rfl⟩:=b e;exact ⟨q,rfl,λt a=>by cases a⟩}|some t=>{obtain ⟨q,rfl,f⟩:=d t e;exact ⟨q,rfl,λg a=>by cases a;exact f⟩})
def RW (V:Ó):OA->Tr->Prop
 | p,.leaf i=>∃(b:Nat)(c2 c3 c4 c5 c6 c7 c8 c9:Value),p=some ⟨b,0,none⟩/\V.bg b (.cells #[.bool true,.bool i,c2,c3,c4,c5,c6,c7,c8,c9] 60 (0,0))
 | p,.node l x y=>∃(b:Nat)(i:Bool)(b1:Bool)(p1:OA)(n1 c1:Nat)(b2:Bool)(p2:OA)(n2 c2:Nat)(b3:Bool)(p3:OA)(n3 c3:Nat)(pl pr:OA),p=some ⟨b,0,none⟩ /\
   V.bg b (.cells #[.bool false,.bool i,.bool b1,.slice p1 n1 c1,.bool b2,.slice p2 n2 c2,.bool b3,.slice p3 n3 c3,.pointer pl,.pointer pr] 60 (0,0)) /\
   RL V (.agg #[.bool b1,.slice p1 n1 c1,.bool b2,.slice p2 n2 c2,.bool b3,.slice p3 n3 c3]) l.1 l.2.1 l.2.2/\RW V pl x/\RW V pr y
theorem RW.le {V V':ut}(h:V.Le V'):∀{t:Tr} {p:OA},RW V p t->RW V' p t
 | .leaf i,p,⟨b,c2,c3,c4,c5,c6,c7,c8,c9,e,hb⟩=>⟨b,c2,c3,c4,c5,c6,c7,c8,c9,e,h _ _ hb⟩
 | .node l x y,p,⟨b,i,b1,p1,n1,c1,b2,p2,n2,c2,b3,p3,n3,c3,pl,pr,e,hb,hl,hx,hy⟩=>⟨b,i,b1,p1,n1,c1,b2,p2,n2,c2,b3,p3,n3,c3,pl,pr,e,h _ _ hb,hl.le h,RW.le h hx,RW.le h hy⟩
theorem cX (i:md):À 25 #[dB i] V λr V'=>∃p,r=dS p/\RW V' p (.leaf i):=
 E3 V _ λc d b a=>⟨_,rfl,b,_,_,_,_,_,_,_,_,rfl,a⟩
def me (x:L3):Prop:=bX x=true/\Bd x
theorem Zv:∀(k:Nat) {V:ut} {tb:Nat} {p:OA} {n c:Nat} {at_:Int},k<=10->Lu V p n->n<=400->kt V tb p n c at_->V.X tb->0<=at_ ->À 26 #[dS (some ⟨tb,0,none⟩),Ô .i64 (k:Int)] V λr V'=>∃q t at',r=dS q/\RW V' q t/\t.dV me/\t.size<2^k/\0<=at'/\kt V' tb p n c at':=by
 intro k
 induction k with
 | zero=>
  intro V tb p n c at_ _ a d hw s u;refine lR tb p n c at_ _ V _ hw s ⟨λg V1 l1 v e1 h1=>(gI (V:=V1.aq [v]) 2 (a.le λb o h=>l1 b o h) d e1 ⟨ψ,h1⟩ u ω).s ?_,λg=>by simp at g⟩;rintro r V2 l2 ⟨x,W,rfl,-,-,t1,e⟩;refine ⟨_,rfl,_,_,_,_,e,λV3 l3=>(cX _).s ?_⟩;rintro r V4 l4 ⟨q,rfl,w⟩;exact ⟨_,rfl,λV5 l5 e5=>⟨_,_,W,rfl,w.le l5,trivial,by simp [Tr.size],t1,e5⟩⟩
 | succ k ih=>
  intro V tb p n c at_ hk a d hw s u;refine lR tb p n c at_ _ V _ hw s ⟨λg=>by rw [Ë] at g;omega,λ_ V6 Y y e6 h6=>(gI (V:=V6.aq [y]) 4 (a.le λb o h=>Y b o h) d e6 ⟨ψ,h6⟩ u ω).s ?_⟩;rintro r V7 l7 ⟨x,W,rfl,-,-,t1,e⟩;have z:V.Le V7:=λb o h=>l7 b o (Y b o h);refine ⟨_,rfl,_,_,_,_,e,λg V8 l8 VH e8 h8=>(gI (V:=V8.aq [VH]) 2 (a.le λb o h=>l8 b o (z b o h)) d e8 ⟨ψ,h8⟩ t1 ω).s ?_,λg ku Z i A B=>(c_L (V:=ku.aq [i]) (a.le λb o h=>Z b o (z b o h)) d A ⟨ψ,B⟩ t1).s ?_⟩
  ·rintro r V9 l9 ⟨x,j,rfl,-,-,t2,f⟩;refine ⟨_,rfl,_,_,_,_,f,λfW a0=>(cX _).s ?_⟩;rintro r fk bw ⟨q,rfl,w⟩;exact ⟨_,rfl,λiD bY C=>⟨_,_,j,rfl,w.le bY,trivial,by simpa [Tr.size] using İ _,t2,C⟩⟩
  ·rintro r lV cJ ⟨ln,j,hl,D,E,t2,f⟩;obtain ⟨b1,u1,v1,w1,b2,u2,v2,w2,b3,u3,v3,w3,rfl⟩:=(wG hl);have Ta:V.Le lV:=λb o h=>cJ b o (Z b o (z b o h));have wk:i64.wrap (((k+1:Nat):Int)-1)=(k:Int):=by{rw [au ω];omega};refine qxW ⟨rfl,_,_,_,_,f,λmg F VJ G H=>?_⟩;rw [wk];refine ((ih (V:=mg.aq [VJ]) ω (a.le λb o h=>F b o (Ta b o h)) d G ⟨ψ,H⟩ t2).s ?_);rintro r lY cK ⟨qa,ta,a1,rfl,I,J,a2,t3,K⟩;have WR:V.Le lY:=λb o h=>cK b o (F b o (Ta b o h));refine ⟨_,rfl,_,_,_,_,K,λmY L l M N=>(ih (V:=mY.aq [l]) ω (a.le λb o h=>L b o (WR b o h)) d M ⟨ψ,N⟩ t3).s ?_⟩;rintro r nX cD ⟨qb,O,P,rfl,Q,R,a3,t4,S⟩;refine ⟨_,rfl,_,_,_,_,S,λrU T m U hb=>⟨_,.node ln ta O,P,rfl,⟨m,_,_,_,_,_,_,_,_,_,_,_,_,_,_,_,rfl,hb,?_,?_,?_⟩,⟨⟨D,E⟩,J,R⟩,?_,t4,U⟩⟩;{exact hl.le λb o h=>T b o (cD b o (L b o (cK b o (F b o h))))};{exact RW.le (V:=lY) (V':=rU) (λb o h=>T b o (cD b o (L b o h))) I};{exact RW.le (V:=nX) (V':=rU) (λb o h=>T b o h) Q};{simp only [Tr.size];rw [Ĝ];omega}
def Tr.depth:Tr->Nat
 | .leaf _=>0
 | .node _ a b=>1+max a.depth b.depth
theorem ny:∀t:Tr,t.depth<=t.size
 | .leaf _=>Ù _
 | .node _ a b=>by have:=ny a;have:=ny b;simp only [Tr.depth,Tr.size];omega
theorem TB {a:Nat}(ha:a<=1000000)(hb:b<=1000000:=by omega):i64.wrap ((1:Int)+cw (a:Int) (b:Int))=((1+max a b:Nat):Int):=by have:cw (a:Int) (b:Int)=((max a b:Nat):Int):=by{unfold cw;split<;>omega};rw [this,au ω];omega
theorem pY:∀(t:Tr) {V:ut} {p:OA},RT V p t->t.size<=1000000->À 90 #[dS p] V λr V'=>r=Ô .i64 (t.depth:Int)
 | .leaf i,V,p,h,hs=>by
  refine qT V _ λV1 l1=>(ch (h.le l1)).s ?_;rintro r V2 l2 rfl;exact ⟨_,rfl,λ_ V3 l3=>rfl,κ⟩
 | .node ln a b,V,p,h,hs=>by
  refine qT V _ λV1 l1=>(ch (h.le l1)).s ?_;rintro r V2 l2 rfl;obtain ⟨bb,x1,x2,x3,y1,y2,y3,z1,z2,z3,pl,pr,i,rfl,hb,hl,ha,hbb⟩:=h.le (l1.m l2);have s1:=ny a;have s2:=ny b;simp only [Tr.size] at hs;refine ⟨_,rfl,κ,λ_=>⟨rfl,rfl,pl,zI hb 9 rfl,rfl,rfl,pr,zI hb 10 rfl,λf c=>(pY a (ha.le c) ω).s ?_⟩⟩;rintro r g d rfl;refine ⟨_,rfl,λj e=>(pY b (hbb.le (c.m (d.m e))) ω).s λr k l rfl=>⟨_,rfl,λm n=>by rw [TB ω];rfl⟩⟩
def lo1:Tr->Int
 | .leaf i=>if i then 0 else 1
 | .node ..=>0
theorem oZ {i:md}(h:RW V p (.leaf i)):p.isSome=true/\(∃a,ae p 0=some a/\V.at a (dB true))/\∃a,ae p 1=some a/\V.at a (dB i):=by obtain ⟨b,d,e,f,g,j,k,l,m,rfl,c⟩:=h;exact ⟨rfl,zI c 0 rfl,zI c 1 rfl⟩
end Go.Proofs.Tryz
namespace Go.Eng
open Go.Proofs.Tryz
variable {α:Type} {sz:Nat} {R:Ó->Value->α->Prop} {V V':Ó} {d:α}
theorem ç.get {vs:pz un}{al:pz α}(h:ç sz R V vs al){i:Nat}(hi:i<al.length)(hs:0<sz):∃xs:pz un,xs.length=sz/\R V (.agg xs.toArray) (al.getD i d)/\i*sz+sz<=vs.length/\(vs.drop (i*sz)).take sz=xs:=by have ⟨xs,a,b,c⟩:=h.at_ i hi;have e:=h.fP hs;have:(i+1)*sz<=al.length*sz:=ÿ _ hi;rw [Ś] at this;refine ⟨xs,a,by simpa [hi] using b,ω,?_⟩;apply Qg8;intro j;rw [ğ];split;{grind};{grind}
theorem ç.put {vs:pz un}{al:pz α}(h:ç sz R V vs al){i:Nat}(hi:i<al.length)(hs:0<sz){xs:pz un}{a:α}(hx:xs.length=sz)(ha:R V (.agg xs.toArray) a):ç sz R V (bC vs (i*sz) xs) (al.set i a):=by have r:=h.fP hs;have l:∀k,k<al.length->k*sz+sz<=vs.length:=λk d=>by{have:(k+1)*sz<=al.length*sz:=ÿ _ d;rw [Ś] at this;omega};have m:=l i hi;rw [lO];have f:(vs.take (i*sz)).length=i*sz:=by{rw [é];omega};refine ⟨λk d=>?_⟩;rw [Qf7] at d;by_cases e:k=i;{subst e;refine ⟨xs,hx,by simpa using ha,λj x b=>?_⟩;have c:=(ĥ.1 b).1;rw [ė,ņ ω,f,Qn0,Ī c];exact b};{have ⟨n,o,p,g⟩:=h.at_ k d;refine ⟨n,o,by rw [List.getElem_set_ne (λq=>e q.symm)];exact p,λj x b=>?_⟩;have c:=(ĥ.1 b).1;by_cases lt:k<i;{have:(k+1)*sz<=i*sz:=ÿ _ lt;rw [Ś] at this;rw [ė,Ī ω,ğ,Ä ω];exact g j x b};{have:(i+1)*sz<=k*sz:=ÿ _ ω;rw [Ś] at this;rw [ņ (by rw [í];omega),í,f,hx,Qn6];rw [show i*sz+sz+(k*sz+j-(i*sz+sz))=k*sz+j by omega];exact g j x b}}
theorem yR {vs xs:pz un}{o:Nat}(h:o+xs.length<=vs.length):(bC vs o xs).length=vs.length:=by rw [lO h];simp only [í,é,Ĵ];omega
theorem ç.swap {vs:pz un}{al:pz α}(h:ç sz R V vs al){i j:Nat}(hi:i<al.length)(hj:j<al.length)(hs:0<sz){xs ys:pz un}(hx:xs.length=sz)(hy:ys.length=sz)(h1:R V (.agg xs.toArray) (al.getD i d))(h2:R V (.agg ys.toArray) (al.getD j d)):ç sz R V (bC (bC vs (i*sz) ys) (j*sz) xs) (HU d al i j):=by have:=h.put hi hs hy h2;exact this.put (by simpa using hj) hs hx h1
end Go.Eng
namespace Go.Proofs.Tryz
section
variable {α:Type} (e:α->α->Bool)
def xf:α->List α->List α
 | _,[]=>[]
 | p,a::r=>if e a p then xf a r else a::xf a r
def oH:List α->List α
 | []=>[]
 | a::r=>a::xf e a r
variable {e}
theorem Fz {d:α}:∀{r:pz α} {p a:α},xf e p (r++[a])=xf e p r++if e a ((p::r).getD r.length d) then [] else [a]
 | [],p,a=>by simp [xf]
 | b::r,p,a=>by
  have ih:=Fz (d:=d) (r:=r) (p:=b) (a:=a);have c:(p::b::r).getD (b::r).length d=(b::r).getD r.length d:=rfl;rw [c,Qc0];simp only [xf];split
  ·exact ih
  ·rw [ih];rfl
theorem ru {d:α}{l:pz α}{k:Nat}(hk:k+1<l.length:=by omega):oH e (l.take (k+2))=oH e (l.take (k+1))++if e (l.getD (k+1) d) (l.getD k d) then [] else [l.getD (k+1) d]:=by (cases l with|nil=>simp at hk|cons a r=>{have b:k<r.length:=by{simpa using hk};have c:(a::r).take (k+2)=a::(r.take k++[r[k]]):=by{rw [List.take_succ_cons,Qj6 b]};have f:(a::r).take (k+1)=a::r.take k:=List.take_succ_cons;rw [c,f];simp only [oH];rw [Fz (d:=d)];have g:(a::r).getD (k+1) d=r[k]:=by{rw [Wx3,ġ,ô b];rfl};have h:(a::r.take k).getD (r.take k).length d=(a::r).getD k d:=by{have i:(r.take k).length=k:=by{rw [é];omega};rw [i];(cases k with|zero=>rfl|succ k=>{rw [Wx3,Wx3,ġ,ġ,ğ,Ä ω]})};rw [g,h,Qc0]})
theorem Jk:∀{r:pz α} {p:α},(xf e p r).length<=r.length
 | [],p=>Ù _
 | b::r,p=>by
  have:=Jk (r:=r) (p:=b);grind [xf]
theorem Jg {l:pz α}:(oH e l).length<=l.length:=by (cases l with|nil=>exact Ù _|cons a r=>{have:=Jk (e:=e) (r:=r) (p:=a);simp [oH];omega})
theorem Wg {d:α}{l:pz α}{k:Nat}(hk:k+1<l.length)(he:e (l.getD (k+1) d) (l.getD k d)=true):(oH e l).length<l.length:=by
 have key:∀j,k+2+j<=l.length->(oH e (l.take (k+2+j))).length<k+2+j:=by
  intro j
  induction j with
  | zero=>
   intro _;rw [Ę,ru (d:=d) hk,he,Ä rfl,Ć];have:=Jg (e:=e) (l:=l.take (k+1));rw [é] at this;omega
  | succ j ih=>
   intro a;have:=ih ω;rw [show k+2+(j+1)=k+1+j+2 by omega,ru (d:=d),í,show k+1+j+1=k+2+j by omega];split<;>simp<;>omega
 have:=key (l.length-(k+2)) ω
 rwa [show k+2+(l.length-(k+2))=l.length by omega,ě] at this
theorem Jh {l:pz α}(h:l.length<=1:=by omega):oH e l=l:=by
 match l,h with
 | [],_=>rfl
 | [a],_=>rfl
 | _::_::_,h=>simp at h
end
end Go.Proofs.Tryz
namespace Go.Eng
open Go.Proofs.Tryz
section
variable {α:Type} {sz:Nat} {R:Ó->Value->α->Prop} {V:Ó} {d:α}
theorem ç.V_ {vs zs:pz un}{al:pz α}(h:ç sz R V vs al){k:Nat}(hk:k<=al.length)(hs:0<sz):ç sz R V (vs.take (k*sz)++zs) (al.take k):=by have l:=h.fP hs;refine ⟨λi b=>?_⟩;rw [é] at b;have ⟨xs,c,d,e⟩:=h.at_ i ω;refine ⟨xs,c,by rw [Qt5];exact d,λj x a=>?_⟩;have f:=(ĥ.1 a).1;have g:(i+1)*sz<=k*sz:=ÿ _ ω;have m:k*sz<=al.length*sz:=ÿ _ hk;rw [Ś] at g;rw [Ī (by rw [é];omega),ğ,Ä ω];exact e j x a
end
end Go.Eng
namespace Go.Proofs.Tryz
variable{V:Ó}{v w:Value}{k n:Nat}{L M l m:L3}{s:Sp}{p:OA}{px py qx qy:Rat}
theorem LM {x y:Rat}(hx:RR V v x)(hy:RR V w y)(sx:Sz k x)(sy:Sz k y)(hk:2*k<2^40):À 262 #[v,w] V λr V'=>RR V' r (tS x y):=by have g:=hx;have i:=hy;obtain ⟨a,b,c,rfl⟩:=hx.shape;obtain ⟨d,e,f,rfl⟩:=hy.shape;refine KQ V _ λo j=>(mi (i.le j) (g.le j) sy sx).s ?_;rintro r V2 l rfl;unfold tS;exact ⟨_,rfl,λh p m=>by rw [Ä (Á h)];exact i.le (j.m (l.m m)),λh q n=>by rw [Ã (Â h)];exact g.le (j.m (l.m n))⟩
theorem LN {x y:Rat}(hx:RR V v x)(hy:RR V w y)(sx:Sz k x)(sy:Sz k y)(hk:2*k<2^40):À 263 #[v,w] V λr V'=>RR V' r (tT x y):=by have g:=hx;have i:=hy;obtain ⟨a,b,c,rfl⟩:=hx.shape;obtain ⟨d,e,f,rfl⟩:=hy.shape;refine KR V _ λo j=>(mi (i.le j) (g.le j) sy sx).s ?_;rintro r V2 l rfl;unfold tT;exact ⟨_,rfl,λh p m=>by rw [Ä (Á h)];exact i.le (j.m (l.m m)),λh q n=>by rw [Ã (Â h)];exact g.le (j.m (l.m n))⟩
theorem Sp.Hn {v w:Sp}(h1:v.sz k)(h2:w.sz k):(v.meet w).sz k:=by unfold Sp.meet Sp.sz tS tT;constructor<;>dsimp only;{split;{exact h2.1};{split;{exact h1.1};{split;{exact h2.1};{exact h1.1}}}};{split;{exact h2.2};{split;{exact h1.2};{split;{exact h2.2};{exact h1.2}}}}
theorem Fl {s t:Sp}(h:eM V v s)(h':eM V w t)(hs:s.sz k)(ht:t.sz k)(hk:2*k<2^40:=by omega):À 235 #[v,w] V λr V'=>∃u,r=tN #[u,dB (!(s.meet t).emp)]/\eM V' u (s.meet t):=by obtain ⟨S,T,p,l,m,q,rfl,U,A⟩:=h;obtain ⟨W,X,o,Y,Z,j,rfl,g1,g2⟩:=h';have lo1:s.a=true->(s.meet t).lo=t.lo/\(s.meet t).a=t.a:=λe=>by{simp [Sp.meet,e]};have D:s.a=false->t.a=false->(s.meet t).lo=tS s.lo t.lo:=λe f=>by{simp [Sp.meet,e,f]};have E:s.a=false->t.a=true->(s.meet t).lo=s.lo:=λe f=>by{simp [Sp.meet,e,f]};have n:s.a=false->(s.meet t).a=s.a:=λe=>by{simp [Sp.meet,e]};have x:s.b=true->(s.meet t).hi=t.hi/\(s.meet t).b=t.b:=λe=>by{simp [Sp.meet,e]};have F:s.b=false->t.b=false->(s.meet t).hi=tT s.hi t.hi:=λe f=>by{simp [Sp.meet,e,f]};have G:s.b=false->t.b=true->(s.meet t).hi=s.hi:=λe f=>by{simp [Sp.meet,e,f]};have y:s.b=false->(s.meet t).b=s.b:=λe=>by{simp [Sp.meet,e]};refine Dc V _ ⟨λz i=>RR i (hF #[Ô .i64 z.1,Ô .i64 z.2.1,dS z.2.2.1]) (s.meet t).lo/\RR i (hF #[Ô .i64 z.2.2.2.1,Ô .i64 z.2.2.2.2.1,dS z.2.2.2.2.2.1]) s.hi/\z.2.2.2.2.2.2.1=(s.meet t).a/\z.2.2.2.2.2.2.2=s.b,⟨λc=>?_,λc=>⟨λd i H=>(LM (U.le H) (g1.le H) hs.1 ht.1 hk).s ?_,λd=>?_⟩⟩,?_⟩;{refine ⟨(W,X,o,l,m,q,t.a,s.b),σ,?_,A,(lo1 c).2.symm,rfl⟩;rw [(lo1 c).1];exact g1};{rintro r V2 l2 g;rw [Ĥ] at d;obtain ⟨I,J,K,rfl⟩:=g.shape;refine ⟨_,_,_,rfl,(I,J,K,l,m,q,s.a,s.b),σ,?_,A.le (H.m l2),(n c).symm,rfl⟩;rw [D c d];exact g};{rw [ł] at d;refine ⟨(S,T,p,l,m,q,s.a,s.b),σ,?_,A,(n c).symm,rfl⟩;rw [E c d];exact U};{rintro ⟨L,M,N,z4,z5,z6,z7,z8⟩ V3 O ⟨B,k2,k3,k4⟩;dsimp only at B k2 k3 k4;subst k3 k4;refine ⟨rfl,λz i=>RR i (hF #[Ô .i64 z.1,Ô .i64 z.2.1,dS z.2.2.1]) (s.meet t).lo/\RR i (hF #[Ô .i64 z.2.2.2.1,Ô .i64 z.2.2.2.2.1,dS z.2.2.2.2.2.1]) (s.meet t).hi/\z.2.2.2.2.2.2.1=(s.meet t).a/\z.2.2.2.2.2.2.2=(s.meet t).b,⟨λc=>?_,λc=>⟨λd V4 P=>(LN (A.le (O.m P)) (g2.le (O.m P)) hs.2 ht.2 hk).s ?_,λd=>?_⟩⟩,?_⟩;{refine ⟨(L,M,N,Y,Z,j,(s.meet t).a,t.b),σ,B,?_,rfl,(x c).2.symm⟩;rw [(x c).1];exact g2.le O};{rintro r V5 l5 g;rw [Ĥ] at d;obtain ⟨I,J,K,rfl⟩:=g.shape;refine ⟨_,_,_,rfl,(L,M,N,I,J,K,(s.meet t).a,s.b),σ,B.le (P.m l5),?_,rfl,(y c).symm⟩;rw [F c d];exact g};{rw [ł] at d;refine ⟨(L,M,N,z4,z5,z6,(s.meet t).a,s.b),σ,B,?_,rfl,(y c).symm⟩;rw [G c d];exact k2};{rintro ⟨l,m,y3,y4,y5,y6,y7,y8⟩ V6 l6 ⟨Q,R,j3,j4⟩;dsimp only at Q R j3 j4;subst j3 j4;refine ⟨rfl,λV7 C=>(Be ⟨_,_,_,_,_,_,rfl,Q.le C,R.le C⟩ (Sp.Hn hs ht) hk).s ?_⟩;rintro r V8 l8 rfl;exact ⟨_,rfl,λV9 l9=>⟨_,rfl,_,_,_,_,_,_,rfl,Q.le (C.m (l8.m l9)),R.le (C.m (l8.m l9))⟩⟩}}
theorem rR (sl:iH k L)(sm:iH k M):Sz (4*k+3) (Ú M L):=c_ sm.1 sm.2.1 sl.2.1 sl.1.neg
theorem RK:(((M.1:Rat)*((L.1:Rat)*(((-(L.2.2:Rat))*(((L.1:Rat)*(L.1:Rat))+((L.2.1:Rat)*(L.2.1:Rat)))⁻¹))))+((M.2.1:Rat)*((L.2.1:Rat)*(((-(L.2.2:Rat))*(((L.1:Rat)*(L.1:Rat))+((L.2.1:Rat)*(L.2.1:Rat)))⁻¹)))))+(M.2.2:Rat)=j8 M L:=by unfold j8 ar cT cW fR;grind
theorem rQ (sl:iH k L)(sm:iH k M):Sz (50*k+49) (j8 M L):=by rw [<-RK];exact Sz.s (yh (k:=10*k+9) (sm.1.s ω) (sm.2.1.s ω) (sm.2.2.s ω) (ia sl.1 sl.2.1 sl.2.2) (ie sl.1 sl.2.1 sl.2.2))
theorem pf (sl:iH k L)(sm:iH k M):Sz (60*k+60) (Ø M L):=Sz.s ((rQ sl sm).mul (fA (rR sl sm))).neg
theorem IX {l m:un}(hl:uw V l L)(hv:eM V v s)(hm:uw V m M)(sl:iH k L)(hs:s.sz k)(sm:iH k M)(hk:200*k+200<2^38:=by omega):À 201 #[l,v,m] V λr V'=>∃w,r=tN #[w,dB (cF L s M)]/\eM V' w (bu L s M):=by have g:=hl;have b:=hv;have h:=hm;obtain ⟨_,_,_,_,_,_,_,_,_,rfl,-,-,-⟩:=hl;obtain ⟨_,_,_,_,_,_,rfl,-,-⟩:=hv;obtain ⟨_,_,_,_,_,_,_,_,_,rfl,-,-,-⟩:=hm;have i:s.sz (60*k+60):=⟨hs.1.s ω,hs.2.s ω⟩;have z:=CZ (60*k+60);refine EF V _ λV1 A=>(j_ (h.le A) sm.1 sm.2.1 sm.2.2).s ?_;rintro r V2 P Q;obtain ⟨_,_,_,_,_,_,rfl,-,-⟩:=id Q;refine qyW ⟨rfl,λV3 B=>(GU (g.le (A.m (P.m B))) sl.1 sl.2.1 sl.2.2).s ?_⟩;rintro r V4 R S;obtain ⟨_,_,_,_,_,_,rfl,-,-⟩:=id S;refine qyW ⟨rfl,λV5 C=>(oq (Q.le (B.m (R.m C))) (S.le C) sm.1 sm.2.1 sl.2.1 sl.1.neg).s ?_⟩;rintro r Z l6 T;have c:RR Z r (Ú M L):=T;obtain ⟨_,_,_,rfl⟩:=T.shape;have j:=A.m (P.m (B.m (R.m (C.m l6))));refine ⟨_,_,_,rfl,λV7 D=>(D0 (g.le (j.m D)) sl.1 sl.2.1 sl.2.2).s ?_⟩;rintro r V8 U W;obtain ⟨_,_,_,_,_,_,rfl,-,-⟩:=id W;refine qyW ⟨rfl,λV9 E=>(Bk (k:=10*k+9) (h.le (j.m (D.m (U.m E)))) (W.le E) (sm.1.s ω) (sm.2.1.s ω) (sm.2.2.s ω) (ia sl.1 sl.2.1 sl.2.2) (ie sl.1 sl.2.1 sl.2.2)).s ?_⟩;rintro r fW F n;rw [RK] at n;obtain ⟨_,_,_,rfl⟩:=n.shape;have f:=D.m (U.m (E.m F));refine ⟨_,_,_,rfl,λfk X=>(pX (c.le (f.m X)) (rR sl sm)).s ?_⟩;rintro r iD bY rfl;have a:=X.m bY;refine ⟨_,rfl,λd ku Y=>(pX (n.le (a.m Y)) (rQ sl sm)).s ?_,λd=>⟨λG lY H=>(GO (n.le (a.m H)) (c.le (f.m (a.m H))) (rQ sl sm) (rR sl sm)).s ?_,λG wH I=>(GO (n.le (a.m I)) (c.le (f.m (a.m I))) (rQ sl sm) (rR sl sm)).s ?_⟩⟩;{rintro r lV cJ rfl;have o:cF L s M=decide ((j8 M L).num.sign>0):=by{unfold cF;rw [Ä d]};have e:bu L s M=s:=by{unfold bu;rw [Ä d]};rw [o,e];exact ⟨_,rfl,λmg cP=>⟨_,rfl,b.le (j.m (f.m (a.m (Y.m (cJ.m cP)))))⟩⟩};{have e:bu L s M=s.meet ⟨Ø M L,0,false,true⟩:=by{unfold bu;rw [Ã (by rw [d];exact Š),Ä G]};have o:cF L s M=!(s.meet ⟨Ø M L,0,false,true⟩).emp:=by{rw [<-e];unfold cF;rw [Ã (by rw [d];exact Š)]};rw [o,e];rintro r mY J p;obtain ⟨_,_,_,rfl⟩:=p.shape;refine ⟨_,_,_,rfl,λnX q=>(iJ (p.le q) ((rQ sl sm).mul (fA (rR sl sm)))).s ?_⟩;rintro r rU K u;obtain ⟨_,_,_,rfl⟩:=u.shape;refine ⟨_,_,_,rfl,λuD x=>(Fl (t:=⟨Ø M L,0,false,true⟩) (b.le (j.m (f.m (a.m (H.m (J.m (q.m (K.m x)))))))) ⟨_,_,_,_,_,_,rfl,u.le x,RR.zero _⟩ i ⟨pf sl sm,z⟩).s ?_⟩;rintro r ux iA ⟨w,rfl,y⟩;have N:=y;obtain ⟨_,_,_,_,_,_,rfl,-,-⟩:=y;exact qyJ ⟨rfl,λuE O=>⟨_,rfl,N.le O⟩⟩};{have e:bu L s M=s.meet ⟨0,Ø M L,true,false⟩:=by{unfold bu;rw [Ã (by rw [d];exact Š),Ã (by rw [G];exact Š)]};have o:cF L s M=!(s.meet ⟨0,Ø M L,true,false⟩).emp:=by{rw [<-e];unfold cF;rw [Ã (by rw [d];exact Š)]};rw [o,e];rintro r mY J p;obtain ⟨_,_,_,rfl⟩:=p.shape;refine ⟨_,_,_,rfl,λnX q=>(iJ (p.le q) ((rQ sl sm).mul (fA (rR sl sm)))).s ?_⟩;rintro r rU K u;obtain ⟨_,_,_,rfl⟩:=u.shape;refine ⟨_,_,_,rfl,λuD x=>(Fl (t:=⟨0,Ø M L,true,false⟩) (b.le (j.m (f.m (a.m (I.m (J.m (q.m (K.m x)))))))) ⟨_,_,_,_,_,_,rfl,RR.zero _,u.le x⟩ i ⟨z,pf sl sm⟩).s ?_⟩;rintro r ux iA ⟨w,rfl,y⟩;obtain ⟨_,_,_,_,_,_,rfl,-,-⟩:=id y;exact qyJ ⟨rfl,λuE O=>⟨_,rfl,y.le O⟩⟩}
structure Ro (V:Ó) (p:OA) (n:Nat) (fs:List (L3×Sp)):Prop where
 len:n=fs.length
 at_:∀(i:Nat)(h:i<fs.length),∃ad,ae p (i*17)=some ad/\∃xs:List Value,uB V (.agg xs.toArray) fs[i].1 fs[i].2/\∀j x,xs[j]?=some x->V.at (ad.add j) x
theorem Ro.le {V V':ut}{fs:pz (L3×Sp)}(h:Ro V p n fs)(e:V.Le V'):Ro V' p n fs:=⟨h.len,λi a=>by have ⟨b,c,xs,d,f⟩:=h.at_ i a;exact ⟨b,c,xs,d.le e,λj x g=>e.at (f j x g)⟩⟩
def pH (l:L3)(s:Sp)(m:L3):List (L3×Sp):=if cF l s m=true then [(l,bu l s m)] else []
theorem Bg {c:Nat}{fs:pz (L3×Sp)}(h:Ro V p n fs)(hn:fs.length<=10000)(hs:∀f∈fs,iH k f.1/\f.2.sz k)(hk:k<=2^40:=by omega):À 55 #[zF p n c] V λr V'=>∃q m e,r=zF q m e/\y_ V' q m fs:=by
 obtain rfl:=h.len
 refine zW V _ ⟨λz V'=>∃j:Nat,z.2.2.2=(j:Int)/\j<=fs.length/\z.1=j/\j<=z.2.1/\z.2.1*14<=z.2.2.1.length/\∀(i:Nat)(_:i<j)(l:i<fs.length),∃xs:pz un,xs.length=14/\O4 V' (.agg xs.toArray) fs[i].1 fs[i].2/\∀q x,xs[q]?=some x->z.2.2.1[i*14+q]?=some x,
  λz=>fs.length-z.2.2.2.toNat,⟨(0,0,[],0),σ,0,rfl,â _,rfl,Ù _,Ù _,λi l=>Å l (Ŝ i)⟩,?_⟩
 rintro ⟨b,N,u,Z⟩ V1 O ⟨j,G,yF,H,I,hv,y⟩;dsimp only at G H I hv y;subst G H;refine ⟨rfl,λd=>?_,λd V4 P A Q=>?_⟩
 ·have d:(b:Int)<fs.length:=Á d;have l:b<fs.length:=ω;obtain ⟨R,J,xs,K,a⟩:=(h.le O).at_ b l;have w:i64.wrap ((b:Int)+1)=(b:Int)+1:=au ω;dsimp only;rw [Ý,w];obtain ⟨_,_,_,_,_,_,_,_,_,_,_,_,_,_,_,ex,-,-⟩:=id K;have ex:=Æ Array.toList (Value.agg.inj ex);dsimp only at ex;subst ex;have ⟨s1,s2⟩:=hs _ (ù l);refine ⟨aQ J,⟨ω,ω⟩,_,_,_,_,_,_,_,_,_,_,_,_,_,_,_,_,_,R,J,a 0 _ rfl,a 1 _ rfl,a 2 _ rfl,a 3 _ rfl,a 4 _ rfl,a 5 _ rfl,a 6 _ rfl,a 7 _ rfl,a 8 _ rfl,a 9 _ rfl,a 10 _ rfl,a 11 _ rfl,a 12 _ rfl,a 13 _ rfl,a 14 _ rfl,a 15 _ rfl,a 16 _ rfl,λV2 L=>(IW (K.le L) s1 s2 hk).s ?_⟩;rintro r V3 S g;obtain ⟨_,_,_,_,_,_,_,_,_,_,_,_,_,_,_,_,_,_,_,_,_,_,_,_,_,_,rfl⟩:=qj g;refine ⟨_,_,_,_,_,_,_,_,_,_,_,_,_,_,_,_,_,_,_,_,_,_,_,_,_,_,_,_,rfl,ω,I,hv,rfl,?_,?_⟩;{intro v hm;simp only [å,Ě,Ì] at hm;rcases hm with rfl|rfl|rfl|rfl|rfl|rfl|rfl|rfl|rfl|rfl|rfl|rfl|rfl|rfl<;>rfl};{intro sp T U h2;refine ⟨(b+1,T,_,(b:Int)+1),by dsimp only;omega,σ,b+1,rfl,l,rfl,U,?_,?_⟩;{dsimp only;have t:(u.take (b*14)).length=b*14:=by{rw [é];omega};rw [í,í,t];simp only [Ą,į];omega};{intro i W B;dsimp only;have t:(u.take (b*14)).length=b*14:=by{rw [é];omega};by_cases o:i=b;{subst o;refine ⟨_,rfl,g,λq x s=>?_⟩;rw [ė,ņ (by rw [t];omega),t,Qn0];have:q<14:=(ĥ.1 s).1;rw [Ī (by exact this)];exact s};{obtain ⟨C,M,D,E⟩:=y i ω B;refine ⟨C,M,D.le (L.m S),λq x s=>?_⟩;have:q<14:=by{have:=(ĥ.1 s).1;omega};rw [ė,Ī (by rw [t];omega),ğ,Ä ω];exact E q x s}}}
 ·have d:¬(b:Int)<fs.length:=Â d;obtain rfl:b=fs.length:=ω;refine ⟨_,_,_,rfl,rfl,λi l=>?_⟩;have X:N≠0:=ω;have F:u≠[]:=λe=>by{rw [e] at hv;simp at hv;omega};obtain ⟨C,M,D,E⟩:=y i l l;refine ⟨⟨A,i*14,none⟩,by simp [mA,X,ae,add_zero'],C,D.le P,λq x s=>?_⟩;have Y:(⟨A,i*14,none⟩:Addr).add q=⟨A,i*14+q,none⟩:=by{rw [<-add_zero',fX,add_zero']};rw [Y];exact dL (Q F) (E q x s)
theorem Wm:((L.1:Rat)=(M.1:Rat)/\(L.2.1:Rat)=(M.2.1:Rat)/\(L.2.2:Rat)=(M.2.2:Rat))↔L=M:=by constructor;{rintro ⟨a,b,c⟩;exact Wj4 (Qd7.1 a) (Wj4 (Qd7.1 b) (Qd7.1 c))};{rintro rfl;exact ⟨rfl,rfl,rfl⟩}
theorem rF (hl:uw V v L)(hm:uw V w M)(sl:iH k L)(sm:iH k M)(hk:k+k<2^40:=by omega):À 123 #[v,w] V λr V'=>r=dB (decide (L=M)):=by refine (yk hl hm sl.1 sl.2.1 sl.2.2 sm.1 sm.2.1 sm.2.2 hk).s ?_;rintro r V' l rfl;rw [É.2 Wm]
theorem zw (x y:Rat):0<=(fE x y).num:=by unfold fE;grind [Rat.num_mkRat]
theorem UD (h:¬(px=qx/\py=qy)):lG (mT px py qx qy) qx qy-lG (mT px py qx qy) px py=fE (fE (-(qy-py)) (qx-px)) (-(-(qy-py)*px+(qx-px)*py)):=by obtain ⟨f,d,e,-⟩:=rI (a:=-(qy-py)) (b:=qx-px) (c:=-(-(qy-py)*px+(qx-px)*py)) (vU h);change _=((mT px py qx qy).1:Rat) at d;change _=((mT px py qx qy).2.1:Rat) at e;generalize fE (fE (-(qy-py)) (qx-px)) (-(-(qy-py)*px+(qx-px)*py))=g at *;have i:=Qn8 g f;have j:=Qn8 _ ((O1 h).norm);unfold lG;have k:fR (mT px py qx qy)=((qy-py)*(qy-py)+(qx-px)*(qx-px))*(g⁻¹*g⁻¹):=by{unfold fR;rw [<-d,<-e];grind};grind
theorem XA (h:¬(px=qx/\py=qy)):(MY px py qx qy).emp=false:=by obtain ⟨f,-⟩:=rI (a:=-(qy-py)) (b:=qx-px) (c:=-(-(qy-py)*px+(qx-px)*py)) (vU h);have d:=UD h;have i:=zw (fE (-(qy-py)) (qx-px)) (-(-(qy-py)*px+(qx-px)*py));unfold MY Sp.emp;generalize fE (fE (-(qy-py)) (qx-px)) (-(-(qy-py)*px+(qx-px)*py))=g at *;have e:dO (lG (mT px py qx qy) px py) (lG (mT px py qx qy) qx qy)=- g.num.sign:=by{rw [PE,<-d];rfl};grind [J1]
theorem seg_ok (h:¬(px=qx/\py=qy)):U9 (mT px py qx qy) (MY px py qx qy):=⟨TZ h,⟨κ,κ⟩,XA h⟩
theorem rq0 (V:ut):RQ V (hF #[dB false,zF none 0 0,zF none 0 0]) 0:=by have:=RQ.zero (V:=V);simpa using this
theorem uN:À 212 #[] V λr V'=>pU V' r ⟨0,0,true,true⟩:=
 EV V _ λa b=>⟨_,_,_,_,_,_,_,_,_,_,_,_,_,_,rfl,rq0 _,rq0 _⟩
theorem CF (h:pU V v s):∃b p n c p' n' c' d q m e q' m' e',v=hF #[dB b,zF p n c,zF p' n' c',dB d,zF q m e,zF q' m' e',dB s.a,dB s.b]:=by obtain ⟨_,_,_,_,_,_,_,_,_,_,_,_,_,_,e,-⟩:=h;exact qyK e
theorem Kv (h:RF V v l s):∃b1 p1 n1 c1 b2 p2 n2 c2 b3 p3 n3 c3 b p n c p' n' c' d q m e q' m' e',
 v=hF #[dB b1,zF p1 n1 c1,dB b2,zF p2 n2 c2,dB b3,zF p3 n3 c3,dB b,zF p n c,zF p' n' c',dB d,zF q m e,zF q' m' e',dB s.a,dB s.b]:=by obtain ⟨_,_,_,_,_,_,_,_,_,_,_,_,_,_,_,_,_,_,_,_,_,_,_,_,_,_,e,-⟩:=h;exact ⟨_,_,_,_,_,_,_,_,_,_,_,_,_,_,_,_,_,_,_,_,_,_,_,_,_,_,e⟩
theorem XJ {k:Nat}(h:iH k l):l.1.natAbs<2^k/\l.2.1.natAbs<2^k/\l.2.2.natAbs<2^k:=by have e:∀{x:Int},Sz k (x:Rat)->x.natAbs<2^k:=λh=>by{have:=h.1;rwa [Qf6] at this};exact ⟨e h.1,e h.2.1,e h.2.2⟩
theorem Zt (h:iH 1000 l):Bd l:=XJ (k:=1000) h
theorem mK (z w:Int){q:OA}{c m e:Nat}(ha:RD V p n c (ah z.natAbs))(hb:RD V q m e (ah w.natAbs))(hm:(ah z.natAbs).length<=2^40)(hn:(ah w.natAbs).length<=2^40):À 141 #[hF #[dB (decide (z<0)),zF p n c],hF #[dB (decide (w<0)),zF q m e]] V λr V'=>r=Ô .i64 (z-w).sign:=by refine Dm V _ λi a=>(jP w (hb.le a)).s ?_;rintro r V2 d ⟨j,k,l,rfl,f⟩;refine qyQ ⟨rfl,λo b=>(wU z (-w) (ha.le (a.m (d.m b))) (f.le b) hm (by rw [ş];exact hn)).s ?_⟩;rintro r s t ⟨u,v,x,rfl,g⟩;refine qyQ ⟨rfl,λy h=>(oD _ (g.le h)).s λr A B rfl=>⟨_,rfl,λC D=>by rw [Int.sub_eq_add_neg]⟩⟩
def jR (l m:L3):Int:=if (l.1-m.1).sign≠0 then (l.1-m.1).sign else if (l.2.1-m.2.1).sign≠0 then (l.2.1-m.2.1).sign else (l.2.2-m.2.2).sign
theorem G2:jR l m=0↔l=m:=by have e:∀{a b:Int},(a-b).sign=0↔a=b:=λ{a b}=>by{rw [Qm6];omega};unfold jR;constructor;{intro h;by_cases c:(l.1-m.1).sign=0;{rw [Ã (by simpa using c)] at h;by_cases d:(l.2.1-m.2.1).sign=0;{rw [Ã (by simpa using d)] at h;exact Wj4 (e.1 c) (Wj4 (e.1 d) (e.1 h))};{rw [Ä d] at h;exact Å h d}};{rw [Ä c] at h;exact Å h c}};{rintro rfl;simp}
theorem mq (hl:RL V v l.1 l.2.1 l.2.2)(hm:RL V w m.1 m.2.1 m.2.2)(sl:iH k l)(sm:iH k m)(hk:k<=2^40:=by omega):À 83 #[v,w] V λr V'=>r=Ô .i64 (jR l m):=by have ⟨d1,d2,d3⟩:=sl.ah hk;have ⟨f,g,i⟩:=sm.ah hk;obtain ⟨_,_,_,_,_,_,_,_,_,rfl,j,n,o⟩:=hl;obtain ⟨_,_,_,_,_,_,_,_,_,rfl,p,q,s⟩:=hm;refine Ii V _ λt a=>(mK _ _ (j.le a) (p.le a) d1 f).s ?_;rintro r V2 b rfl;unfold jR;refine ⟨_,rfl,λh u x=>?_,λh y c=>(mK _ _ (n.le (a.m (b.m c))) (q.le (a.m (b.m c))) d2 g).s ?_⟩;{rw [bne_iff_ne] at h;rw [Ä h]};{rw [bne_eq_false_iff_eq] at h;rw [Ã (by rw [h];decide)];rintro r z d rfl;refine ⟨_,rfl,λh A B=>?_,λh C e=>(mK _ _ (o.le (a.m (b.m (c.m (d.m e))))) (s.le (a.m (b.m (c.m (d.m e))))) d3 i).s ?_⟩;{rw [bne_iff_ne] at h;rw [Ä h]};{rw [bne_eq_false_iff_eq] at h;rw [Ã (by rw [h];decide)];rintro r D E rfl;exact ⟨_,rfl,λF G=>rfl⟩}}
theorem Jf:(jR l m==(0:Int))=decide (l=m):=by by_cases h:l=m;{rw [Ç h,Ë];exact G2.2 h};{rw [È h,beq_eq_false_iff_ne];exact λe=>h (G2.1 e)}
def Rn (u:Value):Prop:=u=.agg #[.bool false,.slice none 0 0,.slice none 0 0,.bool false,.slice none 0 0,.slice none 0 0]
theorem Um (hl:RL V v l.1 l.2.1 l.2.2)(hm:RL V w m.1 m.2.1 m.2.2)(sl:iH k l)(sm:iH k m)(hk:20*k+20<2^38:=by omega):À 99 #[v,w] V λr V'=>∃u,r=tN #[u,dB (decide (ß l m≠0))]/\(ß l m=0->Rn u)/\(ß l m≠0->RP V' u (meX l m) (meY l m)):=by have e0:((l.1:Int):Rat)*((m.2.1:Int):Rat)-((m.1:Int):Rat)*((l.2.1:Int):Rat)=ß l m:=by{unfold ß;grind};have e1:((l.2.1:Int):Rat)*((m.2.2:Int):Rat)-((m.2.1:Int):Rat)*((l.2.2:Int):Rat)=((l.2.1:Rat)*(m.2.2:Rat))-((l.2.2:Rat)*(m.2.1:Rat)):=χ;have e2:((m.1:Int):Rat)*((l.2.2:Int):Rat)-((l.1:Int):Rat)*((m.2.2:Int):Rat)=((l.2.2:Rat)*(m.1:Rat))-((l.1:Rat)*(m.2.2:Rat)):=χ;obtain ⟨a,b,i⟩:=sl;obtain ⟨j,n,o⟩:=sm;obtain ⟨_,_,_,_,_,_,_,_,_,rfl,a1,a2,a3⟩:=hl;obtain ⟨_,_,_,_,_,_,_,_,_,rfl,b1,b2,b3⟩:=hm;refine EN V _ λV1 D=>(bz (a1.le D) a).s ?_;rintro r V2 l2 E;obtain ⟨_,_,_,_,_,_,rfl⟩:=E.shape;refine qyZ ⟨rfl,λV3 F=>(bz (b2.le (D.m (l2.m F))) n).s ?_⟩;rintro r V4 l4 G;obtain ⟨_,_,_,_,_,_,rfl⟩:=G.shape;refine qyZ ⟨rfl,λV5 H=>(aY (E.le (F.m (l4.m H))) (G.le H) a n).s ?_⟩;rintro r V6 l6 I;obtain ⟨_,_,_,_,_,_,rfl⟩:=I.shape;refine qyZ ⟨rfl,λV7 l7=>(bz (b1.le (D.m (l2.m (F.m (l4.m (H.m (l6.m l7))))))) j).s ?_⟩;rintro r V8 l8 J;obtain ⟨_,_,_,_,_,_,rfl⟩:=J.shape;refine qyZ ⟨rfl,λV9 l9=>(bz (a2.le (D.m (l2.m (F.m (l4.m (H.m (l6.m (l7.m (l8.m l9))))))))) b).s ?_⟩;rintro r fW p K;obtain ⟨_,_,_,_,_,_,rfl⟩:=K.shape;refine qyZ ⟨rfl,λfk bw=>(aY (J.le (l9.m (p.m bw))) (K.le bw) j b).s ?_⟩;rintro r iD bY L;obtain ⟨_,_,_,_,_,_,rfl⟩:=L.shape;refine qyZ ⟨rfl,λku ct=>(ir (I.le (l7.m (l8.m (l9.m (p.m (bw.m (bY.m ct))))))) (L.le ct) (a.mul n) (j.mul b)).s ?_⟩;rintro r lV cJ e;rw [e0] at e;obtain ⟨_,_,_,_,_,_,rfl,M,-⟩:=id e;have sD:Sz (4*k+3) (((l.1:Int):Rat)*((m.2.1:Int):Rat)-((m.1:Int):Rat)*((l.2.1:Int):Rat)):=Sz.s ((a.mul n).sub (j.mul b));rw [e0] at sD;refine qyZ ⟨rfl,λmg cP=>(rj _ (M.le cP)).s ?_⟩;rintro r lY cK rfl;refine ⟨_,rfl,λq mY cG=>?_,λq=>?_⟩;{rw [Ë,vQ] at q;rw [q];exact ⟨_,rfl,λ_=>rfl,λh=>Å rfl h⟩};{rw [beq_eq_false_iff_ne,ne_eq,vQ] at q;rw [Ç q];have N:¬(ß l m).num=0:=λh=>q (Ŏ.1 h);intro mY cG;have O:=(D.m (l2.m (F.m (l4.m (H.m (l6.m (l7.m (l8.m (l9.m (p.m (bw.m (bY.m (ct.m (cJ.m (cP.m (cK.m cG))))))))))))))));replace e:=e.le (cP.m (cK.m cG));refine (bz (a2.le O) b).s ?_;rintro r nX P Q;obtain ⟨_,_,_,_,_,_,rfl⟩:=Q.shape;refine qyZ ⟨rfl,λrU y=>(bz (b3.le (O.m (P.m y))) o).s ?_⟩;rintro r uD R S;obtain ⟨_,_,_,_,_,_,rfl⟩:=S.shape;refine qyZ ⟨rfl,λux z=>(aY (Q.le (y.m (R.m z))) (S.le z) b o).s ?_⟩;rintro r uE iP T;obtain ⟨_,_,_,_,_,_,rfl⟩:=T.shape;refine qyZ ⟨rfl,λwH U=>(bz (b2.le (O.m (P.m (y.m (R.m (z.m (iP.m U))))))) n).s ?_⟩;rintro r Gv kS W;obtain ⟨_,_,_,_,_,_,rfl⟩:=W.shape;refine qyZ ⟨rfl,λIF X=>(bz (a3.le (O.m (P.m (y.m (R.m (z.m (iP.m (U.m (kS.m X))))))))) i).s ?_⟩;rintro r O6 pG Y;obtain ⟨_,_,_,_,_,_,rfl⟩:=Y.shape;refine qyZ ⟨rfl,λYb Z=>(aY (W.le (X.m (pG.m Z))) (Y.le Z) n i).s ?_⟩;rintro r Vz tQ a0;obtain ⟨_,_,_,_,_,_,rfl⟩:=a0.shape;refine qyZ ⟨rfl,λYc xw=>(ir (T.le (U.m (kS.m (X.m (pG.m (Z.m (tQ.m xw))))))) (a0.le xw) (b.mul o) (n.mul i)).s ?_⟩;rintro r Rc xy c;rw [e1] at c;obtain ⟨_,_,_,_,_,_,rfl⟩:=c.shape;have sX:Sz (4*k+3) (((l.2.1:Rat)*(m.2.2:Rat))-((l.2.2:Rat)*(m.2.1:Rat))):=by{rw [<-e1];exact Sz.s ((b.mul o).sub (n.mul i))};have M1:=(O.m (P.m (y.m (R.m (z.m (iP.m (U.m (kS.m (X.m (pG.m (Z.m (tQ.m (xw.m xy)))))))))))));replace e:=e.le (P.m (y.m (R.m (z.m (iP.m (U.m (kS.m (X.m (pG.m (Z.m (tQ.m (xw.m xy))))))))))));refine qyZ ⟨rfl,λb7 A=>(bz (b1.le (M1.m A)) j).s ?_⟩;rintro r Zf zG a4;obtain ⟨_,_,_,_,_,_,rfl⟩:=a4.shape;refine qyZ ⟨rfl,λVc B=>(bz (a3.le (M1.m (A.m (zG.m B)))) i).s ?_⟩;rintro r b8 Az a5;obtain ⟨_,_,_,_,_,_,rfl⟩:=a5.shape;refine qyZ ⟨rfl,λb9 C=>(aY (a4.le (B.m (Az.m C))) (a5.le C) j i).s ?_⟩;rintro r c0 JP a6;obtain ⟨_,_,_,_,_,_,rfl⟩:=a6.shape;refine qyZ ⟨rfl,λc1 Qh=>(bz (a1.le (M1.m (A.m (zG.m (B.m (Az.m (C.m (JP.m Qh)))))))) a).s ?_⟩;rintro r c2 Of a7;obtain ⟨_,_,_,_,_,_,rfl⟩:=a7.shape;refine qyZ ⟨rfl,λc3 Vo=>(bz (b3.le (M1.m (A.m (zG.m (B.m (Az.m (C.m (JP.m (Qh.m (Of.m Vo)))))))))) o).s ?_⟩;rintro r c4 f a8;obtain ⟨_,_,_,_,_,_,rfl⟩:=a8.shape;refine qyZ ⟨rfl,λc5 d=>(aY (a7.le (Vo.m (f.m d))) (a8.le d) a o).s ?_⟩;rintro r c6 s a9;obtain ⟨_,_,_,_,_,_,rfl⟩:=a9.shape;refine qyZ ⟨rfl,λc7 g=>(ir (a6.le (Qh.m (Of.m (Vo.m (f.m (d.m (s.m g))))))) (a9.le g) (j.mul i) (a.mul o)).s ?_⟩;rintro r c8 b0 t;rw [e2] at t;obtain ⟨_,_,_,_,_,_,rfl⟩:=t.shape;have sY:Sz (4*k+3) (((l.2.2:Rat)*(m.1:Rat))-((l.1:Rat)*(m.2.2:Rat))):=by{rw [<-e2];exact Sz.s ((j.mul i).sub (a.mul o))};replace e:=e.le (A.m (zG.m (B.m (Az.m (C.m (JP.m (Qh.m (Of.m (Vo.m (f.m (d.m (s.m (g.m b0)))))))))))));replace c:=c.le (A.m (zG.m (B.m (Az.m (C.m (JP.m (Qh.m (Of.m (Vo.m (f.m (d.m (s.m (g.m b0)))))))))))));refine qyZ ⟨rfl,λc9 Tk=>(ji (c.le Tk) (e.le Tk) N sX sD).s ?_⟩;rintro r d0 b4 gr;obtain ⟨_,_,_,_,_,_,rfl⟩:=gr.shape;refine qyZ ⟨rfl,λd1 x=>(ji (t.le (Tk.m (b4.m x))) (e.le (Tk.m (b4.m x))) N sY sD).s ?_⟩;rintro r d2 b6 gs;obtain ⟨_,_,_,_,_,_,rfl⟩:=gs.shape;exact qyZ ⟨rfl,λd3 b5=>⟨_,rfl,λh=>Å h q,λ_=>⟨_,_,_,_,_,_,_,_,_,_,_,_,rfl,gr.le (x.m (b6.m b5)),gs.le b5⟩⟩⟩}
end Go.Proofs.Tryz
