import Derived.Test.YtapnijmlbakblaaGreatDoorZP17
import Derived.Test.YtapnijmlbakblaaGreatDoorZP15
import Derived.Test.YtapnijmlbakblaaGreatDoorZP10
set_option linter.unusedVariables false
open Go.IntKind (i64 u64 u32)
namespace Go.Proofs.Tryz
open Go.Eng Go.Big
abbrev en:=Rat×Int×Int
def gw (k:Int)(s:Sp):List en:=(if s.a then [] else [(s.lo,k,1)])++(if s.b then [] else [(s.hi,k,-1)])
def lD (A B:List Sp):List en:=A.flatMap (gw 0)++B.flatMap (gw 1)
def jV:List Sp->Int
 | []=>0
 | s::r=>(if s.a then 1 else 0)+jV r
def i_ (k:Int):List en->Rat->Int
 | [],_=>0
 | c::r,t=>(if c.2.1=k/\c.1<t then c.2.2 else 0)+i_ k r t
def fA (k:Int):List en->Int
 | []=>0
 | c::r=>(if c.2.1=k then c.2.2 else 0)+fA k r
theorem G4 {k:Int}{t:Rat}{l m:List en}(h:l.Perm m):i_ k l t=i_ k m t:=by
 induction h with
 | nil=>rfl
 | cons x _ ih=>simp only [i_,ih]
 | swap x y l=>simp only [i_];omega
 | trans _ _ h1 h2=>exact h1.trans h2
theorem ku {k:Int}{t:Rat}:∀{l m:List en},i_ k (l++m) t=i_ k l t+i_ k m t
 | [],m=>by simp [i_]
 | c::r,m=>by simp only [Qd6,i_,ku (l:=r)];omega
theorem vS {k:Int}:∀{l m:List en},fA k (l++m)=fA k l+fA k m
 | [],m=>by simp [fA]
 | c::r,m=>by simp only [Qd6,fA,vS (l:=r)];omega
theorem CH {k:Int}{t:Rat}:∀{l:List en},(∀c∈l,c.1<t)->i_ k l t=fA k l
 | [],_=>rfl
 | c::r,h=>by
  simp only [i_,fA,CH (l:=r) fun x hx=>h x (by simp [hx]),h c (by simp),and_true]
theorem zw {k:Int}{t:Rat}:∀{l:List en},(∀c∈l,¬c.1<t)->i_ k l t=0
 | [],_=>rfl
 | c::r,h=>by
  simp only [i_,zw (l:=r) fun x hx=>h x (by simp [hx]),h c (by simp),and_false,if_false];omega
theorem oa {k k':Int}{t:Rat}(hk:k≠k'):∀{l:List Sp},i_ k (l.flatMap (gw k')) t=0
 | []=>rfl
 | s::r=>by
  rw [Qw8,ku,oa hk (l:=r)];have hk':¬k'=k:=fun e=>hk e.symm;unfold gw;cases s.a<;>cases s.b<;>simp [i_,hk']
theorem vT {k:Int}{t:Rat}:∀{l:List Sp},(∀s∈l,s.good)->(∀s∈l,¬s.ew t)->jV l+i_ k (l.flatMap (gw k)) t=(l.countP fun s=>s.innB t:Nat)
 | [],_,_=>rfl
 | s::r,hg,he=>by
  have ih:=vT (k:=k) (t:=t) (l:=r) (fun x c=>hg x (by simp [c])) fun x c=>he x (by simp [c]);have d:=(hg s (by simp)).2;have e:=he s (by simp);rw [Qw8,ku,List.countP_cons];simp only [jV];rw [Sp.kM] at d;unfold Sp.ew at e
  have key:(if s.a=true then (1:Int) else 0)+i_ k (gw k s) t=(if s.innB t=true then 1 else 0:Nat):=by
   unfold gw Sp.innB;cases ha:s.a<;>cases hb:s.b<;>simp [ha,hb] at d e<;>simp [i_]<;>(try (by_cases f:s.lo<t))<;>(try (by_cases g:s.hi<t))<;>(try (by_cases h:t<s.hi))<;>simp_all<;>grind
  omega
theorem BH {l:List Sp}{t:Rat}:decide ((0:Int)<(l.countP fun s=>s.innB t:Nat))=inB l t:=by
 refine E_ ⟨fun h=>?_,fun h=>?_⟩
 ·have h:=of_decide_eq_true h;have:0<l.countP fun s=>s.innB t:=by omega
  obtain ⟨s,a,h⟩:=List.countP_pos_iff.1 this;exact Qc0.2 ⟨s,a,h⟩
 ·obtain ⟨s,a,h⟩:=Qc0.1 h;have:0<l.countP fun s=>s.innB t:=List.countP_pos_iff.2 ⟨s,a,h⟩;exact decide_eq_true (by omega)
theorem Kj {A B:List Sp}{c:en}:c∈lD A B->∃s∈A++B,s.ew c.1:=by
 intro h
 have one:∀{k:Int} {s:Sp},c∈gw k s->s.ew c.1:=fun {k s} h=>by
  unfold gw at h;unfold Sp.ew;cases ha:s.a<;>cases hb:s.b<;>simp [ha,hb] at h ⊢
  ·rcases h with rfl|rfl<;>simp
  ·subst h;rfl
  ·subst h;rfl
 rcases Qw1.1 h with h|h
 ·obtain ⟨s,d,h⟩:=Qw5.1 h;exact ⟨s,Qk3 _ d,one h⟩
 ·obtain ⟨s,d,h⟩:=Qw5.1 h;exact ⟨s,Qb7 _ d,one h⟩
def ke (s:Sp):Sp:=⟨s.lo,0,s.a,true⟩
def vV (was:Bool)(last:Sp)(out:List Sp):List Sp:=out++if was then [ke last] else []
def Hz (acc:Bool->Bool->Bool)(A B:List Sp)(t:Rat):Bool:=acc (inB A t) (inB B t)
structure Lp (acc:Bool->Bool->Bool) (A B:List Sp) (cs:List en) (i:Nat) (was:Bool) (last:Sp) (out:List Sp):Prop where
 rg:tY (vV was last out)
 lo:∀s∈vV was last out,∀h:i<cs.length,s.a=false->s.lo<cs[i].1
 hi:∀s∈out,s.b=false/\∀h:i<cs.length,s.hi<cs[i].1
 inn:∀t,(∀s∈A++B,¬s.ew t)->(∀h:i<cs.length,t<cs[i].1)->inB (vV was last out) t=Hz acc A B t
 fr:was=true->last.hi=0/\last.b=false
section
variable {acc:Bool->Bool->Bool} {A B:List Sp} {cs:List en} {i:Nat} {was:Bool} {last:Sp} {out:List Sp}
theorem JF (hp:cs.Perm (lD A B))(hA:∀s∈A,s.good)(hB:∀s∈B,s.good)(hs:cs.Pairwise fun x y=>x.1<=y.1){t:Rat}(ht:∀s∈A++B,¬s.ew t)
  (h1:∀c∈cs.take i,c.1<t)(h2:∀h:i<cs.length,t<cs[i].1) :
  acc (decide ((0:Int)<jV A+fA 0 (cs.take i))) (decide ((0:Int)<jV B+fA 1 (cs.take i)))=Hz acc A B t:=by
 have d:∀c∈cs.drop i,¬c.1<t:=by
  intro c a;by_cases b:i<cs.length
  ·obtain ⟨j,f,rfl⟩:=Qt6 a;rw [Qh3];have o:=h2 b;rw [Qk7] at f;rcases Qx9 j with rfl|p
   ·simp only [Qy9];grind
   ·have:=Qb2.1 hs i (i+j) b (by omega) (by omega);grind
  ·rw [Qr9 (by omega)] at a;cases a
 have e:∀k,fA k (cs.take i)=i_ k (lD A B) t:=fun k=>by
  rw [←G4 hp,←CH h1]
  conv=>rhs;rw [←Qk5 i cs]
  rw [ku,zw d];omega
 have g:=vT (k:=0) (t:=t) hA fun s hs=>ht s (Qk3 _ hs);have l:=vT (k:=1) (t:=t) hB fun s hs=>ht s (Qb7 _ hs);have m:i_ 0 (B.flatMap (gw 1)) t=0:=oa (by decide);have n:i_ 1 (A.flatMap (gw 0)) t=0:=oa (by decide);rw [e,e];unfold lD Hz;rw [ku,ku,m,n,←BH,←BH,←g,←l,Wq2,Int.zero_add]
theorem tU {x y:List Sp}{t:Rat}:inB (x++y) t=(inB x t||inB y t):=by unfold inB;rw [List.any_append]
theorem JG {was:Bool}(hw:was=acc (decide ((0:Int)<jV A)) (decide ((0:Int)<jV B)))(hp:cs.Perm (lD A B))(hA:∀s∈A,s.good)(hB:∀s∈B,s.good)(hs:cs.Pairwise fun x y=>x.1<=y.1) :
  Lp acc A B cs 0 was ⟨0,0,true,false⟩ []:=by
 refine ⟨?_,fun s h _ a=>?_,fun s h=>(by cases h),fun t b d=>?_,fun _=>⟨rfl,rfl⟩⟩
 ·unfold vV;cases was
  ·exact ⟨fun s h=>by simp at h,by simp⟩
  ·refine ⟨fun s h=>?_,by simp⟩;obtain rfl:s=ke ⟨0,0,true,false⟩:=by simpa using h
   exact ⟨⟨fun _=>rfl,fun _=>rfl⟩,rfl⟩
 ·unfold vV at h;cases was<;>simp at h;subst h;cases a
 ·have:=JF (acc:=acc) (i:=0) hp hA hB hs b (fun c e=>by simp at e) d;simp only [Qc2,fA,Wq2] at this;rw [←this,←hw];unfold vV ke inB Sp.innB;cases was<;>simp
theorem Lg (h:Lp acc A B cs i was last out)(hi:i+1<cs.length)(he:cs[i].1=cs[i+1].1):Lp acc A B cs (i+1) was last out:=
 ⟨h.rg,fun s a _ b=>by rw [←he];exact h.lo s a (by omega) b,fun s a=>⟨(h.hi s a).1,fun _=>by rw [←he];exact (h.hi s a).2 (by omega)⟩,
  fun t c d=>h.inn t c fun _=>by rw [he];exact d hi,h.fr⟩
theorem KZ (h:Lp acc A B cs i was last out)(hi:i<cs.length){t:Rat}(ht:cs[i].1<t):inB out t=false:=by
 refine Bool.eq_false_iff.2 fun he=>?_;obtain ⟨s,c,a⟩:=Qc0.1 he;obtain ⟨d,e⟩:=h.hi s c;have:=e hi;rw [innB_iff] at a;obtain ⟨-,b⟩:=a;rw [d] at b;simp at b;grind
def iU (was now:Bool)(last:Sp)(x:Rat):Sp:=if now&&!was then ⟨x,0,false,false⟩ else if was&&!now then ⟨last.lo,x,last.a,last.b⟩ else last
def vU (was now:Bool)(last:Sp)(x:Rat)(out:List Sp):List Sp:=if was&&!now then out++[⟨last.lo,x,last.a,last.b⟩] else out
theorem Lh (h:Lp acc A B cs i was last out)(hi:i<cs.length)(hn:∀h:i+1<cs.length,cs[i].1<cs[i+1].1)(hp:cs.Perm (lD A B))(hA:∀s∈A,s.good)(hB:∀s∈B,s.good)(hs:cs.Pairwise fun x y=>x.1<=y.1)
  {now:Bool}(hw:now=acc (decide ((0:Int)<jV A+fA 0 (cs.take (i+1)))) (decide ((0:Int)<jV B+fA 1 (cs.take (i+1))))) :
  Lp acc A B cs (i+1) now (iU was now last cs[i].1) (vU was now last cs[i].1 out):=by
 have z:∃s∈A++B,s.ew cs[i].1:=Kj (hp.mem_iff.1 (Qy3 hi))
 have g:∀t,(∀s∈A++B,¬s.ew t)->cs[i].1<t->(∀h:i+1<cs.length,t<cs[i+1].1)->Hz acc A B t=now:=fun t f d n=>by
  rw [hw,JF (acc:=acc) hp hA hB hs f (fun c D=>?_) n];obtain ⟨j,E,rfl⟩:=Qt6 D;rw [Qw0] at E;rw [List.getElem_take];by_cases e:j=i
  ·subst e;exact d
  ·have:=Qb2.1 hs j i (by omega) hi (by omega);grind
 have apart:∀t,(∀s∈A++B,¬s.ew t)->t<cs[i].1\/cs[i].1<t:=fun t f=>by
  obtain ⟨s,d,n⟩:=z;have:t≠cs[i].1:=fun e=>f s d (e▸n);grind
 have on:∀{t:Rat},cs[i].1<t->inB out t=false:=fun {t}=>KZ (t:=t) h hi;have m:∀s∈vV was last out,s.a=false->s.lo<cs[i].1:=fun s hs l=>h.lo s hs hi l;have o:∀s∈out,s.hi<cs[i].1:=fun s hs=>(h.hi s hs).2 hi;have q:∀s∈out,s.b=false:=fun s hs=>(h.hi s hs).1;have inn:∀t,(∀s∈A++B,¬s.ew t)->t<cs[i].1->inB (vV was last out) t=Hz acc A B t:=fun t f d=>h.inn t f fun _=>d;have p:=h.rg;have u:=h.fr;generalize cs[i].1=x at *;clear z hw hp hs h;unfold iU vU;cases was<;>cases now<;>simp only [Bool.not_true,Bool.not_false,Bool.and_true,Wy2,Qz5,if_true,if_false]<;>unfold vV at*<;> simp only [Qz5,if_true,if_false,Qk2] at *
 ·
  refine ⟨by simpa [vV] using p,fun s hs d l=>?_,fun s hs=>⟨q s hs,fun d=>?_⟩,fun t f n=>?_,fun h=>nomatch h⟩
  ·have:=m s (by simpa [vV] using hs) l;have:=hn d;grind
  ·have:=o s hs;have:=hn d;grind
  ·simp only [vV,Qz5,if_false,Qk2];rcases apart t f with k|k
   ·exact inn t f k
   ·rw [g t f k n,on k]
 ·
  have e:inB (out++[ke ⟨x,0,false,false⟩])=fun t=>inB out t||decide (x<t):=by
   funext t;rw [tU];unfold inB ke Sp.innB;simp
  refine ⟨?_,fun s hs d l=>?_,fun s hs=>⟨q s hs,fun d=>?_⟩,fun t f n=>?_,fun _=>⟨rfl,rfl⟩⟩
  ·simp only [vV,if_true];exact pK p ⟨⟨(fun h=>nomatch h),fun _=>rfl⟩,rfl⟩ fun y r=>⟨q y r,rfl,o y r⟩
  ·simp only [vV,if_true] at hs;rcases Qw1.1 hs with hs|hs
   ·have:=m s hs l;have:=hn d;grind
   ·obtain rfl:s=ke ⟨x,0,false,false⟩:=by simpa using hs
    exact hn d
  ·have:=o s hs;have:=hn d;grind
  ·simp only [vV,if_true];rw [e];dsimp only;rcases apart t f with k|k
   ·rw [inn t f k,decide_eq_false (by grind),Bool.or_false]
   ·rw [g t f k n,decide_eq_true k,Bool.or_true]
 ·
  obtain ⟨f1,f2⟩:last.hi=0/\last.b=false:=by simpa using u
  obtain ⟨F,G,C⟩:=Cz p;have v:last.a=false->last.lo<x:=fun l=>m (ke last) (by simp) l
  have e:inB (out++[(⟨last.lo,x,last.a,last.b⟩:Sp)])=fun t=>inB out t||((last.a||decide (last.lo<t))&&decide (t<x)):=by
   funext t;rw [tU];unfold inB Sp.innB;simp [f2]
  have w:inB (out++[ke last])=fun t=>inB out t||(last.a||decide (last.lo<t)):=by
   funext t;rw [tU];unfold inB ke Sp.innB;simp
  refine ⟨?_,fun s hs d l=>?_,fun s hs=>?_,fun t f n=>?_,fun h=>nomatch h⟩
  ·simp only [vV,Qz5,if_false,Qk2];refine pK F ⟨⟨fun h=>G.1.1 h,fun h=>by rw [f2] at h;cases h⟩,?_⟩ fun y r=>⟨q y r,(C y r).2.1,(C y r).2.2⟩;rw [Sp.kM];cases l:last.a
   ·exact .inr (.inr (v l))
   ·exact .inl rfl
  ·simp only [vV,Qz5,if_false,Qk2] at hs;have:=hn d;rcases Qw1.1 hs with hs|hs
   ·have:=m s (Qk3 _ hs) l;grind
   ·obtain rfl:s=⟨last.lo,x,last.a,last.b⟩:=by simpa using hs
    have:=v l;dsimp only;grind
  ·rcases Qw1.1 hs with hs|hs
   ·exact ⟨q s hs,fun d=>by have:=o s hs;have:=hn d;grind⟩
   ·obtain rfl:s=⟨last.lo,x,last.a,last.b⟩:=by simpa using hs
    exact ⟨f2,fun d=>hn d⟩
  ·simp only [vV,Qz5,if_false,Qk2];rw [e];dsimp only;rcases apart t f with k|k
   ·rw [←inn t f k,w,decide_eq_true k,Bool.and_true]
   ·rw [g t f k n,on k,decide_eq_false (show ¬t<x by grind),Wy2];rfl
 ·
  have w:inB (out++[ke last])=fun t=>inB out t||(last.a||decide (last.lo<t)):=by
   funext t;rw [tU];unfold inB ke Sp.innB;simp
  have v:last.a=false->last.lo<x:=fun l=>m (ke last) (by simp) l;refine ⟨by simpa [vV] using p,fun s hs d l=>?_,fun s hs=>⟨q s hs,fun d=>?_⟩,fun t f n=>?_,fun _=>by simpa using u⟩
  ·have:=m s (by simpa [vV] using hs) l;have:=hn d;grind
  ·have:=o s hs;have:=hn d;grind
  ·simp only [vV,if_true];rcases apart t f with k|k
   ·exact inn t f k
   ·rw [g t f k n,w];dsimp only;cases l:last.a
    ·have:=v l;rw [decide_eq_true (show last.lo<t by grind)];simp
    ·simp
end
end Go.Proofs.Tryz
namespace Go.Proofs.Tryz
open Go.Eng Go.Big
def dC:en:=(0,0,0)
def cC (a b:en):Int:=cmpQ a.1 b.1
theorem nZ:Ord cC:=⟨fun a b h=>by unfold cC at *;rcases eK a.1 b.1 with ⟨c,e⟩|⟨c,e⟩|⟨c,e⟩<;>rcases eK b.1 a.1 with ⟨h2,e'⟩|⟨h2,e'⟩|⟨h2,e'⟩<;>rw [e] at h<;>rw [e']<;>grind,
 fun a b d h f=>by unfold cC at *;rcases eK a.1 b.1 with ⟨c,e⟩|⟨c,e⟩|⟨c,e⟩<;>rcases eK b.1 d.1 with ⟨h2,e'⟩|⟨h2,e'⟩|⟨h2,e'⟩<;>rcases eK a.1 d.1 with ⟨h3,e3⟩|⟨h3,e3⟩|⟨h3,e3⟩<;>rw [e] at h<;>rw [e'] at f<;>rw [e3]<;>grind⟩
def RC (V:View)(v:Value)(c:en):Prop:=∃(x y:Int)(p:OA),v=.agg #[.int .i64 x,.int .i64 y,.pointer p,.int .i64 c.2.1,.int .i64 c.2.2]/\RR V (.agg #[.int .i64 x,.int .i64 y,.pointer p]) c.1/\Sz 1000000 c.1
theorem RC.le {V V':View}{v:Value}{c:en}(h:RC V v c)(l:V.Le V'):RC V' v c:=by
 obtain ⟨x,y,p,e,a,b⟩:=h;exact ⟨x,y,p,e,a.le l,b⟩
theorem RC.shape {V:View}{v:Value}{c:en}(h:RC V v c):∃(x y:Int)(p:OA)(a b:Int),v=.agg #[.int .i64 x,.int .i64 y,.pointer p,.int .i64 a,.int .i64 b]:=by
 obtain ⟨x,y,p,e,-⟩:=h;exact ⟨x,y,p,_,_,e⟩
theorem cA {V:View}{v w:Value}{a b:en}(h:RC V v a)(h':RC V w b):aa prog 223 #[v,w] V fun r V'=>r=.int .i64 (cC a b):=by
 obtain ⟨x,y,p,rfl,f,g⟩:=h;obtain ⟨i,j,k,rfl,c,d⟩:=h';refine wk _ _ _ _ _ _ _ _ _ _ V _ fun l e=>(ia (f.le e) (c.le e) g d).mono ?_;rintro r m n rfl;exact ⟨_,rfl,fun o q=>rfl⟩
structure SR (V:View) (n:Nat) (vs:List Value) (l:List en):Prop where
 row:Row 5 RC V vs l
 len:n=l.length
 kO:l.length<50
theorem SR.le {V V':View}{n:Nat}{vs:List Value}{l:List en}(h:SR V n vs l)(e:V.Le V'):SR V' n vs l:=⟨h.row.le fun _ _ g=>RC.le g e,h.len,h.kO⟩
theorem SR.get {V:View}{n:Nat}{vs:List Value}{l:List en}(h:SR V n vs l){k:Nat}(hk:k<l.length):∃(x y:Int)(p:OA)(a b:Int),
  ((0+k*5)+5<=vs.length/\(vs.drop (0+k*5)).take 5=[.int .i64 x,.int .i64 y,.pointer p,.int .i64 a,.int .i64 b])/\RC V (.agg #[.int .i64 x,.int .i64 y,.pointer p,.int .i64 a,.int .i64 b]) (l.getD k dC):=by
 obtain ⟨xs,-,f,g,i⟩:=h.row.get (d:=dC) hk (by decide);have c:=f;obtain ⟨x,y,p,a,b,e⟩:=f.shape;have e:=congrArg Array.toList (Value.agg.inj e);dsimp only at e;subst e;rw [Qy1];exact ⟨x,y,p,a,b,⟨g,i⟩,c⟩
theorem SR.swap {V:View}{n:Nat}{vs:List Value}{l:List en}(h:SR V n vs l){i j:Nat}(hi:i<l.length)(hj:j<l.length){x y:Int}{p:OA}{a b x' y':Int}{p':OA}{a' b':Int}
  (h1:RC V (.agg #[.int .i64 x,.int .i64 y,.pointer p,.int .i64 a,.int .i64 b]) (l.getD i dC))(h2:RC V (.agg #[.int .i64 x',.int .i64 y',.pointer p',.int .i64 a',.int .i64 b']) (l.getD j dC)) :
  (0+i*5)+5<=vs.length/\(0+j*5)+5<=(af vs (0+i*5) [.int .i64 x',.int .i64 y',.pointer p',.int .i64 a',.int .i64 b']).length /\
  SR V n (af (af vs (0+i*5) [.int .i64 x',.int .i64 y',.pointer p',.int .i64 a',.int .i64 b']) (0+j*5) [.int .i64 x,.int .i64 y,.pointer p,.int .i64 a,.int .i64 b]) (jM dC l i j):=by
 obtain ⟨-,-,-,c,-⟩:=h.row.get (d:=dC) hi (by decide);obtain ⟨-,-,-,e,-⟩:=h.row.get (d:=dC) hj (by decide);rw [Qy1,Qy1];refine ⟨c,by rw [sE (by exact c)];exact e,h.row.swap hi hj (by decide) rfl rfl h1 h2,by rw [mQ];exact h.len,by rw [mQ];exact h.kO⟩
def rP (lb n:Nat)(l:List en)(a b:Nat)(V':View)(Q:List en->Prop):Prop:=∃vs' l',V'.w.heap[lb]?=some (.cells vs'.toArray 290 (0,0))/\SR V' n vs' l'/\gM dC l l' a b/\Q l'
theorem sP {V:View}{lb n c:Nat}{vs:List Value}{l:List en}(hw:V.w.heap[lb]?=some (.cells vs.toArray 290 (0,0)))(hx:V.X lb)(h:SR V n vs l){a b:Nat}(ni:a<=b)(hb:b<=l.length:=by omega) :
  aa prog 254 #[.slice (some ⟨lb,0,none⟩) n c,.int .i64 a,.int .i64 b,.func (.func 223) #[] #[]] V fun r V'=>r=.tuple #[]/\rP lb n l a b V' fun l'=>oG cC dC l' a b:=by
 have kO:=h.kO;have len:=h.len;have Q:i64.wrap ((a:Int)+1)=((a+1:Nat):Int):=by rw [ar (by omega)];omega
 refine fX lb n c vs a b V _ hw hx ⟨fun z V'=>∃(i:Nat)(m:List en),z.1=(i:Int)/\a<i/\(i<=b\/i=a+1)/\SR V' n z.2 m/\gM dC l m a b/\oG cC dC m a i,fun z=>(b-z.1).toNat,
  ⟨(_,vs),by and_intros<;>rfl,a+1,l,Q,by omega,.inr rfl,h,.refl _ _ _,.short (by omega)⟩,?_⟩
 rintro ⟨z,us⟩ V1 l1 ⟨i,m,e,R,q,f,d,o⟩;dsimp only at e f;subst e;dsimp only;have ml:m.length=l.length:=d.len;refine ⟨rfl,fun g=>?_,fun g V6 S T=>⟨rfl,us,m,T,f.le S,d,?_⟩⟩
 ·have g:(i:Int)<b:=of_decide_eq_true g;have U:i64.wrap ((i:Int)+1)=((i+1:Nat):Int):=by rw [ar (by omega)];omega
  rw [U];refine ⟨fun z V'=>∃(j:Nat)(k:List en),z.1=(j:Int)/\a<=j/\j<=i/\SR V' n z.2 k/\gM dC l k a b/\J5 cC dC k a i j,fun z=>z.1.toNat,⟨((i:Int),us),by and_intros<;>rfl,i,m,rfl,by omega,Qq3 _,f,d,.start o⟩,?_⟩;rintro ⟨z,ws⟩ W l2 ⟨j,k,e,Y,u,f,d,p⟩;dsimp only at e f;subst e;dsimp only;have kl:k.length=l.length:=d.len;refine ⟨rfl,fun z V'=>W.Le V'/\(z=true->a<j/\cC (k.getD j dC) (k.getD (j-1) dC)<0)/\(z=false->j<=a\/¬cC (k.getD j dC) (k.getD (j-1) dC)<0),⟨fun s=>?_,fun s=>?_⟩,?_⟩
  ·have s:(j:Int)>a:=of_decide_eq_true s;have y:i64.wrap ((j:Int)-1)=((j-1:Nat):Int):=by rw [ar (by omega)];omega
   rw [y,Qq0,Qq0];obtain ⟨A,B,C,D,E,F,G⟩:=f.get (k:=j) (by omega);obtain ⟨H,I,J,K,L,M,N⟩:=f.get (k:=j-1) (by omega);refine ⟨⟨by omega,by omega⟩,A,B,C,D,E,F,⟨by omega,by omega⟩,H,I,J,K,L,M,fun V3 O=>(cA (G.le O) (N.le O)).mono ?_⟩;rintro r V4 Z rfl;exact ⟨_,rfl,_,by and_intros<;>rfl,O.trans Z,fun h=>⟨by omega,of_decide_eq_true h⟩,fun h=>.inr (of_decide_eq_false h)⟩
  ·have s:¬(j:Int)>a:=of_decide_eq_false s;exact ⟨false,by and_intros<;>rfl,View.Le.refl _,(fun h=>nomatch h),fun _=>.inl (by omega)⟩
  ·rintro t V5 x ⟨lv,t1,t2⟩;refine ⟨rfl,fun P=>?_,fun P=>⟨(((i+1:Nat):Int),ws),by dsimp only;omega,by and_intros<;>rfl,i+1,k,rfl,by omega,.inl (by omega),f.le x,d,p.done nZ u (t2 P)⟩⟩;obtain ⟨s,v⟩:=t1 P;have y:i64.wrap ((j:Int)-1)=((j-1:Nat):Int):=by rw [ar (by omega)];omega
   rw [y,Qq0,Qq0];obtain ⟨A,B,C,D,E,F,G⟩:=(f.le x).get (k:=j) (by omega);obtain ⟨H,I,J,K,L,M,N⟩:=(f.le x).get (k:=j-1) (by omega);obtain ⟨s1,s2,s3⟩:=(f.le x).swap (i:=j) (j:=j-1) (by omega) (by omega) G N
   exact ⟨⟨by omega,by omega⟩,H,I,J,K,L,M,⟨by omega,by omega⟩,A,B,C,D,E,F,⟨by omega,by omega⟩,s1,⟨by omega,by omega⟩,s2,(((j-1:Nat):Int),_),by dsimp only;omega,by and_intros<;>rfl,j-1,_,rfl,by omega,by omega,s3,
    d.trans (gM.jM (by omega) (by omega) (by omega) (by omega)),p.move nZ s u (by omega) v⟩
 ·have g:¬(i:Int)<b:=of_decide_eq_false g;rcases q with q|q
  ·rw [show b=i by omega];exact o
  ·exact .short (by omega)
theorem uG {V:View}{lb n c:Nat}{vs:List Value}{l:List en}(hw:V.w.heap[lb]?=some (.cells vs.toArray 290 (0,0)))(hx:V.X lb)(h:SR V n vs l){a b:Nat}(ni:a<b)(hb:b<=l.length:=by omega) :
  aa prog 258 #[.slice (some ⟨lb,0,none⟩) n c,.int .i64 a,.int .i64 b,.func (.func 223) #[] #[]] V fun r V'=>r=.tuple #[]/\rP lb n l a b V' fun _=>True:=by
 have kO:=h.kO;have len:=h.len;have q:i64.wrap ((b:Int)-1)=((b-1:Nat):Int):=by rw [ar (by omega)];omega
 refine gJ lb n c vs a b V _ hw hx ⟨fun z V'=>∃(i j:Nat)(m:List en),z.1=(i:Int)/\z.2.1=(j:Int)/\a<=i/\j<b/\i<=b/\SR V' n z.2.2 m/\gM dC l m a b,fun z=>(z.2.1-z.1).toNat,
  ⟨((a:Int),((b-1:Nat):Int),vs),by and_intros<;>first|rfl|exact q,a,b-1,l,rfl,rfl,by omega,by omega,by omega,h,.refl _ _ _⟩,?_⟩
 rintro ⟨z,M,us⟩ N O ⟨i,j,m,e,p,P,Q,s,g,d⟩;dsimp only at e p g;subst e p;dsimp only;have R:m.length=l.length:=d.len;refine ⟨rfl,fun f=>?_,fun f S t o=>⟨rfl,us,m,o,g.le t,d,trivial⟩⟩;have f:(i:Int)<j:=of_decide_eq_true f;have u:i64.wrap ((i:Int)+1)=((i+1:Nat):Int):=by rw [ar (by omega)];omega
 have v:i64.wrap ((j:Int)-1)=((j-1:Nat):Int):=by rw [ar (by omega)];omega
 rw [u,v,Qq0,Qq0];obtain ⟨x,y,A,B,C,D,E⟩:=g.get (k:=i) (by omega);obtain ⟨F,G,H,I,J,K,L⟩:=g.get (k:=j) (by omega);obtain ⟨s1,s2,s3⟩:=g.swap (i:=i) (j:=j) (by omega) (by omega) E L
 exact ⟨⟨by omega,by omega⟩,F,G,H,I,J,K,⟨by omega,by omega⟩,x,y,A,B,C,D,⟨by omega,by omega⟩,s1,⟨by omega,by omega⟩,s2,(((i+1:Nat):Int),((j-1:Nat):Int),_),by dsimp only;omega,by and_intros<;>rfl,i+1,j-1,_,rfl,rfl,by omega,by omega,by omega,s3,
  d.trans (gM.jM (by omega) (by omega) (by omega) (by omega))⟩
theorem uH {V:View}{lb n c:Nat}{vs:List Value}{l:List en}(hw:V.w.heap[lb]?=some (.cells vs.toArray 290 (0,0)))(hx:V.X lb)(h:SR V n vs l){f lo hi:Nat}(hb:f+hi<=l.length)(hlo:lo<50)(hp:Hp cC dC l f lo hi (some lo)) :
  aa prog 263 #[.slice (some ⟨lb,0,none⟩) n c,.int .i64 lo,.int .i64 hi,.int .i64 f,.func (.func 223) #[] #[]] V fun r V'=>r=.tuple #[]/\rP lb n l f (f+hi) V' fun l'=>Hp cC dC l' f lo hi none:=by
 have kO:=h.kO;have len:=h.len
 refine jd lb n c vs lo hi f V _ hw hx ⟨fun z V'=>∃(r:Nat)(m:List en),z.1=(r:Int)/\lo<=r/\r<50/\SR V' n z.2 m/\gM dC l m f (f+hi)/\Hp cC dC m f lo hi (some r),fun z=>(hi-z.1).toNat,
  ⟨((lo:Int),vs),by and_intros<;>rfl,lo,l,rfl,Qq3 _,hlo,h,.refl _ _ _,hp⟩,?_⟩
 rintro ⟨z,us⟩ U l1 ⟨r,m,e,W,Y,v,a,hm⟩;dsimp only at e v;subst e;dsimp only;have ml:m.length=l.length:=a.len;have Z:i64.wrap (i64.wrap ((2:Int)*(r:Int))+1)=((2*r+1:Nat):Int):=by rw [ar (x:=(2:Int)*(r:Int)) (by omega),ar (by omega)];omega
 have w1:i64.wrap (((2*r+1:Nat):Int)+1)=((2*r+2:Nat):Int):=by rw [ar (by omega)];omega
 have w2:i64.wrap ((f:Int)+((2*r+1:Nat):Int))=((f+(2*r+1):Nat):Int):=by rw [ar (by omega)];omega
 have w3:i64.wrap (((f+(2*r+1):Nat):Int)+1)=((f+(2*r+2):Nat):Int):=by rw [ar (by omega)];omega
 have w4:i64.wrap ((f:Int)+(r:Int))=((f+r:Nat):Int):=by rw [ar (by omega)];omega
 rw [Z,w1,w2,w3,w4,Qq0,Qq0,Qq0];refine ⟨rfl,fun b V2 l2 P=>⟨rfl,us,m,P,v.le l2,a,hm.leaf (by have:=of_decide_eq_true b;omega)⟩,fun b=>?_⟩;have b:¬((2*r+1:Nat):Int)≥hi:=of_decide_eq_false b;refine ⟨fun z V'=>U.Le V'/\(z=true->2*r+2<hi/\cC (m.getD (f+(2*r+1)) dC) (m.getD (f+(2*r+2)) dC)<0)/\(z=false->2*r+2<hi->¬cC (m.getD (f+(2*r+1)) dC) (m.getD (f+(2*r+2)) dC)<0),⟨fun y=>?_,fun y=>?_⟩,?_⟩
 ·have y:((2*r+2:Nat):Int)<hi:=of_decide_eq_true y;obtain ⟨A,B,C,D,E,F,G⟩:=v.get (k:=f+(2*r+1)) (by omega);obtain ⟨H,I,J,K,L,M,N⟩:=v.get (k:=f+(2*r+2)) (by omega);refine ⟨⟨by omega,by omega⟩,A,B,C,D,E,F,⟨by omega,by omega⟩,H,I,J,K,L,M,fun V3 Q=>(cA (G.le Q) (N.le Q)).mono ?_⟩;rintro q V4 l4 rfl;exact ⟨_,rfl,_,by and_intros<;>rfl,Q.trans l4,fun h=>⟨by omega,of_decide_eq_true h⟩,fun h _=>of_decide_eq_false h⟩
 ·have y:¬((2*r+2:Nat):Int)<hi:=of_decide_eq_false y;exact ⟨false,by and_intros<;>rfl,View.Le.refl _,(fun h=>nomatch h),fun _ h=>absurd h (by omega)⟩
 rintro t V5 l5 ⟨-,t1,t2⟩;refine ⟨rfl,fun z V'=>V5.Le V'/\∃k:Nat,z=(k:Int)/\(k=2*r+1\/k=2*r+2)/\k<hi/\∀p,(p=2*r+1\/p=2*r+2)->p<hi->¬cC (m.getD (f+k) dC) (m.getD (f+p) dC)<0,⟨fun R=>?_,fun R=>?_⟩,?_⟩
 ·obtain ⟨h1,h2⟩:=t1 R;refine ⟨_,by and_intros<;>rfl,View.Le.refl _,2*r+2,rfl,.inr rfl,h1,fun p s _=>?_⟩;rcases s with rfl|rfl
  ·exact nZ.J9 _ _ h2
  ·exact nZ.refl _
 ·refine ⟨_,by and_intros<;>rfl,View.Le.refl _,2*r+1,rfl,.inl rfl,by omega,fun p s S=>?_⟩;rcases s with rfl|rfl
  ·exact nZ.refl _
  ·exact t2 R S
 rintro z V6 l6 ⟨-,k,rfl,s,T,g⟩;have w5:i64.wrap ((f:Int)+(k:Int))=((f+k:Nat):Int):=by rw [ar (by omega)];omega
 rw [w5,Qq0];have d:=v.le (l5.trans l6);obtain ⟨A,B,C,D,E,F,G⟩:=d.get (k:=f+r) (by omega);obtain ⟨H,I,J,K,L,M,N⟩:=d.get (k:=f+k) (by omega);refine ⟨rfl,⟨by omega,by omega⟩,A,B,C,D,E,F,⟨by omega,by omega⟩,H,I,J,K,L,M,fun V7 u=>(cA (G.le u) (N.le u)).mono ?_⟩;rintro q V8 O rfl;refine ⟨_,rfl,fun o V9 l9 X0=>⟨rfl,us,m,X0,d.le (u.trans (O.trans l9)),a,?_⟩,fun o=>?_⟩
 ·rw [Qw7] at o;exact hm.stop nZ s g (of_decide_eq_false o)
 ·rw [Qy7] at o;have o:=of_decide_eq_true o;obtain ⟨s1,s2,s3⟩:=(d.le (u.trans O)).swap (i:=f+r) (j:=f+k) (by omega) (by omega) (G.le (u.trans O)) (N.le (u.trans O))
  exact ⟨⟨by omega,by omega⟩,H,I,J,K,L,M,⟨by omega,by omega⟩,A,B,C,D,E,F,⟨by omega,by omega⟩,s1,⟨by omega,by omega⟩,s2,((k:Int),_),by dsimp only;omega,by and_intros<;>rfl,k,_,rfl,by omega,by omega,s3,
   a.trans (gM.jM (by omega) (by omega) (by omega) (by omega)),hm.down nZ W (by omega) s T g o⟩
theorem sO {V:View}{lb n c:Nat}{vs:List Value}{l:List en}(hw:V.w.heap[lb]?=some (.cells vs.toArray 290 (0,0)))(hx:V.X lb)(h:SR V n vs l){a b:Nat}(ni:a+8<=b)(hb:b<=l.length:=by omega) :
  aa prog 256 #[.slice (some ⟨lb,0,none⟩) n c,.int .i64 a,.int .i64 b,.func (.func 223) #[] #[]] V fun r V'=>r=.tuple #[]/\rP lb n l a b V' fun _=>True:=by
 have kO:=h.kO;have len:=h.len;have D:i64.wrap ((b:Int)-a)=((b-a:Nat):Int):=by rw [ar (by omega)];omega
 have E:i64.wrap (((b-a:Nat):Int).tdiv 4)=(((b-a) / 4:Nat):Int):=by rw [show ((b-a:Nat):Int).tdiv 4=(((b-a) / 4:Nat):Int) from rfl,ar (by omega)]
 have F:i64.wrap ((((b-a) / 4:Nat):Int)*2)=(((b-a) / 4*2:Nat):Int):=by rw [ar (by omega)];omega
 have G:i64.wrap ((a:Int)+(((b-a) / 4*2:Nat):Int))=((a+(b-a) / 4*2:Nat):Int):=by rw [ar (by omega)];omega
 have H:i64.wrap (((a+(b-a) / 4*2:Nat):Int)-1)=((a+(b-a) / 4*2-1:Nat):Int):=by rw [ar (by omega)];omega
 have I:i64.wrap (((a+(b-a) / 4*2:Nat):Int)+1)=((a+(b-a) / 4*2+1:Nat):Int):=by rw [ar (by omega)];omega
 refine fW lb n c vs a b V _ hw hx ?_;rw [D,E,F,G,H,I];generalize hq:(b-a) / 4*2=q;have J:4<=q:=by omega
 have K:a+q+1<b:=by omega
 refine ⟨fun _ V1 L=>(qG (b-a) (by omega)).mono ?_,fun M=>absurd (of_decide_eq_false M) (by omega)⟩;rintro r V2 N ⟨m,rfl,m1,m2⟩;refine ⟨_,rfl,by decide,fun z V'=>∃(i:Nat)(k:List en),z.1=(i:Int)/\a+q-1<=i/\SR V' n z.2.2 k/\gM dC l k a b,fun z=>((a+q+2:Nat)-z.1).toNat,⟨(((a+q-1:Nat):Int),_,vs),by and_intros<;>rfl,a+q-1,l,rfl,Qq3 _,h.le (L.trans N),.refl _ _ _⟩,?_⟩;rintro ⟨z,sd,us⟩ V3 l3 ⟨i,k,e,hi,t,d⟩;dsimp only at e t;subst e;dsimp only;have kl:k.length=l.length:=d.len;refine ⟨rfl,by decide,fun f O P Q R S=>(DX (V:=O.ax [Q]) R ⟨by simp,S⟩).mono ?_,fun f V6 T U=>⟨rfl,us,k,U,t.le T,d,trivial⟩⟩;have f:(i:Int)<=((a+q+1:Nat):Int):=of_decide_eq_true f;rintro r A W ⟨y,rfl,Y⟩;have Z:u64.wrap ((m:Int)-1)=((m-1:Nat):Int):=by rw [aM (by omega)];omega
 rw [Z];obtain ⟨B,C⟩:=Mn (x:=y) (m:=((m-1:Nat):Int)) (by omega);generalize hv:aU .and .u64 y ((m-1:Nat):Int)=v at *;have wv:i64.wrap v=v:=ar (by omega);have w6:i64.wrap ((i:Int)+1)=((i+1:Nat):Int):=by rw [ar (by omega)];omega
 have u:SR A.shut n us k:=t.le fun b o h=>W b o (P b o h)
 obtain ⟨o,s,NN⟩:∃o:Nat,(o:Int)=(if v≥((b-a:Nat):Int) then v-((b-a:Nat):Int) else v)/\o<b-a:=by
  split
  ·exact ⟨(v-((b-a:Nat):Int)).toNat,by omega,by omega⟩
  ·exact ⟨v.toNat,by omega,by omega⟩
 refine ⟨y,rfl,y,Y,?_⟩;rw [hv,wv,w6];refine ⟨fun z V'=>z=(o:Int)/\A.shut.Le V',⟨fun g=>?_,fun g=>?_⟩,?_⟩
 ·have g:=of_decide_eq_true g;rw [if_pos g] at s;exact ⟨_,by and_intros<;>first|rfl|exact (ar (by omega)),s.symm,View.Le.refl _⟩
 ·have g:=of_decide_eq_false g;rw [if_neg g] at s;exact ⟨_,by and_intros<;>rfl,s.symm,View.Le.refl _⟩
 rintro z V7 l7 ⟨rfl,-⟩;have wo:i64.wrap ((a:Int)+(o:Int))=((a+o:Nat):Int):=by rw [ar (by omega)];omega
 rw [wo,Qq0,Qq0];have p:=u.le l7;obtain ⟨x1,y1,p1,a1,b1,B,r1⟩:=p.get (k:=i) (by omega);obtain ⟨x2,y2,p2,a2,b2,C,r2⟩:=p.get (k:=a+o) (by omega);obtain ⟨s1,s2,s3⟩:=p.swap (i:=i) (j:=a+o) (by omega) (by omega) r1 r2
 exact ⟨rfl,⟨by omega,by omega⟩,x2,y2,p2,a2,b2,C,⟨by omega,by omega⟩,x1,y1,p1,a1,b1,B,⟨by omega,by omega⟩,s1,⟨by omega,by omega⟩,s2,(((i+1:Nat):Int),y,_),by dsimp only;omega,by and_intros<;>rfl,i+1,_,rfl,by omega,s3,
  d.trans (gM.jM (by omega) (by omega) (by omega) (by omega))⟩
theorem DP {V:View}{lb n c:Nat}{vs:List Value}{l:List en}(hw:V.w.heap[lb]?=some (.cells vs.toArray 290 (0,0)))(hx:V.X lb)(h:SR V n vs l){a b:Nat}(ni:a<b)(hb:b<=l.length:=by omega) :
  aa prog 255 #[.slice (some ⟨lb,0,none⟩) n c,.int .i64 a,.int .i64 b,.func (.func 223) #[] #[]] V fun r V'=>r=.tuple #[]/\rP lb n l a b V' fun l'=>oG cC dC l' a b:=by
 have kO:=h.kO;have len:=h.len;obtain ⟨N,hN⟩:∃N,N=b-a:=⟨_,rfl⟩;have E:i64.wrap ((b:Int)-a)=(N:Int):=by rw [ar (by omega)];omega
 have F:i64.wrap ((N:Int)-1)=((N-1:Nat):Int):=by rw [ar (by omega)];omega
 have G:i64.wrap (((N-1:Nat):Int).tdiv 2)=(((N-1) / 2:Nat):Int):=by rw [show ((N-1:Nat):Int).tdiv 2=(((N-1) / 2:Nat):Int) from rfl,ar (by omega)]
 have H:a+N=b:=by omega
 refine ja lb n c vs a b V _ hw hx ?_;rw [E,F,G];refine ⟨by decide,fun z V'=>∃(i:Nat)(m:List en),z.1=(i:Int)-1/\i<=N/\SR V' n z.2 m/\gM dC l m a b/\Hp cC dC m a i N none,fun z=>(z.1+1).toNat,⟨((((N-1) / 2:Nat):Int),vs),by and_intros<;>rfl,(N-1) / 2+1,l,by dsimp only;omega,by omega,h,.refl _ _ _,⟨fun i k h1 B h3 _=>by omega,fun i j k e=>by cases e⟩⟩,?_⟩;rintro ⟨z,us⟩ V1 l1 ⟨i,m,e,hi,o,d,hp⟩;dsimp only at e o;subst e;dsimp only;have C:m.length=l.length:=d.len;refine ⟨rfl,fun g I J p K B=>?_,fun g=>?_⟩
 ·have g:(i:Int)-1≥0:=of_decide_eq_true g;obtain ⟨j,rfl⟩:∃j,i=j+1:=⟨i-1,by omega⟩;have q:((j+1:Nat):Int)-1=(j:Int):=by omega
  have s:i64.wrap ((j:Int)-1)=(j:Int)-1:=ar (by omega);rw [q];refine (uH (V:=I.ax [p]) K ⟨by simp,B⟩ (o.le J) (f:=a) (lo:=j) (hi:=N) (by omega) (by omega) hp.more).mono ?_;rintro r V3 l3 ⟨rfl,ws,t,L,u,M,v⟩;exact ⟨rfl,ws,L,((j:Int)-1,ws),by dsimp only;omega,by and_intros<;>first|rfl|exact s,j,t,rfl,by omega,u.le (fv _),d.trans (M.wide (Qq3 _) (by omega)),v⟩
 ·have g:¬(i:Int)-1≥0:=of_decide_eq_false g;obtain rfl:i=0:=by omega
  refine ⟨fun z V'=>∃(i:Nat)(m:List en),z.1=(i:Int)-1/\i<=N/\SR V' n z.2 m/\gM dC l m a b/\HQ cC dC m a i N,fun z=>(z.1+1).toNat,⟨(((N-1:Nat):Int),us),by and_intros<;>rfl,N,m,by dsimp only;omega,Qq3 _,o,d,.start hp⟩,?_⟩;rintro ⟨z,us⟩ V4 l4 ⟨i,m,e,hi,o,d,x⟩;dsimp only at e o;subst e;dsimp only;have C:m.length=l.length:=d.len;refine ⟨rfl,fun g=>?_,fun g V7 O y=>⟨rfl,us,m,y,o.le O,d,?_⟩⟩
  ·have g:(i:Int)-1≥0:=of_decide_eq_true g;obtain ⟨j,rfl⟩:∃j,i=j+1:=⟨i-1,by omega⟩;have q:((j+1:Nat):Int)-1=(j:Int):=by omega
   have s:i64.wrap ((j:Int)-1)=(j:Int)-1:=ar (by omega);have P:i64.wrap ((a:Int)+(j:Int))=((a+j:Nat):Int):=by rw [ar (by omega)];omega
   rw [q,P,Qq0,Qq0];obtain ⟨Q,R,S,T,U,W,Y⟩:=o.get (k:=a) (by omega);obtain ⟨Z,y2,p2,a2,b2,g2,r2⟩:=o.get (k:=a+j) (by omega);obtain ⟨s1,s2,s3⟩:=o.swap (i:=a) (j:=a+j) (by omega) (by omega) Y r2;refine ⟨⟨by omega,by omega⟩,Z,y2,p2,a2,b2,g2,⟨by omega,by omega⟩,Q,R,S,T,U,W,⟨by omega,by omega⟩,s1,⟨by omega,by omega⟩,s2,fun V5 l5 p e5 h5=>?_⟩;have sl:(jM dC m a (a+j)).length=l.length:=by rw [mQ];exact C
   refine (uH (V:=V5.ax [p]) e5 ⟨by simp,h5⟩ (s3.le l5) (f:=a) (lo:=0) (hi:=j) (by omega) (by omega) (x.hp.pop (by omega))).mono ?_;rintro r V6 l6 ⟨rfl,ws,t,e6,A,D,XO⟩;exact ⟨rfl,ws,e6,((j:Int)-1,ws),by dsimp only;omega,by and_intros<;>first|rfl|exact s,j,t,rfl,by omega,A.le (fv _),d.trans ((gM.jM (by omega) (by omega) (by omega) (by omega)).trans (D.wide (Qq3 _) (by omega))),x.step nZ (by omega) (by omega) D XO⟩
  ·have g:¬(i:Int)-1≥0:=of_decide_eq_false g;obtain rfl:i=0:=by omega
   have:=x.fin
   rwa [H] at this
theorem uD {V:View}{lb n c:Nat}{vs:List Value}{l:List en}(hw:V.w.heap[lb]?=some (.cells vs.toArray 290 (0,0)))(hx:V.X lb)(h:SR V n vs l){wb:Nat}{k:Int}(hw':V.w.heap[wb]?=some (.cells #[.int .i64 k] 3 (0,0)))(hx':V.X wb)(hne:lb≠wb){a b:Nat}(ha:a<l.length)(hb:b<l.length:=by omega) :
  aa prog 266 #[.slice (some ⟨lb,0,none⟩) n c,.int .i64 a,.int .i64 b,.pointer (some ⟨wb,0,none⟩),.func (.func 223) #[] #[]] V fun r V'=>∃(x y:Nat)(k':Int),r=.tuple #[.int .i64 x,.int .i64 y]/\((x=a/\y=b)\/(x=b/\y=a)) /\
   V'.w.heap[lb]?=some (.cells vs.toArray 290 (0,0))/\V'.w.heap[wb]?=some (.cells #[.int .i64 k'] 3 (0,0)):=by
 have len:=h.len;obtain ⟨g,i,j,m,o,p,q⟩:=h.get (k:=a) ha;obtain ⟨s,t,u,v,z,A,B⟩:=h.get (k:=b) hb;refine kA lb n c vs a b wb k V _ hw hx hw' hx' hne ⟨⟨by omega,by omega⟩,s,t,u,v,z,by rw [Qq0];exact A,⟨by omega,by omega⟩,g,i,j,m,o,by rw [Qq0];exact p,fun C f=>(cA (B.le f) (q.le f)).mono ?_⟩;rintro r D E rfl;exact ⟨_,rfl,fun _ F G d e=>⟨b,a,_,rfl,.inr ⟨rfl,rfl⟩,d,e⟩,fun _ H I d e=>⟨a,b,_,rfl,.inl ⟨rfl,rfl⟩,d,e⟩⟩
theorem HX {V:View}{lb n c:Nat}{vs:List Value}{l:List en}(hw:V.w.heap[lb]?=some (.cells vs.toArray 290 (0,0)))(hx:V.X lb)(h:SR V n vs l){wb:Nat}{k:Int}(hw':V.w.heap[wb]?=some (.cells #[.int .i64 k] 3 (0,0)))(hx':V.X wb)(hne:lb≠wb){a b d:Nat}(ha:a<l.length)(hb:b<l.length)(hd:d<l.length:=by omega) :
  aa prog 265 #[.slice (some ⟨lb,0,none⟩) n c,.int .i64 a,.int .i64 b,.int .i64 d,.pointer (some ⟨wb,0,none⟩),.func (.func 223) #[] #[]] V fun r V'=>∃(x:Nat)(k':Int),r=.int .i64 x/\(x=a\/x=b\/x=d) /\
   V'.w.heap[lb]?=some (.cells vs.toArray 290 (0,0))/\V'.w.heap[wb]?=some (.cells #[.int .i64 k'] 3 (0,0)):=by
 have e:∀(U:View)(u v:Nat),U.H u->U.H v->(U.ax [u,v]).X u/\(U.ax [u,v]).X v:=fun U u v hu z=>⟨⟨by simp,hu⟩,⟨by simp,z⟩⟩;refine kz lb n c vs a b d wb k V _ hw hx hw' hx' hne fun A p B v1 C f1 D q E=>(uD (V:=A.ax [B,v1]) C (e _ _ _ f1 q).1 (h.le p) D (e _ _ _ f1 q).2 E ha hb).mono ?_;rintro r F G ⟨I,J,k2,rfl,o2,K,g⟩;have s:V.Le F:=fun b o h=>G b o (p b o h);refine ⟨_,_,rfl,vs,K,_,g,fun L t M N O f3 i f P=>(uD (V:=L.ax [M,N]) O (e _ _ _ f3 f).1 (h.le fun b o h=>t b o (s b o h)) i (e _ _ _ f3 f).2 P (a:=J) (by omega) hd).mono ?_⟩;rintro r V4 Q ⟨R,y4,k4,rfl,o4,S,j⟩;refine ⟨_,_,rfl,vs,S,_,j,fun T W Y Z e5 f5 m y n5=>(uD (V:=T.ax [Y,Z]) e5 (e _ _ _ f5 y).1 (h.le fun b o h=>W b o (Q b o (t b o (s b o h)))) m (e _ _ _ f5 y).2 n5 (a:=I) (b:=R) (by omega)).mono ?_⟩;rintro r V6 l6 ⟨x6,y6,k6,rfl,o6,e6,Xc⟩;exact ⟨_,_,rfl,vs,e6,_,Xc,fun V7 l7 e7 Xd=>⟨y6,k6,rfl,by omega,e7,Xd⟩⟩
theorem xf {V:View}{lb n c:Nat}{vs:List Value}{l:List en}(hw:V.w.heap[lb]?=some (.cells vs.toArray 290 (0,0)))(hx:V.X lb)(h:SR V n vs l){a b:Nat}(ni:a+8<=b)(hb:b<=l.length:=by omega) :
  aa prog 257 #[.slice (some ⟨lb,0,none⟩) n c,.int .i64 a,.int .i64 b,.func (.func 223) #[] #[]] V fun r V'=>∃(x:Nat)(t:Int),r=.tuple #[.int .i64 x,.int .i64 t]/\a<=x/\x<b /\
   V'.w.heap[lb]?=some (.cells vs.toArray 290 (0,0)):=by
 have kO:=h.kO;have g:∀(U:View)(u v:Nat),U.H u->U.H v->(U.ax [u,v]).X u/\(U.ax [u,v]).X v:=fun U u v hu j=>⟨⟨by simp,hu⟩,⟨by simp,j⟩⟩;obtain ⟨q,L⟩:∃q,q=(b-a) / 4:=⟨_,rfl⟩;have m:i64.wrap ((b:Int)-a)=((b-a:Nat):Int):=by rw [ar (by omega)];omega
 have o:i64.wrap (((b-a:Nat):Int).tdiv 4)=(q:Int):=by rw [show ((b-a:Nat):Int).tdiv 4=(((b-a) / 4:Nat):Int) from rfl,ar (by omega)];omega
 have v1:i64.wrap ((q:Int)*1)=(q:Int):=by rw [ar (by omega)];omega
 have v2:i64.wrap ((q:Int)*2)=((2*q:Nat):Int):=by rw [ar (by omega)];omega
 have p:i64.wrap ((q:Int)*3)=((3*q:Nat):Int):=by rw [ar (by omega)];omega
 have s:i64.wrap ((a:Int)+(q:Int))=((a+q:Nat):Int):=by rw [ar (by omega)];omega
 have y:i64.wrap ((a:Int)+((2*q:Nat):Int))=((a+2*q:Nat):Int):=by rw [ar (by omega)];omega
 have z:i64.wrap ((a:Int)+((3*q:Nat):Int))=((a+3*q:Nat):Int):=by rw [ar (by omega)];omega
 refine gW lb n c vs a b V _ hw hx ?_;rw [m,o,v1,v2,p,s,y,z];refine ⟨by decide,by decide,by decide,fun _=>⟨fun e=>absurd (of_decide_eq_true e) (by omega),fun _ A B u v C f1 D i E=>(HX (V:=A.ax [u,v]) C (g _ _ _ f1 i).1 (h.le B) D (g _ _ _ f1 i).2 E (a:=a+q) (b:=a+2*q) (d:=a+3*q) (by omega) (by omega)).mono ?_⟩,fun F=>absurd (of_decide_eq_false F) (by omega)⟩;rintro r M N ⟨x,k,rfl,O,G,f⟩;exact ⟨_,rfl,vs,G,_,f,fun _ P Q I=>⟨x,_,rfl,by omega,by omega,I⟩,fun _=>⟨fun _ R S J=>⟨x,_,rfl,by omega,by omega,J⟩,fun _ T W K=>⟨x,_,rfl,by omega,by omega,K⟩⟩⟩
theorem nN {V:View}{lb n c:Nat}{vs:List Value}{l:List en}(hw:V.w.heap[lb]?=some (.cells vs.toArray 290 (0,0)))(hx:V.X lb)(h:SR V n vs l){a b:Nat}(ni:a<b)(hb:b<=l.length:=by omega) :
  aa prog 259 #[.slice (some ⟨lb,0,none⟩) n c,.int .i64 a,.int .i64 b,.func (.func 223) #[] #[]] V fun r V'=>∃t:Bool,r=.bool t/\SR V' n vs l/\V'.w.heap[lb]?=some (.cells vs.toArray 290 (0,0))/\(t=true->oG cC dC l a b):=by
 have kO:=h.kO;have len:=h.len;have s:i64.wrap ((a:Int)+1)=((a+1:Nat):Int):=by rw [ar (by omega)];omega
 have wn:i64.wrap ((b:Int)-a)=((b-a:Nat):Int):=by rw [ar (by omega)];omega
 refine dU lb n c vs a b V _ hw hx ?_;rw [s,wn];refine ⟨fun z V'=>z=(((a+1:Nat):Int),0,vs)/\V.Le V',fun z=>0,⟨(((a+1:Nat):Int),0,vs),by and_intros<;>rfl,rfl,View.Le.refl _⟩,?_⟩;rintro z u v ⟨rfl,-⟩;dsimp only;refine ⟨rfl,fun _=>⟨fun z V'=>∃i:Nat,z=(i:Int)/\a+1<=i/\i<=b/\u.Le V'/\oG cC dC l a i,fun z=>(b-z).toNat,⟨((a+1:Nat):Int),by and_intros<;>rfl,a+1,rfl,Qq3 _,by omega,View.Le.refl _,.short (by omega)⟩,?_⟩,fun x=>absurd (of_decide_eq_false x) (by decide)⟩;rintro z y p ⟨i,rfl,Y,A,-,d⟩;have B:i64.wrap ((i:Int)-1)=((i-1:Nat):Int):=by rw [ar (by omega)];omega
 have C:i64.wrap ((i:Int)+1)=((i+1:Nat):Int):=by rw [ar (by omega)];omega
 rw [B,C,Qq0,Qq0];have e:=h.le (v.trans p);refine ⟨rfl,fun z V'=>y.Le V'/\(z=true->i<b/\¬cC (l.getD i dC) (l.getD (i-1) dC)<0)/\(z=false->True),⟨fun f=>?_,fun f=>⟨false,by and_intros<;>rfl,View.Le.refl _,(fun h=>nomatch h),fun _=>trivial⟩⟩,?_⟩
 ·have f:(i:Int)<b:=of_decide_eq_true f;obtain ⟨D,E,F,G,H,I,J⟩:=e.get (k:=i) (by omega);obtain ⟨K,L,M,N,O,P,Q⟩:=e.get (k:=i-1) (by omega);refine ⟨⟨by omega,by omega⟩,D,E,F,G,H,I,⟨by omega,by omega⟩,K,L,M,N,O,P,fun Z g=>(cA (J.le g) (Q.le g)).mono ?_⟩;rintro r V4 R rfl;exact ⟨_,rfl,_,by and_intros<;>rfl,g.trans R,fun h=>⟨by omega,by simpa using h⟩,fun _=>trivial⟩
 ·rintro t V5 j ⟨-,t1,-⟩;refine ⟨rfl,fun q=>?_,fun q=>⟨fun he V6 S T=>⟨true,rfl,e.le (j.trans S),T,fun _=>?_⟩,fun _=>⟨fun _ V7 U m=>⟨false,rfl,e.le (j.trans U),m,(fun h=>nomatch h)⟩,fun o=>absurd (of_decide_eq_false o) (by omega)⟩⟩⟩
  ·obtain ⟨h1,W⟩:=t1 q;exact ⟨((i+1:Nat):Int),by dsimp only;omega,by and_intros<;>rfl,i+1,rfl,by omega,by omega,p.trans j,d.step nZ (by omega) W⟩
  ·have he:(i:Int)=b:=by simpa using he
   rw [show b=i by omega];exact d
theorem L9 {l:List en}{a piv:Nat}(ha:a<l.length)(hp:piv<l.length:=by omega):(jM dC l a piv).getD a dC=l.getD piv dC:=by
 rw [lk ha hp];by_cases e:a=piv
 ·rw [if_pos e,e]
 ·rw [if_neg e,if_pos rfl]
theorem qI {V:View}{lb n c:Nat}{vs:List Value}{l:List en}(hw:V.w.heap[lb]?=some (.cells vs.toArray 290 (0,0)))(hx:V.X lb)(h:SR V n vs l){a b piv:Nat}(ni:a+1<b)(hb:b<=l.length)(hp:a<=piv)(hp':piv<b) :
  aa prog 260 #[.slice (some ⟨lb,0,none⟩) n c,.int .i64 a,.int .i64 b,.int .i64 piv,.func (.func 223) #[] #[]] V fun r V'=>∃mid:Nat,r=.int .i64 mid/\a<mid/\mid<=b/\rP lb n l a b V' fun l'=>(∀k,a<=k->k<mid->¬cC (l.getD piv dC) (l'.getD k dC)<0)/\(∀k,mid<=k->k<b->cC (l.getD piv dC) (l'.getD k dC)<0):=by
 have kO:=h.kO;have len:=h.len;have wa:i64.wrap ((a:Int)+1)=((a+1:Nat):Int):=by rw [ar (by omega)];omega
 have wb:i64.wrap ((b:Int)-1)=((b-1:Nat):Int):=by rw [ar (by omega)];omega
 refine fG lb n c vs a b piv V _ hw hx ?_;rw [wa,wb,Qq0,Qq0];obtain ⟨u,v,y,A,B,C,D⟩:=h.get (k:=a) (by omega);obtain ⟨E,F,G,H,I,J,K⟩:=h.get (k:=piv) (by omega);obtain ⟨s1,s2,s3⟩:=h.swap (i:=a) (j:=piv) (by omega) (by omega) D K;refine ⟨⟨by omega,by omega⟩,E,F,G,H,I,J,⟨by omega,by omega⟩,u,v,y,A,B,C,⟨by omega,by omega⟩,s1,⟨by omega,by omega⟩,s2,?_⟩;generalize af (af vs (0+a*5) [.int .i64 E,.int .i64 F,.pointer G,.int .i64 H,.int .i64 I]) (0+piv*5) [.int .i64 u,.int .i64 v,.pointer y,.int .i64 A,.int .i64 B]=ws at *;have m0:=L9 (l:=l) (a:=a) (piv:=piv) (by omega);have T:gM dC l (jM dC l a piv) a b:=gM.jM (Qq3 _) (by omega) hp hp' hb;generalize jM dC l a piv=l0 at *;generalize hpv:l.getD piv dC=p at *;have YE:l0.length=l.length:=T.len;clear C J D K s1 s2;refine ⟨fun z V'=>∃(i j:Nat)(m:List en),z.1=(i:Int)/\z.2.1=(j:Int)/\SR V' n z.2.2 m/\gM dC l m a b/\m.getD a dC=p/\PT (fun x=>¬cC p x<0) dC m a b i j,fun z=>(b-z.1).toNat,⟨(((a+1:Nat):Int),((b-1:Nat):Int),ws),by and_intros<;>rfl,a+1,b-1,l0,rfl,rfl,s3,T,m0,PT.start ni⟩,?_⟩;rintro ⟨z,z',us⟩ V1 l1 ⟨i0,j,m,e,U,O,g,Q,SX⟩;dsimp only at e U O;subst e U;have ml:m.length=l.length:=g.len;refine ⟨rfl,fun z V'=>∃i:Nat,z=((i:Int),(j:Int),us)/\i0<=i/\V1.Le V'/\PT (fun x=>¬cC p x<0) dC m a b i j,fun z=>(b-z.1).toNat,⟨((i0:Int),(j:Int),us),by and_intros<;>rfl,i0,rfl,Qq3 _,View.Le.refl _,SX⟩,?_⟩;rintro _ V2 W ⟨i,rfl,a0,-,M⟩;dsimp only;have q:=O.le W;have q1:=M.hi;have Y:=M.za;have Z:=M.hj;have w1:i64.wrap ((i:Int)+1)=((i+1:Nat):Int):=by rw [ar (by omega)];omega
 rw [w1,Qq0];refine ⟨rfl,fun z V'=>V2.Le V'/\(z=true->i<=j/\¬cC p (m.getD i dC)<0)/\(z=false->i<=j->¬¬cC p (m.getD i dC)<0),⟨fun hj=>?_,fun hj=>⟨false,by and_intros<;>rfl,View.Le.refl _,(fun h=>nomatch h),fun _ h=>absurd h (by have:=of_decide_eq_false hj;omega)⟩⟩,?_⟩
 ·have hj:(i:Int)<=j:=of_decide_eq_true hj;obtain ⟨u,v,y,A,B,C,D⟩:=q.get (k:=a) (by omega);obtain ⟨E,F,G,H,I,J,K⟩:=q.get (k:=i) (by omega);refine ⟨⟨by omega,by omega⟩,u,v,y,A,B,C,⟨by omega,by omega⟩,E,F,G,H,I,J,fun W1 s=>(cA (D.le s) (K.le s)).mono ?_⟩;rintro r W2 L rfl;rw [Q];exact ⟨_,rfl,_,by and_intros<;>rfl,s.trans L,fun h=>⟨by omega,by simpa using h⟩,fun h _=>by simpa using h⟩
 rintro t V5 l5 ⟨-,t1,t2⟩;refine ⟨rfl,fun f=>⟨(((i+1:Nat):Int),(j:Int),us),by have:=(t1 f).1;dsimp only;omega,by and_intros<;>rfl,i+1,rfl,by omega,W.trans l5,M.MP (t1 f).1 (t1 f).2⟩,fun f=>?_⟩;have R:i<=j->¬((fun x=>¬cC p x<0)) (m.getD i dC):=t2 f;refine ⟨fun z V'=>∃d:Nat,z=(d:Int)/\d<=j/\V5.Le V'/\PT (fun x=>¬cC p x<0) dC m a b i d,fun z=>z.toNat,⟨(j:Int),by and_intros<;>rfl,j,rfl,Qq3 _,View.Le.refl _,M⟩,?_⟩;rintro _ V6 l6 ⟨d,rfl,a3,-,N⟩;clear t1 t2 Y Z M;have R:i<=d->¬((fun x=>¬cC p x<0)) (m.getD i dC):=fun h=>R (by omega)
 replace q:=q.le (l5.trans l6)
 have Y:=N.za;have Z:=N.hj;have w2:1<=d->i64.wrap ((d:Int)-1)=((d-1:Nat):Int):=fun h1=>by rw [ar (by omega)];omega
 rw [Qq0];refine ⟨rfl,fun z V'=>V6.Le V'/\(z=true->i<=d/\¬¬cC p (m.getD d dC)<0)/\(z=false->i<=d->¬cC p (m.getD d dC)<0),⟨fun hj=>?_,fun hj=>⟨false,by and_intros<;>rfl,View.Le.refl _,(fun h=>nomatch h),fun _ h=>absurd h (by have:=of_decide_eq_false hj;omega)⟩⟩,?_⟩
 ·have hj:(i:Int)<=d:=of_decide_eq_true hj;obtain ⟨u,v,y,A,B,C,D⟩:=q.get (k:=a) (by omega);obtain ⟨E,F,G,H,I,J,K⟩:=q.get (k:=d) (by omega);refine ⟨⟨by omega,by omega⟩,u,v,y,A,B,C,⟨by omega,by omega⟩,E,F,G,H,I,J,fun W1 s=>(cA (D.le s) (K.le s)).mono ?_⟩;rintro r W2 L rfl;rw [Q];exact ⟨_,rfl,_,by and_intros<;>rfl,s.trans L,fun h=>⟨by omega,by simpa using h⟩,fun h _=>by simpa using h⟩
 rintro t V9 P ⟨-,t1,t2⟩;refine ⟨rfl,fun f=>⟨((d-1:Nat):Int),by have:=(t1 f).1;dsimp only;omega,by have:=(t1 f).1;and_intros<;>first|rfl|exact w2 (by omega),d-1,rfl,by omega,l6.trans P,N.Mr (t1 f).1 (t1 f).2⟩,fun f=>⟨fun o=>?_,fun o=>?_⟩⟩
 ·have o:(i:Int)>d:=of_decide_eq_true o;refine fun gm S Ik=>⟨i,rfl,q1,by omega,us,m,Ik,q.le (P.trans S),g,fun k s L=>?_,fun k s L=>?_⟩
  ·by_cases e:k=a
   ·rw [e,Q];exact nZ.refl _
   ·exact N.lo k (by omega) L
  ·exact Ww2.1 (N.up k (by omega) L)
 ·have o:¬(i:Int)>d:=of_decide_eq_false o;have NJ:((fun x=>¬cC p x<0)) (m.getD d dC):=t2 f (by omega);obtain ⟨NS,NQ,NT⟩:=N.swap (by omega) (by omega) (R (by omega)) NJ;obtain ⟨u,v,y,A,B,C,D⟩:=(q.le P).get (k:=i) (by omega);obtain ⟨E,F,G,H,I,J,K⟩:=(q.le P).get (k:=d) (by omega);obtain ⟨s1,s2,s3⟩:=(q.le P).swap (i:=i) (j:=d) (by omega) (by omega) D K;exact ⟨⟨by omega,by omega⟩,E,F,G,H,I,J,⟨by omega,by omega⟩,u,v,y,A,B,C,⟨by omega,by omega⟩,s1,⟨by omega,by omega⟩,s2,(((i+1:Nat):Int),((d-1:Nat):Int),_),by dsimp only;omega,by and_intros<;>first|rfl|exact w2 (by omega),i+1,d-1,_,rfl,rfl,s3,g.trans NT,NQ.trans Q,NS⟩
theorem BC {V:View}{lb n c:Nat}{vs:List Value}{l:List en}(hw:V.w.heap[lb]?=some (.cells vs.toArray 290 (0,0)))(hx:V.X lb)(h:SR V n vs l){a b piv:Nat}(ni:a+1<b)(hb:b<=l.length)(hp:a<=piv)(hp':piv<b) :
  aa prog 261 #[.slice (some ⟨lb,0,none⟩) n c,.int .i64 a,.int .i64 b,.int .i64 piv,.func (.func 223) #[] #[]] V fun r V'=>∃(mid:Nat)(t:Bool),r=.tuple #[.int .i64 mid,.bool t]/\a<=mid/\mid<b/\rP lb n l a b V' fun l'=>(∀k,a<=k->k<mid->cC (l'.getD k dC) (l'.getD mid dC)<0)/\(∀k,mid<k->k<b->¬cC (l'.getD k dC) (l'.getD mid dC)<0):=by
 have kO:=h.kO;have len:=h.len;have wa:i64.wrap ((a:Int)+1)=((a+1:Nat):Int):=by rw [ar (by omega)];omega
 have wb:i64.wrap ((b:Int)-1)=((b-1:Nat):Int):=by rw [ar (by omega)];omega
 refine iX lb n c vs a b piv V _ hw hx ?_;rw [wa,wb,Qq0,Qq0];obtain ⟨s,u,v,y,A,B,C⟩:=h.get (k:=a) (by omega);obtain ⟨D,E,F,G,H,I,J⟩:=h.get (k:=piv) (by omega);obtain ⟨s1,s2,s3⟩:=h.swap (i:=a) (j:=piv) (by omega) (by omega) C J;refine ⟨⟨by omega,by omega⟩,D,E,F,G,H,I,⟨by omega,by omega⟩,s,u,v,y,A,B,⟨by omega,by omega⟩,s1,⟨by omega,by omega⟩,s2,?_⟩;generalize af (af vs (0+a*5) [.int .i64 D,.int .i64 E,.pointer F,.int .i64 G,.int .i64 H]) (0+piv*5) [.int .i64 s,.int .i64 u,.pointer v,.int .i64 y,.int .i64 A]=ws at *;have m0:=L9 (l:=l) (a:=a) (piv:=piv) (by omega);have g0:gM dC l (jM dC l a piv) a b:=gM.jM (Qq3 _) (by omega) hp hp' hb;generalize jM dC l a piv=l0 at *;generalize hpv:l.getD piv dC=p at *;have YE:l0.length=l.length:=g0.len;clear B I C J s1 s2;have wI:∀i:Nat,i<100->i64.wrap ((i:Int)+1)=((i+1:Nat):Int):=fun i hi=>by rw [ar (by omega)];omega
 have f:=g0;have O:=m0;have s3:=s3;generalize l0=m at *;generalize ws=us at *;have ml:m.length=l.length:=f.len;refine ⟨fun z V'=>∃i:Nat,z=(i:Int)/\V.Le V'/\PT (fun x=>cC x p<0) dC m a b i (b-1),fun z=>(b-z).toNat,⟨((a+1:Nat):Int),by and_intros<;>rfl,a+1,rfl,View.Le.refl _,PT.start ni⟩,?_⟩;rintro _ V2 W ⟨i,rfl,-,M⟩;have g:=s3.le W;have q1:=M.hi;have Q:=M.za;have R:=M.hj;have w1:=wI i (by omega);obtain ⟨j,Y⟩:∃j,j=b-1:=⟨_,rfl⟩;rw [←Y] at M Q R ⊢;rw [w1,Qq0];refine ⟨rfl,fun z V'=>V2.Le V'/\(z=true->i<=j/\cC (m.getD i dC) p<0)/\(z=false->i<=j->¬cC (m.getD i dC) p<0),⟨fun hj=>?_,fun hj=>⟨false,by and_intros<;>rfl,View.Le.refl _,(fun h=>nomatch h),fun _ h=>absurd h (by have:=of_decide_eq_false hj;omega)⟩⟩,?_⟩
 ·have hj:(i:Int)<=j:=of_decide_eq_true hj;obtain ⟨s,u,v,y,A,B,C⟩:=g.get (k:=i) (by omega);obtain ⟨D,E,F,G,H,I,J⟩:=g.get (k:=a) (by omega);refine ⟨⟨by omega,by omega⟩,s,u,v,y,A,B,⟨by omega,by omega⟩,D,E,F,G,H,I,fun W1 K=>(cA (C.le K) (J.le K)).mono ?_⟩;rintro r W2 S rfl;rw [O];exact ⟨_,rfl,_,by and_intros<;>rfl,K.trans S,fun h=>⟨by omega,of_decide_eq_true h⟩,fun h _=>of_decide_eq_false h⟩
 rintro t V5 Z ⟨-,t1,t2⟩;refine ⟨rfl,fun o=>⟨((i+1:Nat):Int),by have:=(t1 o).1;dsimp only;omega,by and_intros<;>rfl,i+1,rfl,W.trans Z,M.MP (t1 o).1 (t1 o).2⟩,fun o=>?_⟩;have P:i<=j->¬((fun x=>cC x p<0)) (m.getD i dC):=t2 o;refine ⟨fun z V'=>∃d:Nat,z=(d:Int)/\d<=j/\V5.Le V'/\PT (fun x=>cC x p<0) dC m a b i d,fun z=>z.toNat,⟨(j:Int),by and_intros<;>rfl,j,rfl,Qq3 _,View.Le.refl _,M⟩,?_⟩;rintro _ V6 l6 ⟨d,rfl,a0,-,N⟩;clear t1 t2 Q R M;have P:i<=d->¬((fun x=>cC x p<0)) (m.getD i dC):=fun h=>P (by omega)
 replace g:=g.le (Z.trans l6)
 have Q:=N.za;have R:=N.hj;have U:1<=d->i64.wrap ((d:Int)-1)=((d-1:Nat):Int):=fun h1=>by rw [ar (by omega)];omega
 rw [Qq0];refine ⟨rfl,fun z V'=>V6.Le V'/\(z=true->i<=d/\¬cC (m.getD d dC) p<0)/\(z=false->i<=d->¬¬cC (m.getD d dC) p<0),⟨fun hj=>?_,fun hj=>⟨false,by and_intros<;>rfl,View.Le.refl _,(fun h=>nomatch h),fun _ h=>absurd h (by have:=of_decide_eq_false hj;omega)⟩⟩,?_⟩
 ·have hj:(i:Int)<=d:=of_decide_eq_true hj;obtain ⟨s,u,v,y,A,B,C⟩:=g.get (k:=d) (by omega);obtain ⟨D,E,F,G,H,I,J⟩:=g.get (k:=a) (by omega);refine ⟨⟨by omega,by omega⟩,s,u,v,y,A,B,⟨by omega,by omega⟩,D,E,F,G,H,I,fun W1 K=>(cA (C.le K) (J.le K)).mono ?_⟩;rintro r W2 S rfl;rw [O];exact ⟨_,rfl,_,by and_intros<;>rfl,K.trans S,fun h=>⟨by omega,by simpa using h⟩,fun h _=>by simpa using h⟩
 rintro t V9 L ⟨-,t1,t2⟩;refine ⟨rfl,fun o=>⟨((d-1:Nat):Int),by have:=(t1 o).1;dsimp only;omega,by have:=(t1 o).1;and_intros<;>first|rfl|exact U (by omega),d-1,rfl,by omega,l6.trans L,N.Mr (t1 o).1 (t1 o).2⟩,fun o=>⟨fun q=>?_,fun q=>?_⟩⟩
 ·have q:(i:Int)>d:=of_decide_eq_true q;have SY:PT (fun x=>cC x (m.getD a dC)<0) dC m a b i d:=by rw [O];exact N
  obtain ⟨f1,f2,f3,f4,f5⟩:=SY.fin nZ (by omega) (by omega);obtain ⟨s,u,v,y,A,B,C⟩:=(g.le L).get (k:=d) (by omega);obtain ⟨D,E,F,G,H,I,J⟩:=(g.le L).get (k:=a) (by omega);obtain ⟨s1,s2,s3⟩:=(g.le L).swap (i:=d) (j:=a) (by omega) (by omega) C J;exact ⟨⟨by omega,by omega⟩,D,E,F,G,H,I,⟨by omega,by omega⟩,s,u,v,y,A,B,⟨by omega,by omega⟩,s1,⟨by omega,by omega⟩,s2,fun gm T Ik=>⟨d,_,rfl,f2,f3,_,_,Ik,s3.le T,f.trans f1,f4,f5⟩⟩
 have q:¬(i:Int)>d:=of_decide_eq_false q;have NJ:((fun x=>cC x p<0)) (m.getD d dC):=Ww2.1 (t2 o (by omega));obtain ⟨NS,NQ,NT⟩:=N.swap (by omega) (by omega) (P (by omega)) NJ;obtain ⟨s,u,v,y,A,B,C⟩:=(g.le L).get (k:=i) (by omega);obtain ⟨D,E,F,G,H,I,J⟩:=(g.le L).get (k:=d) (by omega);obtain ⟨s1,s2,s4⟩:=(g.le L).swap (i:=i) (j:=d) (by omega) (by omega) C J;rw [U (by omega)];refine ⟨⟨by omega,by omega⟩,D,E,F,G,H,I,⟨by omega,by omega⟩,s,u,v,y,A,B,⟨by omega,by omega⟩,s1,⟨by omega,by omega⟩,s2,?_⟩;generalize af (af us (0+i*5) [.int .i64 D,.int .i64 E,.pointer F,.int .i64 G,.int .i64 H]) (0+d*5) [.int .i64 s,.int .i64 u,.pointer v,.int .i64 y,.int .i64 A]=ws at *;have g5:gM dC l (jM dC m i d) a b:=f.trans NT;have m5:=NQ.trans O;generalize jM dC m i d=Yc at *;clear B I C J s1 s2 g t1 t2 P NT NQ ml s3 f O;obtain ⟨i',a3⟩:∃i',i'=i:=⟨_,rfl⟩;obtain ⟨Qz,OG⟩:∃Qz,Qz=d:=⟨_,rfl⟩;rw [←a3,←OG] at NS ⊢;clear N NJ Y a3 OG q q1 Q R w1 U a0;refine ⟨fun z V'=>∃(i j:Nat)(m:List en),z.1=(i:Int)/\z.2.1=(j:Int)/\SR V' n z.2.2 m/\gM dC l m a b/\m.getD a dC=p/\PT (fun x=>cC x p<0) dC m a b i j,fun z=>(b-z.1).toNat,⟨(((i'+1:Nat):Int),((Qz-1:Nat):Int),ws),by and_intros<;>rfl,i'+1,Qz-1,Yc,rfl,rfl,s4,g5,m5,NS⟩,?_⟩;rintro ⟨z,z',us⟩ V1 l1 ⟨i0,j,m,e,e',a4,f,O,SX⟩;dsimp only at e e' a4;subst e e';have ml:m.length=l.length:=f.len;refine ⟨rfl,fun z V'=>∃i:Nat,z=((i:Int),(j:Int),us)/\i0<=i/\V1.Le V'/\PT (fun x=>cC x p<0) dC m a b i j,fun z=>(b-z.1).toNat,⟨((i0:Int),(j:Int),us),by and_intros<;>rfl,i0,rfl,Qq3 _,View.Le.refl _,SX⟩,?_⟩;rintro _ V2 W ⟨i,rfl,a5,-,M⟩;dsimp only;have g:=a4.le W;have q1:=M.hi;have Q:=M.za;have R:=M.hj;have w1:i64.wrap ((i:Int)+1)=((i+1:Nat):Int):=by rw [ar (by omega)];omega
 rw [w1,Qq0];refine ⟨rfl,fun z V'=>V2.Le V'/\(z=true->i<=j/\cC (m.getD i dC) p<0)/\(z=false->i<=j->¬cC (m.getD i dC) p<0),⟨fun hj=>?_,fun hj=>⟨false,by and_intros<;>rfl,View.Le.refl _,(fun h=>nomatch h),fun _ h=>absurd h (by have:=of_decide_eq_false hj;omega)⟩⟩,?_⟩
 ·have hj:(i:Int)<=j:=of_decide_eq_true hj;obtain ⟨s,u,v,y,A,B,C⟩:=g.get (k:=i) (by omega);obtain ⟨D,E,F,G,H,I,J⟩:=g.get (k:=a) (by omega);refine ⟨⟨by omega,by omega⟩,s,u,v,y,A,B,⟨by omega,by omega⟩,D,E,F,G,H,I,fun W1 K=>(cA (C.le K) (J.le K)).mono ?_⟩;rintro r W2 S rfl;rw [O];exact ⟨_,rfl,_,by and_intros<;>rfl,K.trans S,fun h=>⟨by omega,of_decide_eq_true h⟩,fun h _=>of_decide_eq_false h⟩
 rintro t V5 Z ⟨-,t1,t2⟩;refine ⟨rfl,fun o=>⟨(((i+1:Nat):Int),(j:Int),us),by have:=(t1 o).1;dsimp only;omega,by and_intros<;>rfl,i+1,rfl,by omega,W.trans Z,M.MP (t1 o).1 (t1 o).2⟩,fun o=>?_⟩;have P:i<=j->¬((fun x=>cC x p<0)) (m.getD i dC):=t2 o;refine ⟨fun z V'=>∃d:Nat,z=(d:Int)/\d<=j/\V5.Le V'/\PT (fun x=>cC x p<0) dC m a b i d,fun z=>z.toNat,⟨(j:Int),by and_intros<;>rfl,j,rfl,Qq3 _,View.Le.refl _,M⟩,?_⟩;rintro _ V6 l6 ⟨d,rfl,a0,-,N⟩;clear t1 t2 Q R M;have P:i<=d->¬((fun x=>cC x p<0)) (m.getD i dC):=fun h=>P (by omega)
 replace g:=g.le (Z.trans l6)
 have Q:=N.za;have R:=N.hj;have U:1<=d->i64.wrap ((d:Int)-1)=((d-1:Nat):Int):=fun h1=>by rw [ar (by omega)];omega
 rw [Qq0];refine ⟨rfl,fun z V'=>V6.Le V'/\(z=true->i<=d/\¬cC (m.getD d dC) p<0)/\(z=false->i<=d->¬¬cC (m.getD d dC) p<0),⟨fun hj=>?_,fun hj=>⟨false,by and_intros<;>rfl,View.Le.refl _,(fun h=>nomatch h),fun _ h=>absurd h (by have:=of_decide_eq_false hj;omega)⟩⟩,?_⟩
 ·have hj:(i:Int)<=d:=of_decide_eq_true hj;obtain ⟨s,u,v,y,A,B,C⟩:=g.get (k:=d) (by omega);obtain ⟨D,E,F,G,H,I,J⟩:=g.get (k:=a) (by omega);refine ⟨⟨by omega,by omega⟩,s,u,v,y,A,B,⟨by omega,by omega⟩,D,E,F,G,H,I,fun W1 K=>(cA (C.le K) (J.le K)).mono ?_⟩;rintro r W2 S rfl;rw [O];exact ⟨_,rfl,_,by and_intros<;>rfl,K.trans S,fun h=>⟨by omega,by simpa using h⟩,fun h _=>by simpa using h⟩
 rintro t V9 L ⟨-,t1,t2⟩;refine ⟨rfl,fun o=>⟨((d-1:Nat):Int),by have:=(t1 o).1;dsimp only;omega,by have:=(t1 o).1;and_intros<;>first|rfl|exact U (by omega),d-1,rfl,by omega,l6.trans L,N.Mr (t1 o).1 (t1 o).2⟩,fun o=>⟨fun q=>?_,fun q=>?_⟩⟩
 ·have q:(i:Int)>d:=of_decide_eq_true q;have SY:PT (fun x=>cC x (m.getD a dC)<0) dC m a b i d:=by rw [O];exact N
  obtain ⟨f1,f2,f3,f4,f5⟩:=SY.fin nZ (by omega) (by omega);obtain ⟨s,u,v,y,A,B,C⟩:=(g.le L).get (k:=d) (by omega);obtain ⟨D,E,F,G,H,I,J⟩:=(g.le L).get (k:=a) (by omega);obtain ⟨s1,s2,s3⟩:=(g.le L).swap (i:=d) (j:=a) (by omega) (by omega) C J;exact ⟨⟨by omega,by omega⟩,D,E,F,G,H,I,⟨by omega,by omega⟩,s,u,v,y,A,B,⟨by omega,by omega⟩,s1,⟨by omega,by omega⟩,s2,fun gm T Ik=>⟨d,_,rfl,f2,f3,_,_,Ik,s3.le T,f.trans f1,f4,f5⟩⟩
 ·have q:¬(i:Int)>d:=of_decide_eq_false q;have NJ:((fun x=>cC x p<0)) (m.getD d dC):=Ww2.1 (t2 o (by omega));obtain ⟨NS,NQ,NT⟩:=N.swap (by omega) (by omega) (P (by omega)) NJ;obtain ⟨s,u,v,y,A,B,C⟩:=(g.le L).get (k:=i) (by omega);obtain ⟨D,E,F,G,H,I,J⟩:=(g.le L).get (k:=d) (by omega);obtain ⟨s1,s2,s3⟩:=(g.le L).swap (i:=i) (j:=d) (by omega) (by omega) C J;exact ⟨⟨by omega,by omega⟩,D,E,F,G,H,I,⟨by omega,by omega⟩,s,u,v,y,A,B,⟨by omega,by omega⟩,s1,⟨by omega,by omega⟩,s2,(((i+1:Nat):Int),((d-1:Nat):Int),_),by dsimp only;omega,by and_intros<;>first|rfl|exact U (by omega),i+1,d-1,_,rfl,rfl,s3,f.trans NT,NQ.trans O,NS⟩
theorem Gb:∀(N:Nat) {V:View} {lb n c:Nat} {vs:List Value} {l:List en} (_:V.w.heap[lb]?=some (.cells vs.toArray 290 (0,0))) (_:V.X lb) (_:SR V n vs l) {a b:Nat} {lim:Int} (_:a<=b) (_:b<=l.length) (_:b-a<=N) (_:0<=lim) (_:lim<=100)
  (_:0<a->∀k,a<=k->k<b->¬cC (l.getD k dC) (l.getD (a-1) dC)<0),
  aa prog 245 #[.slice (some ⟨lb,0,none⟩) n c,.int .i64 a,.int .i64 b,.int .i64 lim,.func (.func 223) #[] #[]] V fun r V'=>r=.tuple #[]/\rP lb n l a b V' fun l'=>oG cC dC l' a b:=by
 intro N
 induction N using Nat.strongRecOn with
 | ind N ih=>
 intro V lb n c vs l hw hx h a b lim ni hb hN G H B;have kO:=h.kO;have len:=h.len
 refine jT lb n c vs a b lim V _ hw hx ⟨fun z V'=>∃(f g:Nat)(m:List en),z.1=(f:Int)/\z.2.1=(g:Int)/\0<=z.2.2.1/\z.2.2.1<=100/\SR V' n z.2.2.2.2.2 m/\PQ cC dC l m a b f g,fun z=>(z.2.1-z.1).toNat,
  ⟨((a:Int),(b:Int),lim,true,true,vs),by and_intros<;>rfl,a,b,l,rfl,rfl,G,H,h,PQ.start ni B⟩,?_⟩
 rintro ⟨z1,z2,lim,wb,wp,us⟩ V1 l1 ⟨f,g,m,e1,I,G,H,q,i⟩;dsimp only at e1 I G H q;subst e1 I;dsimp only;have q1:=i.ha;have q2:=i.ni;have q3:=i.hb;have J:m.length=l.length:=i.Lb.len;have w0:i64.wrap ((g:Int)-f)=((g-f:Nat):Int):=by rw [ar (by omega)];omega
 rw [w0];refine ⟨rfl,fun _ V2 l2 j I h2=>(sP (V:=V2.ax [j]) I ⟨by simp,h2⟩ (q.le l2) q2).mono ?_,fun v=>⟨fun _ V5 l5 j e5 h5=>(DP (V:=V5.ax [j]) e5 ⟨by simp,h5⟩ (q.le l5) (a:=f) (b:=g) (by have:=of_decide_eq_false v;omega)).mono ?_,fun C=>?_⟩⟩
 ·rintro r V3 l3 ⟨rfl,ws,s,e3,R,Yy,W3⟩;obtain ⟨f1,f2⟩:=i.fin Yy W3;exact ⟨rfl,ws,e3,fun V4 l4 S=>⟨rfl,ws,s,S,R.le fun b o h=>l4 b o h,f1,f2⟩⟩
 ·rintro r V6 l6 ⟨rfl,ws,s,e6,T,Yz,W4⟩;obtain ⟨f1,f2⟩:=i.fin Yz W4;exact ⟨rfl,ws,e6,fun V7 l7 U=>⟨rfl,ws,s,U,T.le fun b o h=>l7 b o h,f1,f2⟩⟩
 have v:12<g-f:=by have:=of_decide_eq_false v;omega
 have C:¬lim=0:=by simpa using C
 refine ⟨fun z V'=>∃u:List en,0<=z.1/\z.1<=100/\SR V' n z.2 u/\PQ cC dC l u a b f g,⟨fun _ V8 l8 j e8 h8=>(sO (V:=V8.ax [j]) e8 ⟨by simp,h8⟩ (q.le l8) (a:=f) (b:=g) (by omega)).mono ?_,fun _=>⟨(lim,us),by and_intros<;>rfl,m,G,H,q,i⟩⟩,?_⟩
 ·rintro r V9 l9 ⟨rfl,ws,s,e9,XR,YA,-⟩;exact ⟨rfl,ws,e9,(lim-1,ws),by and_intros<;>first|rfl|exact ar (by omega),s,by dsimp only;omega,by dsimp only;omega,XR.le (fv _),i.change YA⟩
 clear q i J l1;rintro ⟨W,us⟩ gm Y ⟨m,y,A,q,i⟩;dsimp only at y A q;dsimp only;have J:m.length=l.length:=i.Lb.len;refine ⟨rfl,fun fH Z j a0 a3=>(xf (V:=fH.ax [j]) a0 ⟨by simp,a3⟩ (q.le Z) (a:=f) (b:=g) (by omega)).mono ?_⟩;rintro r jC cM ⟨x,t,rfl,x0,x1,D⟩;have MJ:SR jC.shut n us m:=q.le fun b o h=>cM b o (Z b o h);refine ⟨_,_,rfl,us,D,fun z V'=>∃(p:Nat)(u:List en),z.1=(p:Int)/\f<=p/\p<g/\SR V' n z.2.2 u/\PQ cC dC l u a b f g,⟨fun _ oH cN j a4 NG=>(uG (V:=oH.ax [j]) a4 ⟨by simp,NG⟩ (MJ.le cN) (a:=f) (b:=g) (by omega)).mono ?_,fun _=>⟨((x:Int),t,us),by and_intros<;>rfl,x,m,rfl,x0,x1,MJ,i⟩⟩,?_⟩
 ·rintro r mD dP ⟨rfl,ws,s,a5,Sf,Tq,-⟩;have v1:i64.wrap ((g:Int)-1)=((g-1:Nat):Int):=by rw [ar (by omega)];omega
  have v2:i64.wrap ((x:Int)-f)=((x-f:Nat):Int):=by rw [ar (by omega)];omega
  have v3:i64.wrap (((g-1:Nat):Int)-((x-f:Nat):Int))=((g-1-(x-f):Nat):Int):=by rw [ar (by omega)];omega
  rw [v1,v2,v3];exact ⟨rfl,ws,a5,(((g-1-(x-f):Nat):Int),1,ws),by and_intros<;>rfl,g-1-(x-f),s,rfl,by omega,by omega,Sf.le (fv _),i.change Tq⟩
 clear q i J MJ D cM Z Y;rintro ⟨pz,t,us⟩ mE dj ⟨p,m,e,p0,K,q,i⟩;dsimp only at e q;subst e;dsimp only;have J:m.length=l.length:=i.Lb.len;refine ⟨rfl,fun _ V'=>mE.Le V',⟨fun _=>⟨fun _=>⟨_,by and_intros<;>rfl,View.Le.refl _⟩,fun _=>⟨_,by and_intros<;>rfl,View.Le.refl _⟩⟩,fun _=>⟨_,by and_intros<;>rfl,View.Le.refl _⟩⟩,?_⟩;rintro t2 sM dY -
 refine ⟨rfl,fun z V'=>z=us/\SR V' n us m,⟨fun _ nF dw j a6 Qv=>(nN (V:=nF.ax [j]) a6 ⟨by simp,Qv⟩ (q.le (dY.trans dw)) (a:=f) (b:=g) (by omega)).mono ?_,fun _=>⟨us,by and_intros<;>rfl,rfl,q.le dY⟩⟩,?_⟩
 ·rintro r uf fF ⟨t3,rfl,ON,a7,Q9⟩;refine ⟨_,rfl,us,a7,fun L A8 gj So=>?_,fun _=>⟨us,by and_intros<;>rfl,rfl,ON.le (fv _)⟩⟩;obtain ⟨f1,f2⟩:=i.fin (.refl _ _ _) (Q9 L);exact ⟨rfl,us,m,So,ON.le fun b o h=>gj b o h,f1,f2⟩
 rintro z Bg mK ⟨rfl,M⟩;refine ⟨rfl,fun z V'=>Bg.Le V'/\(z=true->0<f/\¬cC (m.getD (f-1) dC) (m.getD p dC)<0),⟨fun O=>?_,fun _=>⟨false,by and_intros<;>rfl,View.Le.refl _,(fun h=>nomatch h)⟩⟩,?_⟩
 ·have O:(f:Int)>0:=of_decide_eq_true O;have v1:i64.wrap ((f:Int)-1)=((f-1:Nat):Int):=by rw [ar (by omega)];omega
  rw [v1,Qq0,Qq0];obtain ⟨x1,y1,K,a1,b1,g1,r1⟩:=M.get (k:=f-1) (by omega);obtain ⟨x2,y2,p2,a2,b2,g2,r2⟩:=M.get (k:=p) (by omega);refine ⟨⟨by omega,by omega⟩,x1,y1,K,a1,b1,g1,⟨by omega,by omega⟩,x2,y2,p2,a2,b2,g2,fun Bh iY=>(cA (r1.le iY) (r2.le iY)).mono ?_⟩;rintro r Dv pD rfl;exact ⟨_,rfl,_,by and_intros<;>rfl,iY.trans pD,fun h=>⟨by omega,by simpa using h⟩⟩
 rintro t4 Dm lT ⟨-,XT⟩;refine ⟨rfl,fun L JV Fp j a8 NH=>(qI (V:=JV.ax [j]) a8 ⟨by simp,NH⟩ (M.le fun b o h=>Fp b o (lT b o h)) (a:=f) (b:=g) (piv:=p) (by omega) (by omega) p0 K).mono ?_,fun L Ny Dq j a9 Qx=>(BC (V:=Ny.ax [j]) a9 ⟨by simp,Qx⟩ (M.le fun b o h=>Dq b o (lT b o h)) (a:=f) (b:=g) (piv:=p) (by omega) (by omega) p0 K).mono ?_⟩
 ·rintro r JW xB ⟨d,rfl,E,P,ws,s,b0,Sg,Ts,f1,f2⟩;obtain ⟨g0,g1⟩:=XT L;exact ⟨_,rfl,ws,b0,((d:Int),(g:Int),W,wb,wp,ws),by dsimp only;omega,by and_intros<;>rfl,d,g,s,rfl,rfl,y,A,Sg.le (fv _),i.Xg nZ g0 E P g1 Ts f1 f2⟩
 ·rintro r NA wV ⟨d,t5,rfl,E,P,ws,s,b3,OO,Tt,f1,f2⟩;have Q:=i.change Tt;have Zt:s.length=l.length:=Q.Lb.len;have v1:i64.wrap ((d:Int)-f)=((d-f:Nat):Int):=by rw [ar (by omega)];omega
  have v2:i64.wrap ((g:Int)-d)=((g-d:Nat):Int):=by rw [ar (by omega)];omega
  have v3:i64.wrap ((d:Int)+1)=((d+1:Nat):Int):=by rw [ar (by omega)];omega
  refine ⟨_,_,rfl,ws,b3,by decide,?_⟩;rw [v1,v2,v3];refine ⟨fun _ Lq Hr j b4 RS=>(ih (d-f) (by omega) (V:=Lq.ax [j]) b4 ⟨by simp,RS⟩ (OO.le fun b o h=>Hr b o h) (a:=f) (b:=d) E (by omega) (Qq3 _) y A (fun O k k1 k2=>Q.pre O k k1 (by omega))).mono ?_,fun _ Mi A_ j b5 Xt=>(ih (g-(d+1)) (by omega) (V:=Mi.ax [j]) b5 ⟨by simp,Xt⟩ (OO.le fun b o h=>A_ b o h) (a:=d+1) (b:=g) (by omega) (by omega) (Qq3 _) y A (fun _ k k1 k2=>f2 k (by omega) k2)).mono ?_⟩
  ·rintro r NZ KH ⟨rfl,F,u,b6,Si,Tu,Q_⟩;exact ⟨rfl,F,b6,(((d+1:Nat):Int),(g:Int),W,_,t5,F),by dsimp only;omega,by and_intros<;>rfl,d+1,g,u,rfl,rfl,y,A,Si.le (fv _),Q.left nZ E P f1 f2 Tu Q_⟩
  ·rintro r QV KI ⟨rfl,F,u,b7,Sj,Tv,Ra⟩;exact ⟨rfl,F,b7,((f:Int),(d:Int),W,_,t5,F),by dsimp only;omega,by and_intros<;>rfl,f,d,u,rfl,rfl,y,A,Sj.le (fv _),Q.right nZ E P f1 f2 Tv Ra⟩
theorem DH {V:View}{lb n c:Nat}{vs:List Value}{l:List en}(hw:V.w.heap[lb]?=some (.cells vs.toArray 290 (0,0)))(hx:V.X lb)(h:SR V n vs l) :
  aa prog 222 #[.slice (some ⟨lb,0,none⟩) n c,.func (.func 223) #[] #[]] V fun r V'=>r=.tuple #[]/\∃vs' l',V'.w.heap[lb]?=some (.cells vs'.toArray 290 (0,0))/\SR V' n vs' l'/\l'.Perm l/\l'.Pairwise fun x y=>x.1<=y.1:=by
 have kO:=h.kO;have len:=h.len;have w:u64.wrap (n:Int)=n:=aM (by omega);refine oF lb n c vs V _ hw hx ?_;rw [w];refine fun F k=>(nI n).mono ?_;rintro r G m rfl;have p:bj n<=8:=eI.2 (by omega);refine ⟨_,rfl,fun q s t u v=>(Gb n (V:=q.ax [t]) u ⟨by simp,v⟩ (h.le fun b o h=>s b o (m b o (k b o h))) (a:=0) (b:=n) (lim:=(bj n:Int)) (by omega) (by omega) (by omega) (by omega) (by omega) (fun h=>absurd h (by omega))).mono ?_⟩;rintro r H I ⟨rfl,vs',l',z,d,f,asc⟩;refine ⟨rfl,vs',z,fun J A B=>⟨rfl,vs',l',B,d.le fun b o h=>A b o h,f.perm,?_⟩⟩;have sl:=f.len;refine Qb2.2 fun i j C D E=>?_;have:=asc i j (by omega) E (by omega);rw [Qw6,Qw6,Qq1 C,Qq1 D] at this;simp only [Qm9] at this;unfold cC at this;rcases eK l'[j].1 l'[i].1 with ⟨g,e⟩|⟨g,e⟩|⟨g,e⟩<;>rw [e] at this<;>grind
theorem ur {V:View}:aa prog 222 #[.slice none 0 0,.func (.func 223) #[] #[]] V fun r V'=>r=.tuple #[]:=by
 have ins:∀{W:View},aa prog 254 #[.slice none 0 0,.int .i64 0,.int .i64 0,.func (.func 223) #[] #[]] W fun r V'=>r=.tuple #[]:=by
  intro W;refine eR 0 0 W _ ⟨fun z _=>z=1,fun _=>0,⟨1,by and_intros<;>first|rfl|exact ar (by omega),rfl⟩,?_⟩;rintro z e f rfl;exact ⟨rfl,fun h=>absurd (of_decide_eq_true h) (by omega),fun _ g i=>rfl⟩
 refine lq V _ fun e f=>(nI 0).mono ?_;rintro r g i rfl;refine ⟨_,rfl,fun b n=>?_⟩
 have a:aa prog 245 #[.slice none 0 0,.int .i64 0,.int .i64 0,.int .i64 (bj 0:Int),.func (.func 223) #[] #[]] b fun r V'=>r=.tuple #[]:=by
  refine gX 0 0 _ b _ ⟨fun z _=>z.1=0/\z.2.1=0,fun _=>0,⟨(0,0,_,true,true),by and_intros<;>rfl,rfl,rfl⟩,?_⟩;rintro ⟨o,p,q,s,t⟩ u v ⟨c,d⟩;dsimp only at c d;subst c d;dsimp only;refine ⟨rfl,fun _ w x=>ins.mono ?_,fun h=>absurd (of_decide_eq_false h) (by decide)⟩;rintro r j k rfl;exact ⟨rfl,fun l m=>rfl⟩
 refine a.mono ?_;rintro r j k rfl;exact ⟨rfl,fun l m=>rfl⟩
def ue (m:Nat):Prop:=∀(V:View)(lb n c:Nat)(vs:List Value)(l:List en),l.length=m->V.w.heap[lb]?=some (.cells vs.toArray 290 (0,0))->V.X lb->SR V n vs l ->
 aa prog 222 #[.slice (some ⟨lb,0,none⟩) n c,.func (.func 223) #[] #[]] V fun r V'=>r=.tuple #[]/\∃vs' l',V'.w.heap[lb]?=some (.cells vs'.toArray 290 (0,0))/\SR V' n vs' l'/\l'.Perm l/\l'.Pairwise fun x y=>x.1<=y.1
theorem Nk (m:Nat):ue m:=fun _ _ _ _ _ _ _ hw a h=>DH hw a h
def uN (l:List Sp):List Rat:=l.flatMap fun s=>s.Ce++s.A9
def fe (l:List Sp):Nat:=(uN l).length
theorem mH {s:Sp}{r:List Sp}:fe (s::r)=(s.Ce++s.A9).length+fe r:=by unfold fe uN;rw [Qw8,Qq5]
theorem H6 {a b:List Sp}:fe (a++b)=fe a+fe b:=by unfold fe uN;rw [Qd0,Qq5]
theorem zW {A B:List Sp}:(lD A B).length=fe A+fe B:=by
 have one:∀(k:Int)(l:List Sp),(l.flatMap (gw k)).length=fe l:=fun k l=>by
  induction l with
  | nil=>rfl
  | cons s r ih=>
   rw [Qw8,Qq5,mH,ih];unfold gw Sp.Ce Sp.A9;cases s.a<;>cases s.b<;>simp
 unfold lD;rw [Qq5,one,one]
theorem H7:∀(l:List Sp),fe l<=2*l.length
 | []=>by simp [fe,uN]
 | s::r=>by
  have:=H7 r;have h:(s.Ce++s.A9).length<=2:=by unfold Sp.Ce Sp.A9;cases s.a<;>cases s.b<;>simp
  rw [mH,Qz2];omega
theorem nd:∀(ss:List Sp)(o:List Rat),(ss.foldl (fun o s=>nr s o 2) o).length<=o.length+fe ss
 | [],o=>by simp [fe,uN]
 | s::r,o=>by
  have ih:=nd r (nr s o 2)
  have:(nr s o 2).length<=o.length+(s.Ce++s.A9).length:=by
   have c:=@u_ s.lo o;have d:=@u_ s.hi o;have e:=@u_ s.hi (eN s.lo o);show (if s.b=true then (if s.a=true then o else eN s.lo o) else eN s.hi (if s.a=true then o else eN s.lo o)).length<=_;unfold Sp.Ce Sp.A9;cases s.a<;>cases s.b<;>simp<;>omega
  rw [Qc4,mH];omega
theorem BQ (ss:List Sp):(endsL ss).length<=fe ss:=by have:=nd ss [];simpa [endsL] using this
theorem FB:∀{l:List Sp},tY l->asc (uN l)
 | [],_=>List.Pairwise.nil
 | s::r,h=>by
  unfold asc uN;rw [Qw8];refine Qf7.2 ⟨?_,FB h.tail,fun x hx y hy=>?_⟩
  ·refine Qf7.2 ⟨by unfold Sp.Ce;cases s.a<;>simp,by unfold Sp.A9;cases s.b<;>simp,fun x hx y hy=>?_⟩;obtain ⟨ha,rfl⟩:=kS hx;obtain ⟨c,rfl⟩:=mJ hy;exact kh (h.1 s (by simp)).2 ha c
  ·obtain ⟨z,d,hy⟩:=Qw5.1 hy;obtain ⟨e,f,g⟩:=h.DA d
   have i:x<=s.hi:=by
    rcases Qw1.1 hx with hx|hx
    ·obtain ⟨ha,rfl⟩:=kS hx;have:=kh (h.1 s (by simp)).2 ha e;grind
    ·obtain ⟨c,rfl⟩:=mJ hx;grind
   have j:z.lo<=y:=by
    rcases Qw1.1 hy with hy|hy
    ·obtain ⟨ha,rfl⟩:=kS hy;grind
    ·obtain ⟨c,rfl⟩:=mJ hy;have:=kh (h.1 z (by simp [d])).2 f c;grind
   grind
theorem zF:∀{ys xs:List Rat},asc xs->asc ys->(∀x∈xs,x∈ys)->xs.length<=ys.length
 | [],xs,_,_,h=>by
  cases xs with
  | nil=>simp
  | cons x r=>exact absurd (h x (by simp)) (by simp)
 | y::r,[],_,_,_=>by simp
 | y::r,x::s,hx,hy,h=>by
  obtain ⟨x1,x2⟩:=Qk9.1 hx;obtain ⟨f,c⟩:=Qk9.1 hy;by_cases e:x=y
  ·have:=zF (xs:=s) x2 c fun z b=>by
    rcases Qq4.1 (h z (by simp [b])) with a|a
    ·have:=x1 z b;grind
    ·exact a
   simp only [Qz2];omega
  ·have d:x∈r:=by
    rcases Qq4.1 (h x (by simp)) with a|a
    ·exact absurd a e
    ·exact a
   have:=zF (xs:=x::s) hx c fun z b=>by
    rcases Qq4.1 (h z b) with a|a
    ·have g:=f x d;rcases Qq4.1 b with rfl|b
     ·exact d
     ·have:=x1 z b;grind
    ·exact a
   simp only [Qz2] at this ⊢;omega
theorem H9 {c:List Rat}{i:Nat}(hi:i<=c.length:=by omega):((cQ c i).a=false->(cQ c i).lo∈c)/\((cQ c i).b=false->(cQ c i).hi∈c):=by
 unfold cQ;refine ⟨fun h=>?_,fun h=>?_⟩
 ·have h:¬i=0:=of_decide_eq_false h;dsimp only;rw [if_pos (by omega),kR];exact Qy3 _
 ·have h:¬i=c.length:=of_decide_eq_false h;dsimp only;rw [if_pos (by omega),kR];exact Qy3 _
theorem yX {c:List Rat}{ms:List Bool}:∀(i:Nat),i<=c.length+1->∀s∈cK c ms i,(s.a=false->s.lo∈c)/\(s.b=false->s.hi∈c)
 | 0,_,s,h=>by cases h
 | i+1,hi,s,h=>by
  have ih:=yX (c:=c) (ms:=ms) i (by omega);have g:=H9 (c:=c) (i:=i);unfold cK at h;split at h
  ·split at h
   ·rename_i j;unfold vi at h;rcases Qw1.1 h with h|h
    ·exact ih s (List.dropLast_subset _ h)
    ·obtain rfl:=Qw3.1 h;refine ⟨fun f=>?_,fun k=>g.2 k⟩;have d:cK c ms i≠[]:=fun e=>by rw [e] at j;simp at j
     have l:(cK c ms i).getLastD Sp.zero=(cK c ms i).getLast d:=by rw [List.getLastD_eq_getLast?,List.getLast?_eq_some_getLast d];rfl
     dsimp only at f ⊢;rw [l] at f ⊢;exact (ih _ (List.getLast_mem d)).1 f
   ·rcases Qw1.1 h with h|h
    ·exact ih s h
    ·obtain rfl:=Qw3.1 h;exact g
  ·exact ih s h
theorem qM {op:Int}{a b:List Sp}:∀s∈combL op a b,(s.a=false->s.lo∈endsL (a++b))/\(s.b=false->s.hi∈endsL (a++b)):=by
 intro s c;unfold combL BS at c;exact yX _ (by rw [kj];omega) s c
theorem Kl (op:Int)(a b:List Sp):fe (combL op a b)<=fe a+fe b:=by
 have h:=zF (FB (comb_reg op a b)) (uO (a++b)) fun x c=>by
  obtain ⟨s,d,c⟩:=Qw5.1 c;rcases Qw1.1 c with c|c
  ·obtain ⟨e,rfl⟩:=kS c;exact (qM s d).1 e
  ·obtain ⟨f,rfl⟩:=mJ c;exact (qM s d).2 f
 have:=BQ (a++b);rw [H6] at this;unfold fe at *;omega
theorem Fi {op:Int}{a b:List Sp}{k:Nat}(hk:1<=k)(ha:∀s∈a,s.sz k)(hb:∀s∈b,s.sz k):∀s∈combL op a b,s.sz k:=by
 intro s d;have f:=(comb_reg op a b).1 s d
 have he:∀q∈endsL (a++b),Sz k q:=fun q g=>by
  obtain ⟨x,c,h⟩:=Gk g
  have:x.sz k:=by
   rcases Qw1.1 c with c|c
   ·exact ha x c
   ·exact hb x c
  rcases h with rfl|rfl
  ·exact this.1
  ·exact this.2
 obtain ⟨i,j⟩:=qM s d;constructor
 ·cases e:s.a
  ·exact he _ (i e)
  ·rw [f.1.1 e];exact V_ k hk
 ·cases e:s.b
  ·exact he _ (j e)
  ·rw [f.1.2 e];exact V_ k hk
theorem HZ (op:Int)(a b:List Sp):(combL op a b).length<=fe a+fe b+1:=by
 have h:=Gs (endsL (a++b)) (nV op a b (endsL (a++b))) (nV op a b (endsL (a++b))).length;have c:=BQ (a++b);rw [H6] at c;rw [kj] at h;unfold combL BS;rw [kj];omega
theorem yO {V:View}{ab ob fa:Nat}{x y:Int}{acc:Bool->Bool->Bool}(hw:V.w.heap[ab]?=some (.cells #[.func (.func fa) #[] #[]] 254 (0,0)))(hx:V.X ab)
  (hw':V.w.heap[ob]?=some (.cells #[.int .i64 x,.int .i64 y] 288 (0,0)))(hx':V.X ob)(hne:ab≠ob)(hf:∀a b (W:View),aa prog fa #[.bool a,.bool b] W fun r _=>r=.bool (acc a b)) :
  aa prog 224 #[.pointer (some ⟨ab,0,none⟩),.pointer (some ⟨ob,0,none⟩)] V fun r V'=>r=.bool (acc (decide ((0:Int)<x)) (decide ((0:Int)<y))) /\
   V'.w.heap[ab]?=some (.cells #[.func (.func fa) #[] #[]] 254 (0,0))/\V'.w.heap[ob]?=some (.cells #[.int .i64 x,.int .i64 y] 288 (0,0)):=by
 refine wu ab ob fa x y V _ hw hx hw' hx' hne ⟨by decide,by decide,fun c f=>(hf _ _ c).mono ?_⟩;rintro r g h rfl;exact ⟨_,rfl,fun i j d e=>⟨rfl,d,e⟩⟩
def Fw (A:List Sp)(k:Nat)(m:Int):List Value:=if k=0 then [.int .i64 m,.int .i64 0] else if k=1 then [.int .i64 (jV A),.int .i64 m] else []
theorem KT {A:List Sp}{k:Nat}{m:Int}(hk:k<2):(Fw A k m)[0+k*1]?=some (.int .i64 m):=by
 obtain rfl|rfl:k=0\/k=1:=by omega
 ·rfl
 ·rfl
theorem KU {A:List Sp}{k:Nat}{m:Int}(hk:k<2):(Fw A k m).length=2:=by
 obtain rfl|rfl:k=0\/k=1:=by omega
 ·rfl
 ·rfl
theorem KV {A:List Sp}{k:Nat}{m m':Int}(hk:k<2):(Fw A k m).set (0+k*1) (.int .i64 m')=Fw A k m':=by
 obtain rfl|rfl:k=0\/k=1:=by omega
 ·rfl
 ·rfl
theorem KR {a b:List Sp}:jV (a++b)=jV a+jV b:=by
 induction a with
 | nil=>simp [jV]
 | cons s r ih=>simp only [Qd6,jV,ih];omega
theorem Am:∀{a:List Sp},0<=jV a/\jV a<=a.length
 | []=>⟨Ww5 _,Ww5 _⟩
 | s::r=>by
  have ⟨h1,h2⟩:=Am (a:=r);simp only [jV,Qz2];split<;>omega
theorem Kk {A B:List Sp}{c:en}:c∈lD A B->(c.2.1=0\/c.2.1=1)/\(c.2.2=1\/c.2.2=-1):=by
 intro h
 have one:∀{k:Int} {s:Sp},c∈gw k s->c.2.1=k/\(c.2.2=1\/c.2.2=-1):=fun {k s} h=>by
  unfold gw at h;rcases Qw1.1 h with h|h
  ·split at h
   ·cases h
   ·rw [Qw3.1 h];exact ⟨rfl,.inl rfl⟩
  ·split at h
   ·cases h
   ·rw [Qw3.1 h];exact ⟨rfl,.inr rfl⟩
 rcases Qw1.1 h with h|h
 ·obtain ⟨s,a,h⟩:=Qw5.1 h;exact ⟨.inl (one h).1,(one h).2⟩
 ·obtain ⟨s,a,h⟩:=Qw5.1 h;exact ⟨.inr (one h).1,(one h).2⟩
theorem AD {k:Int}:∀{l:List en},(∀c∈l,c.2.2=1\/c.2.2=-1)->-(l.length:Int)<=fA k l/\fA k l<=l.length
 | [],_=>⟨Ww5 _,Ww5 _⟩
 | c::r,h=>by
  have ⟨h1,h2⟩:=AD (k:=k) (l:=r) fun x a=>h x (by simp [a]);have:=h c (by simp);simp only [fA,Qz2];split<;>omega
def Cn (A B:List Sp)(l:List en):List Value:=[.int .i64 (jV A+fA 0 l),.int .i64 (jV B+fA 1 l)]
def Na (A B:List Sp)(l:List en)(k:Int):Int:=if k=0 then jV A+fA 0 l else jV B+fA 1 l
theorem KW {A B:List Sp}{l:List en}{k:Int}(hk:k=0\/k=1):(Cn A B l)[0+k.toNat*1]?=some (.int .i64 (Na A B l k)):=by
 rcases hk with rfl|rfl<;>rfl
theorem KX {A B:List Sp}{l:List en}{c:en}(hk:c.2.1=0\/c.2.1=1):(Cn A B l).set (0+c.2.1.toNat*1) (.int .i64 (Na A B l c.2.1+c.2.2))=Cn A B (l++[c]):=by
 unfold Cn Na;rw [vS,vS];simp only [fA];rcases hk with h|h<;>rw [h]
 ·simp [Int.add_assoc]
 ·simp [Int.add_assoc]
structure CR (V:View) (n c:Nat) (vs:List Value) (l:List en):Prop where
 len:n=l.length
 le:n<=c
 cap:c*5<=vs.length
 row:Row 5 RC V vs l
 ne:vs≠[]->l≠[]
theorem CR.snoc {V:View}{n c:Nat}{vs:List Value}{l:List en}(h:CR V n c vs l){x y:Int}{p:OA}{q:Rat}(hr:RR V (.agg #[.int .i64 x,.int .i64 y,.pointer p]) q)(hs:Sz 1000000 q)(k d:Int){sp:List Value}{c':Nat}(h1:n+1<=c')(h2:c'*5<=(n+1)*5+sp.length) :
  CR V (n+1) c' (vs.take (n*5)++([.int .i64 x,.int .i64 y,.pointer p,.int .i64 k,.int .i64 d]:List Value)++sp) (l++[(q,k,d)]):=by
 have b:=h.len;have f:=h.cap;have g:=h.le;refine ⟨by rw [Qq5,b];rfl,h1,?_,?_,fun _=>by simp⟩
 ·have e:(vs.take (n*5)).length=n*5:=by rw [Qw0];omega
  rw [Qq5,Qq5,e];simp only [Qz2,Qd1];omega
 ·have:=h.row.snoc (sp:=sp) (xs:=[.int .i64 x,.int .i64 y,.pointer p,.int .i64 k,.int .i64 d]) (a:=(q,k,d)) rfl ⟨x,y,p,rfl,hr,hs⟩ (by decide);rw [←b] at this;exact this
structure IR (V:View) (n c:Nat) (vs:List Value) (l:List Sp):Prop where
 len:n=l.length
 le:n<=c
 cap:c*8<=vs.length
 row:Row 8 qp V vs l
theorem IR.mono {V V':View}{n c:Nat}{vs:List Value}{l:List Sp}(h:IR V n c vs l)(e:V.Le V'):IR V' n c vs l:=⟨h.len,h.le,h.cap,h.row.le fun _ _ g=>qp.le g e⟩
theorem IR.nil {V:View}:IR V 0 0 [] []:=⟨rfl,Qq3 _,Qq3 _,Row.nil⟩
theorem IR.snoc {V:View}{n c:Nat}{vs:List Value}{l:List Sp}(h:IR V n c vs l){x1 x2:Int}{p:OA}{y1 y2:Int}{q:OA}{s:Sp}(hr:RR V (.agg #[.int .i64 x1,.int .i64 x2,.pointer p]) s.lo)(hr':RR V (.agg #[.int .i64 y1,.int .i64 y2,.pointer q]) s.hi){sp:List Value}{c':Nat}(h1:n+1<=c')(h2:c'*8<=(n+1)*8+sp.length) :
  IR V (n+1) c' (vs.take (n*8)++([.int .i64 x1,.int .i64 x2,.pointer p,.int .i64 y1,.int .i64 y2,.pointer q,.bool s.a,.bool s.b]:List Value)++sp) (l++[s]):=by
 have d:=h.len;have f:=h.cap;have g:=h.le;refine ⟨by rw [Qq5,d];rfl,h1,?_,?_⟩
 ·have e:(vs.take (n*8)).length=n*8:=by rw [Qw0];omega
  rw [Qq5,Qq5,e];simp only [Qz2,Qd1];omega
 ·have:=h.row.snoc (sp:=sp) (xs:=[.int .i64 x1,.int .i64 x2,.pointer p,.int .i64 y1,.int .i64 y2,.pointer q,.bool s.a,.bool s.b]) (a:=s) rfl ⟨_,_,_,_,_,_,rfl,hr,hr'⟩ (by decide);rw [←d] at this;exact this
theorem Pw {x y:Int}{p:OA}{a b:Int}:∀v∈([.int .i64 x,.int .i64 y,.pointer p,.int .i64 a,.int .i64 b]:List Value),v.oneCell'=true:=by
 intro v hm;simp only [Qq4,Qn7,or_false] at hm;rcases hm with rfl|rfl|rfl|rfl|rfl<;>rfl
theorem Px {x1 x2:Int}{p:OA}{y1 y2:Int}{q:OA}{a b:Bool}:∀v∈([.int .i64 x1,.int .i64 x2,.pointer p,.int .i64 y1,.int .i64 y2,.pointer q,.bool a,.bool b]:List Value),v.oneCell'=true:=by
 intro v hm;simp only [Qq4,Qn7,or_false] at hm;rcases hm with rfl|rfl|rfl|rfl|rfl|rfl|rfl|rfl<;>rfl
def LK (A B:List Sp)(k:Nat):List Sp:=if k=0 then A else B
def Lt (A B:List Sp)(k:Nat):List en:=if k=0 then [] else if k=1 then A.flatMap (gw 0) else lD A B
def NR (A B:List Sp)(k:Nat):List Value:=if k=2 then Cn A B [] else Fw A k 0
theorem Br {A B:List Sp}{k:Nat}(hk:k<2):Lt A B k++(LK A B k).flatMap (gw k)=Lt A B (k+1):=by
 obtain rfl|rfl:k=0\/k=1:=by omega
 ·rfl
 ·rfl
theorem I9 {A B:List Sp}{k:Nat}(hk:k<2):Fw A k (jV (LK A B k))=NR A B (k+1):=by
 obtain rfl|rfl:k=0\/k=1:=by omega
 ·rfl
 ·simp [Fw,NR,Cn,LK,fA]
end Go.Proofs.Tryz
