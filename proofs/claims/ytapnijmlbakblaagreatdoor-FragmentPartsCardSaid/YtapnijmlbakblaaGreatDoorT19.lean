import Derived.Test.YtapnijmlbakblaaGreatDoorT16
import Derived.Test.YtapnijmlbakblaaGreatDoorT17
import Derived.Test.YtapnijmlbakblaaGreatDoorT15
import Derived.Test.YtapnijmlbakblaaGreatDoorT10
import Derived.Test.YtapnijmlbakblaaGreatDoorT18
import Derived.Test.YtapnijmlbakblaaGreatDoorT9
import Derived.Test.YtapnijmlbakblaaGreatDoorT6
set_option linter.unusedVariables false
open Go.IntKind (i64 u64 u32)
namespace Go.Proofs.Tryz
open Go.Eng Go.Big
abbrev jC:=Rat×Int×Int
def gy (k:Int)(s:Sp):List jC:=(if s.a then [] else [(s.lo,k,1)])++(if s.b then [] else [(s.hi,k,-1)])
def lM (A B:List Sp):List jC:=A.flatMap (gy 0)++B.flatMap (gy 1)
def jU:List Sp->Int
 | []=>0
 | s::r=>(if s.a then 1 else 0)+jU r
def je (k:Int):List jC->Rat->Int
 | [],_=>0
 | c::r,t=>(if c.2.1=k/\c.1<t then c.2.2 else 0)+je k r t
def fE (k:Int):List jC->Int
 | []=>0
 | c::r=>(if c.2.1=k then c.2.2 else 0)+fE k r
theorem HI {k:Int}{t:Rat}{l m:List jC}(h:l.Perm m):je k l t=je k m t:=by
 induction h with
 | nil=>rfl
 | cons x _ ih=>simp only [je,ih]
 | swap x y l=>simp only [je];omega
 | trans _ _ h1 h2=>exact h1.trans h2
theorem ku {k:Int}{t:Rat}:∀{l m:List jC},je k (l++m) t=je k l t+je k m t
 | [],m=>by simp [je]
 | c::r,m=>by simp only [List.cons_append,je,ku (l:=r)];omega
theorem wc {k:Int}:∀{l m:List jC},fE k (l++m)=fE k l+fE k m
 | [],m=>by simp [fE]
 | c::r,m=>by simp only [List.cons_append,fE,wc (l:=r)];omega
theorem C8 {k:Int}{t:Rat}:∀{l:List jC},(∀c∈l,c.1<t)->je k l t=fE k l
 | [],_=>rfl
 | c::r,h=>by
  simp only [je,fE,C8 (l:=r) fun x hx=>h x (by simp [hx]),h c (by simp),and_true]
theorem zH {k:Int}{t:Rat}:∀{l:List jC},(∀c∈l,¬c.1<t)->je k l t=0
 | [],_=>rfl
 | c::r,h=>by
  simp only [je,zH (l:=r) fun x hx=>h x (by simp [hx]),h c (by simp),and_false,if_false];omega
theorem oK {k k':Int}{t:Rat}(hk:k≠k'):∀{l:List Sp},je k (l.flatMap (gy k')) t=0
 | []=>rfl
 | s::r=>by
  rw [List.flatMap_cons,ku,oK hk (l:=r)];have hk':¬k'=k:=fun e=>hk e.symm;unfold gy;cases s.a<;>cases s.b<;>simp [je,hk']
theorem we {k:Int}{t:Rat}:∀{l:List Sp},(∀s∈l,s.good)->(∀s∈l,¬s.eu t)->jU l+je k (l.flatMap (gy k)) t=(l.countP fun s=>s.innB t:Nat)
 | [],_,_=>rfl
 | s::r,hg,he=>by
  have ih:=we (k:=k) (t:=t) (l:=r) (fun x c=>hg x (by simp [c])) fun x c=>he x (by simp [c]);have d:=(hg s (by simp)).2;have e:=he s (by simp);rw [List.flatMap_cons,ku,List.countP_cons];simp only [jU];rw [Sp.ic] at d;unfold Sp.eu at e
  have key:(if s.a=true then (1:Int) else 0)+je k (gy k s) t=(if s.innB t=true then 1 else 0:Nat):=by
   unfold gy Sp.innB;cases ha:s.a<;>cases hb:s.b<;>simp [ha,hb] at d e<;>simp [je]<;>(try (by_cases f:s.lo<t))<;>(try (by_cases g:s.hi<t))<;>(try (by_cases h:t<s.hi))<;>simp_all<;>grind
  omega
theorem BW {l:List Sp}{t:Rat}:decide ((0:Int)<(l.countP fun s=>s.innB t:Nat))=inB l t:=by
 refine zV ⟨fun h=>?_,fun h=>?_⟩
 ·have h:=of_decide_eq_true h;have:0<l.countP fun s=>s.innB t:=by omega
  obtain ⟨s,a,h⟩:=List.countP_pos_iff.1 this;exact List.any_eq_true.2 ⟨s,a,h⟩
 ·obtain ⟨s,a,h⟩:=List.any_eq_true.1 h;have:0<l.countP fun s=>s.innB t:=List.countP_pos_iff.2 ⟨s,a,h⟩;exact decide_eq_true (by omega)
theorem Lj {A B:List Sp}{c:jC}:c∈lM A B->∃s∈A++B,s.eu c.1:=by
 intro h
 have one:∀{k:Int} {s:Sp},c∈gy k s->s.eu c.1:=fun {k s} h=>by
  unfold gy at h;unfold Sp.eu;cases ha:s.a<;>cases hb:s.b<;>simp [ha,hb] at h ⊢
  ·rcases h with rfl|rfl<;>simp
  ·subst h;rfl
  ·subst h;rfl
 rcases List.mem_append.1 h with h|h
 ·obtain ⟨s,d,h⟩:=List.mem_flatMap.1 h;exact ⟨s,List.mem_append_left _ d,one h⟩
 ·obtain ⟨s,d,h⟩:=List.mem_flatMap.1 h;exact ⟨s,List.mem_append_right _ d,one h⟩
def ke (s:Sp):Sp:=⟨s.lo,0,s.a,true⟩
def wh (was:Bool)(last:Sp)(out:List Sp):List Sp:=out++if was then [ke last] else []
def H5 (acc:Bool->Bool->Bool)(A B:List Sp)(t:Rat):Bool:=acc (inB A t) (inB B t)
structure MU (acc:Bool->Bool->Bool) (A B:List Sp) (cs:List jC) (i:Nat) (was:Bool) (last:Sp) (out:List Sp):Prop where
 rg:w_ (wh was last out)
 lo:∀s∈wh was last out,∀h:i<cs.length,s.a=false->s.lo<cs[i].1
 hi:∀s∈out,s.b=false/\∀h:i<cs.length,s.hi<cs[i].1
 inn:∀t,(∀s∈A++B,¬s.eu t)->(∀h:i<cs.length,t<cs[i].1)->inB (wh was last out) t=H5 acc A B t
 fr:was=true->last.hi=0/\last.b=false
section
variable {acc:Bool->Bool->Bool} {A B:List Sp} {cs:List jC} {i:Nat} {was:Bool} {last:Sp} {out:List Sp}
theorem Kn (hp:cs.Perm (lM A B))(hA:∀s∈A,s.good)(hB:∀s∈B,s.good)(hs:cs.Pairwise fun x y=>x.1<=y.1){t:Rat}(ht:∀s∈A++B,¬s.eu t)
  (h1:∀c∈cs.take i,c.1<t)(h2:∀h:i<cs.length,t<cs[i].1) :
  acc (decide ((0:Int)<jU A+fE 0 (cs.take i))) (decide ((0:Int)<jU B+fE 1 (cs.take i)))=H5 acc A B t:=by
 have d:∀c∈cs.drop i,¬c.1<t:=by
  intro c a;by_cases b:i<cs.length
  ·obtain ⟨j,f,rfl⟩:=List.getElem_of_mem a;rw [List.getElem_drop];have m:=h2 b;rw [List.length_drop] at f;rcases Nat.eq_zero_or_pos j with rfl|n
   ·simp only [Nat.add_zero];grind
   ·have:=List.pairwise_iff_getElem.1 hs i (i+j) b (by omega) (by omega);grind
  ·rw [List.drop_eq_nil_of_le (by omega)] at a;cases a
 have e:∀k,fE k (cs.take i)=je k (lM A B) t:=fun k=>by
  rw [←HI hp,←C8 h1]
  conv=>rhs;rw [←List.take_append_drop i cs]
  rw [ku,zH d];omega
 have g:=we (k:=0) (t:=t) hA fun s hs=>ht s (List.mem_append_left _ hs);have b1:=we (k:=1) (t:=t) hB fun s hs=>ht s (List.mem_append_right _ hs);have l:je 0 (B.flatMap (gy 1)) t=0:=oK (by decide);have b2:je 1 (A.flatMap (gy 0)) t=0:=oK (by decide);rw [e,e];unfold lM H5;rw [ku,ku,l,b2,←BW,←BW,←g,←b1,Int.add_zero,Int.zero_add]
theorem t_ {x y:List Sp}{t:Rat}:inB (x++y) t=(inB x t||inB y t):=by unfold inB;rw [List.any_append]
theorem Ko {was:Bool}(hw:was=acc (decide ((0:Int)<jU A)) (decide ((0:Int)<jU B)))(hp:cs.Perm (lM A B))(hA:∀s∈A,s.good)(hB:∀s∈B,s.good)(hs:cs.Pairwise fun x y=>x.1<=y.1) :
  MU acc A B cs 0 was ⟨0,0,true,false⟩ []:=by
 refine ⟨?_,fun s h _ a=>?_,fun s h=>(by cases h),fun t b d=>?_,fun _=>⟨rfl,rfl⟩⟩
 ·unfold wh;cases was
  ·exact ⟨fun s h=>by simp at h,by simp⟩
  ·refine ⟨fun s h=>?_,by simp⟩;obtain rfl:s=ke ⟨0,0,true,false⟩:=by simpa using h
   exact ⟨⟨fun _=>rfl,fun _=>rfl⟩,rfl⟩
 ·unfold wh at h;cases was<;>simp at h;subst h;cases a
 ·have:=Kn (acc:=acc) (i:=0) hp hA hB hs b (fun c e=>by simp at e) d;simp only [List.take_zero,fE,Int.add_zero] at this;rw [←this,←hw];unfold wh ke inB Sp.innB;cases was<;>simp
theorem Mx (h:MU acc A B cs i was last out)(hi:i+1<cs.length)(he:cs[i].1=cs[i+1].1):MU acc A B cs (i+1) was last out:=
 ⟨h.rg,fun s a _ b=>by rw [←he];exact h.lo s a (by omega) b,fun s a=>⟨(h.hi s a).1,fun _=>by rw [←he];exact (h.hi s a).2 (by omega)⟩,
  fun t c d=>h.inn t c fun _=>by rw [he];exact d hi,h.fr⟩
theorem L_ (h:MU acc A B cs i was last out)(hi:i<cs.length){t:Rat}(ht:cs[i].1<t):inB out t=false:=by
 refine Bool.eq_false_iff.2 fun he=>?_;obtain ⟨s,c,a⟩:=List.any_eq_true.1 he;obtain ⟨d,e⟩:=h.hi s c;have:=e hi;rw [innB_iff] at a;obtain ⟨-,b⟩:=a;rw [d] at b;simp at b;grind
def iX (was now:Bool)(last:Sp)(x:Rat):Sp:=if now&&!was then ⟨x,0,false,false⟩ else if was&&!now then ⟨last.lo,x,last.a,last.b⟩ else last
def wg (was now:Bool)(last:Sp)(x:Rat)(out:List Sp):List Sp:=if was&&!now then out++[⟨last.lo,x,last.a,last.b⟩] else out
theorem My (h:MU acc A B cs i was last out)(hi:i<cs.length)(hn:∀h:i+1<cs.length,cs[i].1<cs[i+1].1)(hp:cs.Perm (lM A B))(hA:∀s∈A,s.good)(hB:∀s∈B,s.good)(hs:cs.Pairwise fun x y=>x.1<=y.1)
  {now:Bool}(hw:now=acc (decide ((0:Int)<jU A+fE 0 (cs.take (i+1)))) (decide ((0:Int)<jU B+fE 1 (cs.take (i+1))))) :
  MU acc A B cs (i+1) now (iX was now last cs[i].1) (wg was now last cs[i].1 out):=by
 have z:∃s∈A++B,s.eu cs[i].1:=Lj (hp.mem_iff.1 (List.getElem_mem hi))
 have g:∀t,(∀s∈A++B,¬s.eu t)->cs[i].1<t->(∀h:i+1<cs.length,t<cs[i+1].1)->H5 acc A B t=now:=fun t f d n=>by
  rw [hw,Kn (acc:=acc) hp hA hB hs f (fun c D=>?_) n];obtain ⟨j,E,rfl⟩:=List.getElem_of_mem D;rw [List.length_take] at E;rw [List.getElem_take];by_cases e:j=i
  ·subst e;exact d
  ·have:=List.pairwise_iff_getElem.1 hs j i (by omega) hi (by omega);grind
 have apart:∀t,(∀s∈A++B,¬s.eu t)->t<cs[i].1\/cs[i].1<t:=fun t f=>by
  obtain ⟨s,d,n⟩:=z;have:t≠cs[i].1:=fun e=>f s d (e▸n);grind
 have on:∀{t:Rat},cs[i].1<t->inB out t=false:=fun {t}=>L_ (t:=t) h hi;have m:∀s∈wh was last out,s.a=false->s.lo<cs[i].1:=fun s hs l=>h.lo s hs hi l;have o:∀s∈out,s.hi<cs[i].1:=fun s hs=>(h.hi s hs).2 hi;have q:∀s∈out,s.b=false:=fun s hs=>(h.hi s hs).1;have inn:∀t,(∀s∈A++B,¬s.eu t)->t<cs[i].1->inB (wh was last out) t=H5 acc A B t:=fun t f d=>h.inn t f fun _=>d;have p:=h.rg;have u:=h.fr;generalize cs[i].1=x at *;clear z hw hp hs h;unfold iX wg;cases was<;>cases now<;>simp only [Bool.not_true,Bool.not_false,Bool.and_true,Bool.and_false,Bool.false_eq_true,if_true,if_false]<;>unfold wh at*<;> simp only [Bool.false_eq_true,if_true,if_false,List.append_nil] at *
 ·
  refine ⟨by simpa [wh] using p,fun s hs d l=>?_,fun s hs=>⟨q s hs,fun d=>?_⟩,fun t f n=>?_,fun h=>nomatch h⟩
  ·have:=m s (by simpa [wh] using hs) l;have:=hn d;grind
  ·have:=o s hs;have:=hn d;grind
  ·simp only [wh,Bool.false_eq_true,if_false,List.append_nil];rcases apart t f with k|k
   ·exact inn t f k
   ·rw [g t f k n,on k]
 ·
  have e:inB (out++[ke ⟨x,0,false,false⟩])=fun t=>inB out t||decide (x<t):=by
   funext t;rw [t_];unfold inB ke Sp.innB;simp
  refine ⟨?_,fun s hs d l=>?_,fun s hs=>⟨q s hs,fun d=>?_⟩,fun t f n=>?_,fun _=>⟨rfl,rfl⟩⟩
  ·simp only [wh,if_true];exact pW p ⟨⟨(fun h=>nomatch h),fun _=>rfl⟩,rfl⟩ fun y r=>⟨q y r,rfl,o y r⟩
  ·simp only [wh,if_true] at hs;rcases List.mem_append.1 hs with hs|hs
   ·have:=m s hs l;have:=hn d;grind
   ·obtain rfl:s=ke ⟨x,0,false,false⟩:=by simpa using hs
    exact hn d
  ·have:=o s hs;have:=hn d;grind
  ·simp only [wh,if_true];rw [e];dsimp only;rcases apart t f with k|k
   ·rw [inn t f k,decide_eq_false (by grind),Bool.or_false]
   ·rw [g t f k n,decide_eq_true k,Bool.or_true]
 ·
  obtain ⟨f1,f2⟩:last.hi=0/\last.b=false:=by simpa using u
  obtain ⟨F,G,C⟩:=CW p;have v:last.a=false->last.lo<x:=fun l=>m (ke last) (by simp) l
  have e:inB (out++[(⟨last.lo,x,last.a,last.b⟩:Sp)])=fun t=>inB out t||((last.a||decide (last.lo<t))&&decide (t<x)):=by
   funext t;rw [t_];unfold inB Sp.innB;simp [f2]
  have w:inB (out++[ke last])=fun t=>inB out t||(last.a||decide (last.lo<t)):=by
   funext t;rw [t_];unfold inB ke Sp.innB;simp
  refine ⟨?_,fun s hs d l=>?_,fun s hs=>?_,fun t f n=>?_,fun h=>nomatch h⟩
  ·simp only [wh,Bool.false_eq_true,if_false,List.append_nil];refine pW F ⟨⟨fun h=>G.1.1 h,fun h=>by rw [f2] at h;cases h⟩,?_⟩ fun y r=>⟨q y r,(C y r).2.1,(C y r).2.2⟩;rw [Sp.ic];cases l:last.a
   ·exact .inr (.inr (v l))
   ·exact .inl rfl
  ·simp only [wh,Bool.false_eq_true,if_false,List.append_nil] at hs;have:=hn d;rcases List.mem_append.1 hs with hs|hs
   ·have:=m s (List.mem_append_left _ hs) l;grind
   ·obtain rfl:s=⟨last.lo,x,last.a,last.b⟩:=by simpa using hs
    have:=v l;dsimp only;grind
  ·rcases List.mem_append.1 hs with hs|hs
   ·exact ⟨q s hs,fun d=>by have:=o s hs;have:=hn d;grind⟩
   ·obtain rfl:s=⟨last.lo,x,last.a,last.b⟩:=by simpa using hs
    exact ⟨f2,fun d=>hn d⟩
  ·simp only [wh,Bool.false_eq_true,if_false,List.append_nil];rw [e];dsimp only;rcases apart t f with k|k
   ·rw [←inn t f k,w,decide_eq_true k,Bool.and_true]
   ·rw [g t f k n,on k,decide_eq_false (show ¬t<x by grind),Bool.and_false];rfl
 ·
  have w:inB (out++[ke last])=fun t=>inB out t||(last.a||decide (last.lo<t)):=by
   funext t;rw [t_];unfold inB ke Sp.innB;simp
  have v:last.a=false->last.lo<x:=fun l=>m (ke last) (by simp) l;refine ⟨by simpa [wh] using p,fun s hs d l=>?_,fun s hs=>⟨q s hs,fun d=>?_⟩,fun t f n=>?_,fun _=>by simpa using u⟩
  ·have:=m s (by simpa [wh] using hs) l;have:=hn d;grind
  ·have:=o s hs;have:=hn d;grind
  ·simp only [wh,if_true];rcases apart t f with k|k
   ·exact inn t f k
   ·rw [g t f k n,w];dsimp only;cases l:last.a
    ·have:=v l;rw [decide_eq_true (show last.lo<t by grind)];simp
    ·simp
end
end Go.Proofs.Tryz
namespace Go.Proofs.Tryz
open Go.Eng Go.Big
def dC:jC:=(0,0,0)
def cC (a b:jC):Int:=cmpQ a.1 b.1
theorem Rb:Ord cC:=⟨fun a b h=>by unfold cC at *;rcases dO a.1 b.1 with ⟨c,e⟩|⟨c,e⟩|⟨c,e⟩<;>rcases dO b.1 a.1 with ⟨h2,e'⟩|⟨h2,e'⟩|⟨h2,e'⟩<;>rw [e] at h<;>rw [e']<;>grind,
 fun a b d h f=>by unfold cC at *;rcases dO a.1 b.1 with ⟨c,e⟩|⟨c,e⟩|⟨c,e⟩<;>rcases dO b.1 d.1 with ⟨h2,e'⟩|⟨h2,e'⟩|⟨h2,e'⟩<;>rcases dO a.1 d.1 with ⟨h3,e3⟩|⟨h3,e3⟩|⟨h3,e3⟩<;>rw [e] at h<;>rw [e'] at f<;>rw [e3]<;>grind⟩
def RC (V:View)(v:Value)(c:jC):Prop:=∃(x y:Int)(p:OA),v=.agg #[.int .i64 x,.int .i64 y,.pointer p,.int .i64 c.2.1,.int .i64 c.2.2]/\RR V (.agg #[.int .i64 x,.int .i64 y,.pointer p]) c.1/\Sz 1000000 c.1
theorem RC.le {V V':View}{v:Value}{c:jC}(h:RC V v c)(l:V.Le V'):RC V' v c:=by
 obtain ⟨x,y,p,e,a,b⟩:=h;exact ⟨x,y,p,e,a.le l,b⟩
theorem RC.shape {V:View}{v:Value}{c:jC}(h:RC V v c):∃(x y:Int)(p:OA)(a b:Int),v=.agg #[.int .i64 x,.int .i64 y,.pointer p,.int .i64 a,.int .i64 b]:=by
 obtain ⟨x,y,p,e,-⟩:=h;exact ⟨x,y,p,_,_,e⟩
theorem GO {V:View}{v w:Value}{a b:jC}(h:RC V v a)(h':RC V w b):ae prog 223 #[v,w] V fun r V'=>r=.int .i64 (cC a b):=by
 obtain ⟨x,y,p,rfl,f,g⟩:=h;obtain ⟨i,j,k,rfl,c,d⟩:=h';refine wF _ _ _ _ _ _ _ _ _ _ V _ fun l e=>(eI (f.le e) (c.le e) g d (by omega)).mono ?_;rintro r V2 m rfl;exact ⟨_,rfl,fun n o=>rfl⟩
structure SR (V:View) (n:Nat) (vs:List Value) (l:List jC):Prop where
 row:Row 5 RC V vs l
 len:n=l.length
 lP:l.length<50
theorem SR.le {V V':View}{n:Nat}{vs:List Value}{l:List jC}(h:SR V n vs l)(e:V.Le V'):SR V' n vs l:=⟨h.row.le fun _ _ g=>RC.le g e,h.len,h.lP⟩
theorem SR.get {V:View}{n:Nat}{vs:List Value}{l:List jC}(h:SR V n vs l){k:Nat}(hk:k<l.length):∃(x y:Int)(p:OA)(a b:Int),
  ((0+k*5)+5<=vs.length/\(vs.drop (0+k*5)).take 5=[.int .i64 x,.int .i64 y,.pointer p,.int .i64 a,.int .i64 b])/\RC V (.agg #[.int .i64 x,.int .i64 y,.pointer p,.int .i64 a,.int .i64 b]) (l.getD k dC):=by
 obtain ⟨xs,-,f,g,i⟩:=h.row.get (d:=dC) hk (by decide);have c:=f;obtain ⟨x,y,p,a,b,e⟩:=f.shape;have e:=congrArg Array.toList (Value.agg.inj e);dsimp only at e;subst e;rw [Nat.zero_add];exact ⟨x,y,p,a,b,⟨g,i⟩,c⟩
theorem SR.swap {V:View}{n:Nat}{vs:List Value}{l:List jC}(h:SR V n vs l){i j:Nat}(hi:i<l.length)(hj:j<l.length){x y:Int}{p:OA}{a b x' y':Int}{p':OA}{a' b':Int}
  (h1:RC V (.agg #[.int .i64 x,.int .i64 y,.pointer p,.int .i64 a,.int .i64 b]) (l.getD i dC))(h2:RC V (.agg #[.int .i64 x',.int .i64 y',.pointer p',.int .i64 a',.int .i64 b']) (l.getD j dC)) :
  (0+i*5)+5<=vs.length/\(0+j*5)+5<=(aS vs (0+i*5) [.int .i64 x',.int .i64 y',.pointer p',.int .i64 a',.int .i64 b']).length /\
  SR V n (aS (aS vs (0+i*5) [.int .i64 x',.int .i64 y',.pointer p',.int .i64 a',.int .i64 b']) (0+j*5) [.int .i64 x,.int .i64 y,.pointer p,.int .i64 a,.int .i64 b]) (nT dC l i j):=by
 obtain ⟨-,-,-,c,-⟩:=h.row.get (d:=dC) hi (by decide);obtain ⟨-,-,-,e,-⟩:=h.row.get (d:=dC) hj (by decide);rw [Nat.zero_add,Nat.zero_add];refine ⟨c,by rw [fl (by exact c)];exact e,h.row.swap hi hj (by decide) rfl rfl h1 h2,by rw [fF];exact h.len,by rw [fF];exact h.lP⟩
def MR (lb n:Nat)(l:List jC)(a b:Nat)(V':View)(Q:List jC->Prop):Prop:=∃vs' l',V'.w.heap[lb]?=some (.cells vs'.toArray 290 (0,0))/\SR V' n vs' l'/\lB dC l l' a b/\Q l'
theorem sS {V:View}{lb n c:Nat}{vs:List Value}{l:List jC}(hw:V.w.heap[lb]?=some (.cells vs.toArray 290 (0,0)))(hx:V.X lb)(h:SR V n vs l){a b:Nat}(wZ:a<=b)(hb:b<=l.length) :
  ae prog 254 #[.slice (some ⟨lb,0,none⟩) n c,.int .i64 a,.int .i64 b,.func (.func 223) #[] #[]] V fun r V'=>r=.tuple #[]/\MR lb n l a b V' fun l'=>pf cC dC l' a b:=by
 have lP:=h.lP;have len:=h.len;have O:i64.wrap ((a:Int)+1)=((a+1:Nat):Int):=by rw [aw (by omega)];omega
 refine fZ lb n c vs a b V _ hw hx ⟨fun z V'=>∃(i:Nat)(m:List jC),z.1=(i:Int)/\a<i/\(i<=b\/i=a+1)/\SR V' n z.2 m/\lB dC l m a b/\pf cC dC m a i,fun z=>(b-z.1).toNat,
  ⟨(_,vs),by and_intros<;>rfl,a+1,l,O,by omega,.inr rfl,h,.refl _ _ _,.short (by omega)⟩,?_⟩
 rintro ⟨z,us⟩ W Y ⟨i,m,e,P,q,f,d,o⟩;dsimp only at e f;subst e;dsimp only;have Z:m.length=l.length:=d.len;refine ⟨rfl,fun g=>?_,fun g V6 Q R=>⟨rfl,us,m,R,f.le Q,d,?_⟩⟩
 ·have g:(i:Int)<b:=of_decide_eq_true g;have S:i64.wrap ((i:Int)+1)=((i+1:Nat):Int):=by rw [aw (by omega)];omega
  rw [S];refine ⟨fun z V'=>∃(j:Nat)(k:List jC),z.1=(j:Int)/\a<=j/\j<=i/\SR V' n z.2 k/\lB dC l k a b/\KF cC dC k a i j,fun z=>z.1.toNat,⟨((i:Int),us),by and_intros<;>rfl,i,m,rfl,by omega,Nat.le_refl _,f,d,.start o⟩,?_⟩;rintro ⟨z,ws⟩ V2 l2 ⟨j,k,e,T,u,f,d,p⟩;dsimp only at e f;subst e;dsimp only;have kl:k.length=l.length:=d.len;refine ⟨rfl,fun z V'=>V2.Le V'/\(z=true->a<j/\cC (k.getD j dC) (k.getD (j-1) dC)<0)/\(z=false->j<=a\/¬cC (k.getD j dC) (k.getD (j-1) dC)<0),⟨fun s=>?_,fun s=>?_⟩,?_⟩
  ·have s:(j:Int)>a:=of_decide_eq_true s;have y:i64.wrap ((j:Int)-1)=((j-1:Nat):Int):=by rw [aw (by omega)];omega
   rw [y,Int.toNat_natCast,Int.toNat_natCast];obtain ⟨A,B,C,D,b1,E,F⟩:=f.get (k:=j) (by omega);obtain ⟨G,H,I,J,b2,K,L⟩:=f.get (k:=j-1) (by omega);refine ⟨⟨by omega,by omega⟩,A,B,C,D,b1,E,⟨by omega,by omega⟩,G,H,I,J,b2,K,fun V3 M=>(GO (F.le M) (L.le M)).mono ?_⟩;rintro r V4 U rfl;exact ⟨_,rfl,_,by and_intros<;>rfl,M.trans U,fun h=>⟨by omega,of_decide_eq_true h⟩,fun h=>.inr (of_decide_eq_false h)⟩
  ·have s:¬(j:Int)>a:=of_decide_eq_false s;exact ⟨false,by and_intros<;>rfl,View.Le.refl _,(fun h=>nomatch h),fun _=>.inl (by omega)⟩
  ·rintro t V5 x ⟨lv,t1,t2⟩;refine ⟨rfl,fun N=>?_,fun N=>⟨(((i+1:Nat):Int),ws),by dsimp only;omega,by and_intros<;>rfl,i+1,k,rfl,by omega,.inl (by omega),f.le x,d,p.done Rb u (t2 N)⟩⟩;obtain ⟨s,v⟩:=t1 N;have y:i64.wrap ((j:Int)-1)=((j-1:Nat):Int):=by rw [aw (by omega)];omega
   rw [y,Int.toNat_natCast,Int.toNat_natCast];obtain ⟨A,B,C,D,b1,E,F⟩:=(f.le x).get (k:=j) (by omega);obtain ⟨G,H,I,J,b2,K,L⟩:=(f.le x).get (k:=j-1) (by omega);obtain ⟨s1,s2,s3⟩:=(f.le x).swap (i:=j) (j:=j-1) (by omega) (by omega) F L
   exact ⟨⟨by omega,by omega⟩,G,H,I,J,b2,K,⟨by omega,by omega⟩,A,B,C,D,b1,E,⟨by omega,by omega⟩,s1,⟨by omega,by omega⟩,s2,(((j-1:Nat):Int),_),by dsimp only;omega,by and_intros<;>rfl,j-1,_,rfl,by omega,by omega,s3,
    d.trans (lB.nT (by omega) (by omega) (by omega) (by omega) (by omega)),p.move Rb s u (by omega) v⟩
 ·have g:¬(i:Int)<b:=of_decide_eq_false g;rcases q with q|q
  ·rw [show b=i by omega];exact o
  ·exact .short (by omega)
theorem uF {V:View}:ae prog 222 #[.slice none 0 0,.func (.func 223) #[] #[]] V fun r V'=>r=.tuple #[]:=by
 have ins:∀{W:View},ae prog 254 #[.slice none 0 0,.int .i64 0,.int .i64 0,.func (.func 223) #[] #[]] W fun r V'=>r=.tuple #[]:=by
  intro W;refine eW 0 0 W _ ⟨fun z _=>z=1,fun _=>0,⟨1,by and_intros<;>first|rfl|exact aw (by omega),rfl⟩,?_⟩;rintro z e f rfl;exact ⟨rfl,fun h=>absurd (of_decide_eq_true h) (by omega),fun _ V2 g=>rfl⟩
 refine lA V _ fun e f=>(kF 0 (by omega)).mono ?_;rintro r V2 g rfl;refine ⟨_,rfl,fun b m=>?_⟩
 have a:ae prog 245 #[.slice none 0 0,.int .i64 0,.int .i64 0,.int .i64 (bh 0:Int),.func (.func 223) #[] #[]] b fun r V'=>r=.tuple #[]:=by
  refine gX 0 0 _ b _ ⟨fun z _=>z.1=0/\z.2.1=0,fun _=>0,⟨(0,0,_,true,true),by and_intros<;>rfl,rfl,rfl⟩,?_⟩;rintro ⟨n,o,p,q,s⟩ t u ⟨c,d⟩;dsimp only at c d;subst c d;dsimp only;refine ⟨rfl,fun _ v w=>ins.mono ?_,fun h=>absurd (of_decide_eq_false h) (by decide)⟩;rintro r i j rfl;exact ⟨rfl,fun k l=>rfl⟩
 refine a.mono ?_;rintro r i j rfl;exact ⟨rfl,fun k l=>rfl⟩
def uk (m:Nat):Prop:=∀(V:View)(lb n c:Nat)(vs:List Value)(l:List jC),l.length=m->V.w.heap[lb]?=some (.cells vs.toArray 290 (0,0))->V.X lb->SR V n vs l ->
 ae prog 222 #[.slice (some ⟨lb,0,none⟩) n c,.func (.func 223) #[] #[]] V fun r V'=>r=.tuple #[]/\∃vs' l',V'.w.heap[lb]?=some (.cells vs'.toArray 290 (0,0))/\SR V' n vs' l'/\l'.Perm l/\l'.Pairwise fun x y=>x.1<=y.1
theorem Gj {m:Nat}(h12:m<=12):uk m:=by
 intro V lb n c f l hm hw q h;subst hm;have lP:=h.lP;have len:=h.len;have w:u64.wrap (n:Int)=n:=aN (by omega);refine o_ lb n c f V _ hw q ?_;rw [w];refine fun J B=>(kF n (by omega)).mono ?_;rintro r V2 s rfl
 have t:∀{W:View} {d:Nat},W.w.heap[d]?=some (.cells f.toArray 290 (0,0))->W.X d->SR W n f l->ae prog 245 #[.slice (some ⟨d,0,none⟩) n c,.int .i64 0,.int .i64 (n:Int),.int .i64 (bh n:Int),.func (.func 223) #[] #[]] W fun r u=>r=.tuple #[]/\MR d n l 0 n u fun g=>pf cC dC g 0 n:=by
  intro W d hw q h;refine jR d n c f 0 n (bh n:Int) W _ hw q ⟨fun z u=>z.1=0/\z.2.1=(n:Int)/\SR u n z.2.2.2.2.2 l,fun _=>0,⟨(0,(n:Int),(bh n:Int),true,true,f),by and_intros<;>rfl,rfl,rfl,h⟩,?_⟩;rintro ⟨z1,z2,K,wb,wp,us⟩ J B ⟨C,p,D⟩;dsimp only at C p D;subst C p;dsimp only;have L:i64.wrap ((n:Int)-0)=(n:Int):=by rw [aw (by omega)];omega
  rw [L];refine ⟨rfl,fun _ V2 s d p M=>(sS (V:=V2.ax [d]) p ⟨by simp,M⟩ (D.le s) (a:=0) (b:=n) (by omega) (by omega)).mono ?_,fun h12=>by have:=of_decide_eq_false h12;omega⟩;rintro r E F ⟨rfl,ws,N,v,x,O,P⟩;exact ⟨rfl,ws,v,fun Q G y=>⟨rfl,ws,N,y,x.le fun b o h=>G b o h,O,P⟩⟩
 refine ⟨_,rfl,fun E F d v R=>(t (W:=E.ax [d]) v ⟨by simp,R⟩ (h.le fun b o h=>F b o (s b o (B b o h)))).mono ?_⟩;rintro r Q G ⟨rfl,k,g,S,A,H,asc⟩;refine ⟨rfl,k,S,fun V5 T U=>⟨rfl,k,g,U,A.le fun b o h=>T b o h,H.perm,?_⟩⟩;have sl:=H.len;refine List.pairwise_iff_getElem.2 fun i j Y Z DO=>?_;have:=asc i j (by omega) DO (by omega);rw [List.getD_eq_getElem?_getD,List.getD_eq_getElem?_getD,List.getElem?_eq_getElem Y,List.getElem?_eq_getElem Z] at this;simp only [Option.getD_some] at this;unfold cC at this;rcases dO g[j].1 g[i].1 with ⟨I,e⟩|⟨I,e⟩|⟨I,e⟩<;>rw [e] at this<;>grind
def B7 (l:List Sp):List Rat:=l.flatMap fun s=>s.FY++s.Er
def fe (l:List Sp):Nat:=(B7 l).length
theorem Ao {s:Sp}{r:List Sp}:fe (s::r)=(s.FY++s.Er).length+fe r:=by unfold fe B7;rw [List.flatMap_cons,List.length_append]
theorem N_ {a b:List Sp}:fe (a++b)=fe a+fe b:=by unfold fe B7;rw [List.flatMap_append,List.length_append]
theorem Ah {A B:List Sp}:(lM A B).length=fe A+fe B:=by
 have one:∀(k:Int)(l:List Sp),(l.flatMap (gy k)).length=fe l:=fun k l=>by
  induction l with
  | nil=>rfl
  | cons s r ih=>
   rw [List.flatMap_cons,List.length_append,Ao,ih];unfold gy Sp.FY Sp.Er;cases s.a<;>cases s.b<;>simp
 unfold lM;rw [List.length_append,one,one]
theorem M7:∀(l:List Sp),fe l<=2*l.length
 | []=>by simp [fe,B7]
 | s::r=>by
  have:=M7 r;have h:(s.FY++s.Er).length<=2:=by unfold Sp.FY Sp.Er;cases s.a<;>cases s.b<;>simp
  rw [Ao,List.length_cons];omega
theorem nN:∀(ss:List Sp)(o:List Rat),(ss.foldl (fun o s=>nS s o 2) o).length<=o.length+fe ss
 | [],o=>by simp [fe,B7]
 | s::r,o=>by
  have ih:=nN r (nS s o 2)
  have:(nS s o 2).length<=o.length+(s.FY++s.Er).length:=by
   have c:=@pP s.lo o;have d:=@pP s.hi o;have e:=@pP s.hi (dj s.lo o);show (if s.b=true then (if s.a=true then o else dj s.lo o) else dj s.hi (if s.a=true then o else dj s.lo o)).length<=_;unfold Sp.FY Sp.Er;cases s.a<;>cases s.b<;>simp<;>omega
  rw [List.foldl_cons,Ao];omega
theorem IG (ss:List Sp):(endsL ss).length<=fe ss:=by have:=nN ss [];simpa [endsL] using this
theorem IK {c:List Rat}{i:Nat}(hi:i<=c.length):((cQ c i).a=false->(cQ c i).lo∈c)/\((cQ c i).b=false->(cQ c i).hi∈c):=by
 unfold cQ;refine ⟨fun h=>?_,fun h=>?_⟩
 ·have h:¬i=0:=of_decide_eq_false h;dsimp only;rw [if_pos (by omega),kV (by omega)];exact List.getElem_mem _
 ·have h:¬i=c.length:=of_decide_eq_false h;dsimp only;rw [if_pos (by omega),kV (by omega)];exact List.getElem_mem _
theorem ze {c:List Rat}{ms:List Bool}:∀(i:Nat),i<=c.length+1->∀s∈cI c ms i,(s.a=false->s.lo∈c)/\(s.b=false->s.hi∈c)
 | 0,_,s,h=>by cases h
 | i+1,hi,s,h=>by
  have ih:=ze (c:=c) (ms:=ms) i (by omega);have g:=IK (c:=c) (i:=i) (by omega);unfold cI at h;split at h
  ·split at h
   ·rename_i j;unfold vr at h;rcases List.mem_append.1 h with h|h
    ·exact ih s (List.dropLast_subset _ h)
    ·obtain rfl:=List.mem_singleton.1 h;refine ⟨fun f=>?_,fun k=>g.2 k⟩;have d:cI c ms i≠[]:=fun e=>by rw [e] at j;simp at j
     have l:(cI c ms i).getLastD Sp.zero=(cI c ms i).getLast d:=by rw [List.getLastD_eq_getLast?,List.getLast?_eq_some_getLast d];rfl
     dsimp only at f ⊢;rw [l] at f ⊢;exact (ih _ (List.getLast_mem d)).1 f
   ·rcases List.mem_append.1 h with h|h
    ·exact ih s h
    ·obtain rfl:=List.mem_singleton.1 h;exact g
  ·exact ih s h
theorem G1 {op:Int}{a b:List Sp}:∀s∈combL op a b,(s.a=false->s.lo∈endsL (a++b))/\(s.b=false->s.hi∈endsL (a++b)):=by
 intro s c;unfold combL Cb at c;exact ze _ (by rw [kj];omega) s c
theorem Lm {op:Int}{a b:List Sp}{k:Nat}(hk:1<=k)(ha:∀s∈a,s.sz k)(hb:∀s∈b,s.sz k):∀s∈combL op a b,s.sz k:=by
 intro s d;have f:=(comb_reg op a b).1 s d
 have he:∀q∈endsL (a++b),Sz k q:=fun q g=>by
  obtain ⟨x,c,h⟩:=G4 g
  have:x.sz k:=by
   rcases List.mem_append.1 c with c|c
   ·exact ha x c
   ·exact hb x c
  rcases h with rfl|rfl
  ·exact this.1
  ·exact this.2
 obtain ⟨i,j⟩:=G1 s d;constructor
 ·cases e:s.a
  ·exact he _ (i e)
  ·rw [f.1.1 e];exact SK k hk
 ·cases e:s.b
  ·exact he _ (j e)
  ·rw [f.1.2 e];exact SK k hk
theorem IA (op:Int)(a b:List Sp):(combL op a b).length<=fe a+fe b+1:=by
 have h:=Ha (endsL (a++b)) (oE op a b (endsL (a++b))) (oE op a b (endsL (a++b))).length;have c:=IG (a++b);rw [N_] at c;rw [kj] at h;unfold combL Cb;rw [kj];omega
def int (a b:List Sp):List Sp:=combL 2 a b
theorem yS {V:View}{ab ob fa:Nat}{x y:Int}{acc:Bool->Bool->Bool}(hw:V.w.heap[ab]?=some (.cells #[.func (.func fa) #[] #[]] 254 (0,0)))(hx:V.X ab)
  (hw':V.w.heap[ob]?=some (.cells #[.int .i64 x,.int .i64 y] 288 (0,0)))(hx':V.X ob)(hne:ab≠ob)(hf:∀a b (W:View),ae prog fa #[.bool a,.bool b] W fun r _=>r=.bool (acc a b)) :
  ae prog 224 #[.pointer (some ⟨ab,0,none⟩),.pointer (some ⟨ob,0,none⟩)] V fun r V'=>r=.bool (acc (decide ((0:Int)<x)) (decide ((0:Int)<y))) /\
   V'.w.heap[ab]?=some (.cells #[.func (.func fa) #[] #[]] 254 (0,0))/\V'.w.heap[ob]?=some (.cells #[.int .i64 x,.int .i64 y] 288 (0,0)):=by
 refine wG ab ob fa x y V _ hw hx hw' hx' hne ⟨by decide,by decide,fun c f=>(hf _ _ c).mono ?_⟩;rintro r V2 g rfl;exact ⟨_,rfl,fun h i d e=>⟨rfl,d,e⟩⟩
def F7 (A:List Sp)(k:Nat)(m:Int):List Value:=if k=0 then [.int .i64 m,.int .i64 0] else if k=1 then [.int .i64 (jU A),.int .i64 m] else []
theorem L1 {A:List Sp}{k:Nat}{m:Int}(hk:k<2):(F7 A k m)[0+k*1]?=some (.int .i64 m):=by
 obtain rfl|rfl:k=0\/k=1:=by omega
 ·rfl
 ·rfl
theorem L4 {A:List Sp}{k:Nat}{m:Int}(hk:k<2):(F7 A k m).length=2:=by
 obtain rfl|rfl:k=0\/k=1:=by omega
 ·rfl
 ·rfl
theorem L5 {A:List Sp}{k:Nat}{m m':Int}(hk:k<2):(F7 A k m).set (0+k*1) (.int .i64 m')=F7 A k m':=by
 obtain rfl|rfl:k=0\/k=1:=by omega
 ·rfl
 ·rfl
theorem LY {a b:List Sp}:jU (a++b)=jU a+jU b:=by
 induction a with
 | nil=>simp [jU]
 | cons s r ih=>simp only [List.cons_append,jU,ih];omega
theorem AB:∀{a:List Sp},0<=jU a/\jU a<=a.length
 | []=>⟨Int.le_refl _,Int.le_refl _⟩
 | s::r=>by
  have ⟨h1,h2⟩:=AB (a:=r);simp only [jU,List.length_cons];split<;>omega
theorem Lk {A B:List Sp}{c:jC}:c∈lM A B->(c.2.1=0\/c.2.1=1)/\(c.2.2=1\/c.2.2=-1):=by
 intro h
 have one:∀{k:Int} {s:Sp},c∈gy k s->c.2.1=k/\(c.2.2=1\/c.2.2=-1):=fun {k s} h=>by
  unfold gy at h;rcases List.mem_append.1 h with h|h
  ·split at h
   ·cases h
   ·rw [List.mem_singleton.1 h];exact ⟨rfl,.inl rfl⟩
  ·split at h
   ·cases h
   ·rw [List.mem_singleton.1 h];exact ⟨rfl,.inr rfl⟩
 rcases List.mem_append.1 h with h|h
 ·obtain ⟨s,a,h⟩:=List.mem_flatMap.1 h;exact ⟨.inl (one h).1,(one h).2⟩
 ·obtain ⟨s,a,h⟩:=List.mem_flatMap.1 h;exact ⟨.inr (one h).1,(one h).2⟩
theorem AX {k:Int}:∀{l:List jC},(∀c∈l,c.2.2=1\/c.2.2=-1)->-(l.length:Int)<=fE k l/\fE k l<=l.length
 | [],_=>⟨Int.le_refl _,Int.le_refl _⟩
 | c::r,h=>by
  have ⟨h1,h2⟩:=AX (k:=k) (l:=r) fun x a=>h x (by simp [a]);have:=h c (by simp);simp only [fE,List.length_cons];split<;>omega
def CG (A B:List Sp)(l:List jC):List Value:=[.int .i64 (jU A+fE 0 l),.int .i64 (jU B+fE 1 l)]
def OS (A B:List Sp)(l:List jC)(k:Int):Int:=if k=0 then jU A+fE 0 l else jU B+fE 1 l
theorem L7 {A B:List Sp}{l:List jC}{k:Int}(hk:k=0\/k=1):(CG A B l)[0+k.toNat*1]?=some (.int .i64 (OS A B l k)):=by
 rcases hk with rfl|rfl<;>rfl
theorem L8 {A B:List Sp}{l:List jC}{c:jC}(hk:c.2.1=0\/c.2.1=1):(CG A B l).set (0+c.2.1.toNat*1) (.int .i64 (OS A B l c.2.1+c.2.2))=CG A B (l++[c]):=by
 unfold CG OS;rw [wc,wc];simp only [fE];rcases hk with h|h<;>rw [h]
 ·simp [Int.add_assoc]
 ·simp [Int.add_assoc]
structure CR (V:View) (n c:Nat) (vs:List Value) (l:List jC):Prop where
 len:n=l.length
 le:n<=c
 cap:c*5<=vs.length
 row:Row 5 RC V vs l
 ne:vs≠[]->l≠[]
theorem CR.mono {V V':View}{n c:Nat}{vs:List Value}{l:List jC}(h:CR V n c vs l)(e:V.Le V'):CR V' n c vs l:=⟨h.len,h.le,h.cap,h.row.le fun _ _ g=>RC.le g e,h.ne⟩
theorem CR.snoc {V:View}{n c:Nat}{vs:List Value}{l:List jC}(h:CR V n c vs l){x y:Int}{p:OA}{q:Rat}(hr:RR V (.agg #[.int .i64 x,.int .i64 y,.pointer p]) q)(hs:Sz 1000000 q)(k d:Int){sp:List Value}{c':Nat}(h1:n+1<=c')(h2:c'*5<=(n+1)*5+sp.length) :
  CR V (n+1) c' (vs.take (n*5)++([.int .i64 x,.int .i64 y,.pointer p,.int .i64 k,.int .i64 d]:List Value)++sp) (l++[(q,k,d)]):=by
 have b:=h.len;have f:=h.cap;have g:=h.le;refine ⟨by rw [List.length_append,b];rfl,h1,?_,?_,fun _=>by simp⟩
 ·have e:(vs.take (n*5)).length=n*5:=by rw [List.length_take];omega
  rw [List.length_append,List.length_append,e];simp only [List.length_cons,List.length_nil];omega
 ·have:=h.row.snoc (sp:=sp) (xs:=[.int .i64 x,.int .i64 y,.pointer p,.int .i64 k,.int .i64 d]) (a:=(q,k,d)) rfl ⟨x,y,p,rfl,hr,hs⟩ (by decide);rw [←b] at this;exact this
structure IR (V:View) (n c:Nat) (vs:List Value) (l:List Sp):Prop where
 len:n=l.length
 le:n<=c
 cap:c*8<=vs.length
 row:Row 8 lU V vs l
theorem IR.mono {V V':View}{n c:Nat}{vs:List Value}{l:List Sp}(h:IR V n c vs l)(e:V.Le V'):IR V' n c vs l:=⟨h.len,h.le,h.cap,h.row.le fun _ _ g=>lU.le g e⟩
theorem IR.nil {V:View}:IR V 0 0 [] []:=⟨rfl,Nat.le_refl _,Nat.le_refl _,Row.nil⟩
theorem IR.snoc {V:View}{n c:Nat}{vs:List Value}{l:List Sp}(h:IR V n c vs l){x1 x2:Int}{p:OA}{y1 y2:Int}{q:OA}{s:Sp}(hr:RR V (.agg #[.int .i64 x1,.int .i64 x2,.pointer p]) s.lo)(hr':RR V (.agg #[.int .i64 y1,.int .i64 y2,.pointer q]) s.hi){sp:List Value}{c':Nat}(h1:n+1<=c')(h2:c'*8<=(n+1)*8+sp.length) :
  IR V (n+1) c' (vs.take (n*8)++([.int .i64 x1,.int .i64 x2,.pointer p,.int .i64 y1,.int .i64 y2,.pointer q,.bool s.a,.bool s.b]:List Value)++sp) (l++[s]):=by
 have d:=h.len;have f:=h.cap;have g:=h.le;refine ⟨by rw [List.length_append,d];rfl,h1,?_,?_⟩
 ·have e:(vs.take (n*8)).length=n*8:=by rw [List.length_take];omega
  rw [List.length_append,List.length_append,e];simp only [List.length_cons,List.length_nil];omega
 ·have:=h.row.snoc (sp:=sp) (xs:=[.int .i64 x1,.int .i64 x2,.pointer p,.int .i64 y1,.int .i64 y2,.pointer q,.bool s.a,.bool s.b]) (a:=s) rfl ⟨_,_,_,_,_,_,rfl,hr,hr'⟩ (by decide);rw [←d] at this;exact this
theorem Q9 {x y:Int}{p:OA}{a b:Int}:∀v∈([.int .i64 x,.int .i64 y,.pointer p,.int .i64 a,.int .i64 b]:List Value),v.oneCell'=true:=by
 intro v hm;simp only [List.mem_cons,List.not_mem_nil,or_false] at hm;rcases hm with rfl|rfl|rfl|rfl|rfl<;>rfl
theorem Q_ {x1 x2:Int}{p:OA}{y1 y2:Int}{q:OA}{a b:Bool}:∀v∈([.int .i64 x1,.int .i64 x2,.pointer p,.int .i64 y1,.int .i64 y2,.pointer q,.bool a,.bool b]:List Value),v.oneCell'=true:=by
 intro v hm;simp only [List.mem_cons,List.not_mem_nil,or_false] at hm;rcases hm with rfl|rfl|rfl|rfl|rfl|rfl|rfl|rfl<;>rfl
def LK (A B:List Sp)(k:Nat):List Sp:=if k=0 then A else B
def M3 (A B:List Sp)(k:Nat):List jC:=if k=0 then [] else if k=1 then A.flatMap (gy 0) else lM A B
def Pw (A B:List Sp)(k:Nat):List Value:=if k=2 then CG A B [] else F7 A k 0
theorem BH {A B:List Sp}{k:Nat}(hk:k<2):M3 A B k++(LK A B k).flatMap (gy k)=M3 A B (k+1):=by
 obtain rfl|rfl:k=0\/k=1:=by omega
 ·rfl
 ·rfl
theorem JK {A B:List Sp}{k:Nat}(hk:k<2):F7 A k (jU (LK A B k))=Pw A B (k+1):=by
 obtain rfl|rfl:k=0\/k=1:=by omega
 ·rfl
 ·simp [F7,Pw,CG,LK,fE]
theorem OK {b c:Nat}(h:0<c):mA b c=some ⟨b,0,none⟩:=by unfold mA;rw [if_neg (by omega)]
theorem G9 {f:Sp->List jC}{l:List Sp}{j:Nat}(h:j<l.length):(l.take (j+1)).flatMap f=(l.take j).flatMap f++f l[j]:=by
 rw [List.take_add_one,List.getElem?_eq_getElem h,List.flatMap_append];simp
theorem JF {l:List Sp}{j:Nat}(h:j<l.length):jU (l.take (j+1))=jU (l.take j)+if l[j].a then 1 else 0:=by
 rw [List.take_add_one,List.getElem?_eq_getElem h,LY];simp [jU]
theorem K9 {A B:List Sp}{k j:Nat}(hk:k<2):(M3 A B k++((LK A B k).take j).flatMap (gy k)).length<=fe A+fe B:=by
 have c:((LK A B k).flatMap (gy k)).length=(((LK A B k).take j).flatMap (gy k)).length+(((LK A B k).drop j).flatMap (gy k)).length:=by
  conv=>lhs;rw [←List.take_append_drop j (LK A B k),List.flatMap_append]
  rw [List.length_append]
 have a:=congrArg List.length (BH (A:=A) (B:=B) hk);rw [List.length_append] at a
 have b:(M3 A B (k+1)).length<=(lM A B).length:=by
  obtain rfl|rfl:k=0\/k=1:=by omega
  ·unfold lM;rw [List.length_append];exact Nat.le_add_right _ _
  ·exact Nat.le_refl _
 rw [Ah] at b;rw [List.length_append];omega
theorem Mw {acc:Bool->Bool->Bool}{A B:List Sp}{cs:List jC}{was:Bool}{last:Sp}{out:List Sp}(h:MU acc A B cs cs.length was last out){op:Int}(ha:∀t,acc (inB A t) (inB B t)=opB op (inB A t) (inB B t)):wh was last out=combL op A B:=by
 refine reg_eq (endsL (A++B)) h.rg (comb_reg _ _ _) fun t a=>?_;rw [comb_inB _ _ _ a,h.inn t (fun s b he=>a (B9.2 ⟨s,b,he⟩)) fun h=>absurd h (Nat.lt_irrefl _)];exact ha t
theorem Ix {V:View}{p0 p1:OA}{n0 c0 n1 c1 fa:Nat}{A B:List Sp}{op:Int}{acc:Bool->Bool->Bool}(hacc:∀t,acc (inB A t) (inB B t)=opB op (inB A t) (inB B t))(hA:jW 8 lU V p0 n0 A)(hB:jW 8 lU V p1 n1 B)(gA:∀s∈A,s.good)(gB:∀s∈B,s.good)(sA:∀s∈A,s.sz 1000000)(sB:∀s∈B,s.sz 1000000)
  (nA:A.length<=1000)(nB:B.length<=1000)(lP:fe A+fe B<50)(so:uk (fe A+fe B))(hf:∀a b (W:View),ae prog fa #[.bool a,.bool b] W fun r _=>r=.bool (acc a b)) :
  ae prog 176 #[.agg #[.slice p0 n0 c0,.slice p1 n1 c1],.func (.func fa) #[] #[]] V fun r V'=>∃q m e,r=.slice q m e/\jW 8 lU V' q m (combL op A B):=by
 obtain rfl:=hA.len;obtain rfl:=hB.len
 refine A4 p0 _ c0 p1 _ c1 fa V _ ⟨fun z V'=>∃k:Nat,z.2.2.2.1=(k:Int)/\k<=2/\CR V' z.1 z.2.1 z.2.2.1 (M3 A B k)/\z.2.2.2.2=Pw A B k,fun z=>2-z.2.2.2.1.toNat,
  ⟨(0,0,[],0,[.int .i64 0,.int .i64 0]),by and_intros<;>rfl,0,rfl,by decide,⟨rfl,Nat.le_refl _,Nat.le_refl _,Row.nil,fun h=>absurd rfl h⟩,rfl⟩,?_⟩
 rintro ⟨P,z2,vs,z4,os⟩ V1 l1 ⟨k,e4,WY,F,J⟩;dsimp only at e4 F J;subst e4 J;dsimp only;refine ⟨rfl,fun M=>?_,fun M=>?_⟩
 ·have M:(k:Int)<2:=of_decide_eq_true M;have hk:k<2:=by omega
  have T:i64.wrap ((k:Int)+1)=((k+1:Nat):Int):=by rw [aw (by omega)];rfl
  rw [T,Int.toNat_natCast]
  obtain ⟨p,n,c,el,hL⟩:∃p n c,([(p0,A.length,c0),(p1,B.length,c1)]:List (OA×Nat×Nat)).getD k (none,0,0)=(p,n,c)/\jW 8 lU V p n (LK A B k):=by
   obtain rfl|rfl:k=0\/k=1:=by omega
   ·exact ⟨_,_,_,rfl,hA⟩
   ·exact ⟨_,_,_,rfl,hB⟩
  rw [el];dsimp only
  have b7:(∀s∈LK A B k,s.sz 1000000)/\(LK A B k).length<=1000:=by
   obtain rfl|rfl:k=0\/k=1:=by omega
   ·exact ⟨sA,nA⟩
   ·exact ⟨sB,nB⟩
  obtain ⟨sL,nL⟩:=b7;obtain rfl:=hL.len
  refine ⟨⟨by omega,by omega⟩,fun z V'=>∃j:Nat,z.2.2.2.1=(j:Int)/\j<=(LK A B k).length/\CR V' z.1 z.2.1 z.2.2.1 (M3 A B k++((LK A B k).take j).flatMap (gy k))/\z.2.2.2.2=F7 A k (jU ((LK A B k).take j)),fun z=>(LK A B k).length-z.2.2.2.1.toNat,
   ⟨(P,z2,vs,0,Pw A B k),by and_intros<;>rfl,0,rfl,Nat.zero_le _,by simpa using F,by rw [List.take_zero];unfold Pw;rw [if_neg (by omega)];rfl⟩,?_⟩
  rintro ⟨T,w2,us,w4,os⟩ V2 l2 ⟨j,e4,Pu,D,J⟩;dsimp only at e4 D J;subst e4 J;dsimp only;refine ⟨rfl,fun hj=>?_,fun hj=>?_⟩
  ·have hj:(j:Int)<(LK A B k).length:=of_decide_eq_true hj;have Q:j<(LK A B k).length:=by omega
   have w3:i64.wrap ((j:Int)+1)=((j+1:Nat):Int):=by rw [aw (by omega)];rfl
   rw [Int.toNat_natCast,w3];obtain ⟨ad,ha,xs,-,hv,C⟩:=(hL.le (l1.trans l2) fun _ _ g=>lU.le g (l1.trans l2)).at_ j Q;obtain ⟨x1,x2,q,y1,y2,q',ex,U,Z⟩:=hv;have ex:=congrArg Array.toList (Value.agg.inj ex);dsimp only at ex;subst ex;have hs:=sL _ (List.getElem_mem Q);have ft:=G9 (f:=gy (k:Int)) Q;have ot:=JF Q;have ob:=AB (a:=(LK A B k).take j);rw [List.length_take] at ob;have cn:=D.len;have bl:=K9 (A:=A) (B:=B) (j:=j) hk;rw [←cn] at bl;have c1:gy (k:Int) (LK A B k)[j]=(if (LK A B k)[j].a then [] else [((LK A B k)[j].lo,(k:Int),1)])++(if (LK A B k)[j].b then [] else [((LK A B k)[j].hi,(k:Int),-1)]):=rfl;rw [c1] at ft;generalize (LK A B k)[j]=s at *
   refine ⟨cB ha,⟨by omega,by omega⟩,_,_,_,_,_,_,_,_,ad,ha,C 0 _ rfl,C 1 _ rfl,C 2 _ rfl,C 3 _ rfl,C 4 _ rfl,C 5 _ rfl,C 6 _ rfl,C 7 _ rfl,
    fun z V'=>CR V' z.1 z.2.1 z.2.2.1 (M3 A B k++((LK A B k).take j).flatMap (gy k)++(if s.a then [] else [(s.lo,(k:Int),1)]))/\z.2.2.2=F7 A k (jU ((LK A B k).take (j+1))),⟨fun E=>?_,fun E=>?_⟩,?_⟩
   ·rw [E,if_pos rfl] at ot;rw [E,if_pos rfl,List.append_nil];refine ⟨⟨by omega,by omega⟩,_,L1 hk,⟨by omega,by omega⟩,by rw [L4 hk];omega,(T,w2,us,F7 A k (jU ((LK A B k).take (j+1)))),?_,D,rfl⟩;have e:(F7 A k (jU ((LK A B k).take j))).set (0+k*1) (.int .i64 (i64.wrap (jU ((LK A B k).take j)+1)))=F7 A k (jU ((LK A B k).take (j+1))):=by rw [L5 hk,aw (by omega),ot]
    and_intros<;>first|rfl|exact e
   ·rw [E,if_neg (by decide),Int.add_zero] at ot;rw [E,if_neg (by decide)];refine ⟨by omega,D.le,D.cap,rfl,Q9,fun sp c' v R=>⟨(T+1,c',_,F7 A k (jU ((LK A B k).take j))),by and_intros<;>rfl,D.snoc U hs.1 _ _ v R,by dsimp only;rw [ot]⟩⟩
   ·rintro ⟨k1,k2,ks,os⟩ V3 l3 ⟨G,J⟩;dsimp only at G J;subst J;dsimp only;have Yy:=G.len;have c5:k1<=T+1:=by rw [Yy,cn,List.length_append];split<;>simp
    refine ⟨rfl,fun z V'=>CR V' z.1 z.2.1 z.2.2 (M3 A B k++((LK A B k).take (j+1)).flatMap (gy k)),⟨fun E=>?_,fun E=>?_⟩,?_⟩
    ·have E:s.b=false:=by simpa using E
     simp only [E,Bool.false_eq_true,if_false] at ft;rw [ft,←List.append_assoc,←List.append_assoc];refine ⟨by omega,G.le,G.cap,rfl,Q9,fun sp c' v R=>⟨(k1+1,c',_),by and_intros<;>rfl,G.snoc (Z.le l3) hs.2 _ _ v R⟩⟩
    ·have E:s.b=true:=by simpa using E
     simp only [E,if_true,List.append_nil] at ft;rw [ft,←List.append_assoc];exact ⟨(k1,k2,ks),by and_intros<;>rfl,G⟩
    ·rintro ⟨O,X,ms⟩ V4 l4 a2;dsimp only at a2;exact ⟨rfl,(O,X,ms,((j+1:Nat):Int),_),by dsimp only;omega,by and_intros<;>rfl,j+1,rfl,by omega,a2,rfl⟩
  ·have hj:¬(j:Int)<(LK A B k).length:=of_decide_eq_false hj;obtain rfl:j=(LK A B k).length:=by omega
   rw [List.take_length] at *;refine ⟨(T,w2,us,((k+1:Nat):Int),F7 A k (jU (LK A B k))),by dsimp only;omega,by and_intros<;>rfl,k+1,rfl,by omega,?_,JK hk⟩;rw [←BH hk];exact D
 have M:¬(k:Int)<2:=of_decide_eq_false M;obtain rfl:k=2:=by omega
 have F:CR V1 P z2 vs (lM A B):=F;have cl:(lM A B).length<50:=by rw [Ah];exact lP
 have b8:=F.len;have c6:=F.le;rw [show Pw A B 2=CG A B [] from rfl];have K:∀l:List jC,CG A B l≠[]:=fun l h=>by cases h
 refine ⟨fun z V'=>∃cs:List jC,SR V' P z cs/\cs.Perm (lM A B)/\cs.Pairwise (fun x y=>x.1<=y.1),⟨fun h0=>?_,fun h0 V7 l7 bk e7 h7=>?_⟩,?_⟩
 ·subst h0;have v:=F.cap;rw [List.length_nil] at v;obtain rfl:z2=0:=by omega
  obtain rfl:P=0:=by omega
  have a3:lM A B=[]:=List.eq_nil_of_length_eq_zero (by omega);exact ⟨rfl,fun V5 l5=>uF.mono fun r V6 l6 hr=>⟨hr,[],by and_intros<;>rfl,[],⟨Row.nil,rfl,by simp⟩,by rw [a3],List.Pairwise.nil⟩⟩
 ·have c7:0<(lM A B).length:=List.length_pos_iff.2 (F.ne h0);rw [zJ h0,OK (show 0<z2 by omega)];refine (so (V7.ax [bk]) bk _ _ _ (lM A B) Ah (e7 h0) ⟨by simp,h7 h0⟩ ⟨F.row.le fun _ _ g=>RC.le g fun b o h=>l7 b o h,b8,cl⟩).mono ?_;rintro r V8 l8 ⟨rfl,a4,cs,e8,WS,hp,N⟩;refine ⟨rfl,h0,a4,fun e=>?_,e8,a4,by and_intros<;>rfl,cs,WS.le (Jg _),hp,N⟩;have v:=WS.row.fT (by decide);rw [e,hp.length_eq,List.length_nil] at v;omega
 rintro YA V9 l9 ⟨cs,a5,hp,N⟩;have zl:=a5.len;have a0:=fun c (h:c∈cs)=>Lk (hp.mem_iff.1 h);refine ⟨rfl,fun hZ b9 ab ob ea ha J ho c2=>?_⟩;rw [zJ (K [])];refine (yS (V:=hZ.ax [ab,ob]) (x:=jU A+fE 0 []) (y:=jU B+fE 1 []) (acc:=acc) ea ⟨by simp,ha⟩ (J (K _)) ⟨by simp,ho (K _)⟩ (c2 (K _)) hf).mono ?_;rintro r gN bL ⟨rfl,e1,e2⟩
 refine ⟨_,rfl,e1,K _,CG A B [],K _,e2,fun z V'=>∃(i:Nat)(last:Sp)(out:List Sp),z.2.2.2.2.1=(i:Int)/\i<=cs.length/\out.length<=i/\MU acc A B cs i z.2.2.2.1 last out/\z.2.2.2.2.2.1=CG A B (cs.take i)/\IR V' z.1 z.2.1 z.2.2.1 out /\
   RR V' (.agg #[.int .i64 z.2.2.2.2.2.2.1,.int .i64 z.2.2.2.2.2.2.2.1,.pointer z.2.2.2.2.2.2.2.2.1]) last.lo/\RR V' (.agg #[.int .i64 z.2.2.2.2.2.2.2.2.2.1,.int .i64 z.2.2.2.2.2.2.2.2.2.2.1,.pointer z.2.2.2.2.2.2.2.2.2.2.2.1]) last.hi/\last.a=z.2.2.2.2.2.2.2.2.2.2.2.2.1/\last.b=z.2.2.2.2.2.2.2.2.2.2.2.2.2,
  fun z=>cs.length-z.2.2.2.2.1.toNat,⟨(0,0,[],_,0,CG A B [],0,0,none,0,0,none,true,false),by and_intros<;>rfl,0,⟨0,0,true,false⟩,[],rfl,Nat.zero_le _,Nat.zero_le _,Ko (acc:=acc) (by show acc (decide ((0:Int)<jU A+0)) (decide ((0:Int)<jU B+0))=_;rw [Int.add_zero,Int.add_zero]) hp gA gB N,rfl,IR.nil,RR.zero _,RR.zero _,rfl,rfl⟩,?_⟩
 rintro ⟨O,X,us,was,iz,ov,x1,x2,p,y1,y2,q,la,lb⟩ jg cY ⟨i,last,out,e5,Zp,oi,hI,Wl,d,U,Z,f1,f2⟩;dsimp only at e5 hI Wl d U Z f1 f2;subst e5 Wl f1 f2;dsimp only;have ml:=d.len;refine ⟨rfl,fun hi=>?_,fun hi=>?_⟩
 ·have hi:(i:Int)<P:=of_decide_eq_true hi;have H:i<cs.length:=by omega
  have RB:SR jg P YA cs:=a5.le fun b o h=>cY b o (bL b o (b9 b o h));have gd:∀j (h:j<cs.length),cs.getD j dC=cs[j]:=fun j h=>by rw [List.getD_eq_getElem?_getD,List.getElem?_eq_getElem h];rfl
  obtain ⟨x,y,pp,a,b,g,x',y',p',ev,hr,a6⟩:=RB.get H;rw [gd i H] at ev hr a6;rw [Nat.zero_add] at g;have ev:=congrArg Array.toList (Value.agg.inj ev);simp only [List.cons.injEq,Value.int.injEq,Value.pointer.injEq,true_and,and_true] at ev;obtain ⟨rfl,rfl,rfl,rfl,rfl⟩:=ev;obtain ⟨ck,cd⟩:=a0 _ (List.getElem_mem H);have T:i64.wrap ((i:Int)+1)=((i+1:Nat):Int):=by rw [aw (by omega)];rfl
  have tk:cs.take (i+1)=cs.take i++[cs[i]]:=by rw [List.take_add_one,List.getElem?_eq_getElem H];rfl
  have a7:(CG A B (cs.take i)).set (0+cs[i].2.1.toNat*1) (.int .i64 (i64.wrap (OS A B (cs.take i) cs[i].2.1+cs[i].2.2)))=CG A B (cs.take (i+1)):=by
   have b1:=AB (a:=A);have b2:=AB (a:=B);have b3:=AX (k:=0) (l:=cs.take i) fun c F=>(a0 c (List.mem_of_mem_take F)).2;have b4:=AX (k:=1) (l:=cs.take i) fun c F=>(a0 c (List.mem_of_mem_take F)).2;rw [List.length_take] at b3 b4;have b5:-3000<=OS A B (cs.take i) cs[i].2.1/\OS A B (cs.take i) cs[i].2.1<=3000:=by unfold OS;split<;>omega
   rw [aw (by omega),L8 ck,tk]
  rw [T,Int.toNat_natCast,Int.toNat_natCast];refine ⟨⟨by omega,by omega⟩,by omega,x,y,pp,_,_,g,⟨by omega,by omega⟩,_,L7 ck,⟨by omega,by omega⟩,by rw [show (CG A B (cs.take i)).length=2 from rfl];omega,?_⟩;rw [a7];refine ⟨fun t V'=>(t=true->∃h:i+1<cs.length,cs[i].1=cs[i+1].1)/\(t=false->∀h:i+1<cs.length,cs[i].1<cs[i+1].1),⟨fun v=>?_,fun v=>?_⟩,?_⟩
  ·have v:((i+1:Nat):Int)<P:=of_decide_eq_true v;have Sy:i+1<cs.length:=by omega
   obtain ⟨u,w,pw,a',b',g',x',y',p',S,a8,Y⟩:=RB.get Sy;rw [gd _ Sy] at a8 Y;rw [Nat.zero_add] at g';have S:=congrArg Array.toList (Value.agg.inj S);simp only [List.cons.injEq,Value.int.injEq,Value.pointer.injEq,true_and] at S;obtain ⟨rfl,rfl,rfl,-⟩:=S;refine ⟨⟨by omega,by omega⟩,by omega,u,w,pw,⟨by omega,?_⟩,fun ph cN=>(ir (a8.le cN) (hr.le cN) Y a6 (by decide)).mono ?_⟩
   ·have:∀l:List Value,l.take 3=(l.take 5).take 3:=fun l=>by rw [List.take_take];rfl
    rw [this,Nat.add_zero,g'.2];rfl
   ·rintro r lC fo rfl;refine ⟨_,rfl,_,by and_intros<;>rfl,fun h=>⟨Sy,Eq.symm (of_decide_eq_true h)⟩,fun h _=>?_⟩;have h:=of_decide_eq_false h;have:=List.pairwise_iff_getElem.1 N i (i+1) H Sy (by omega);grind
  ·have v:¬((i+1:Nat):Int)<P:=of_decide_eq_false v;exact ⟨false,by and_intros<;>rfl,(fun h=>nomatch h),fun _ h=>absurd h (by omega)⟩
  rintro t lD dY ⟨ht,c3⟩;refine ⟨rfl,fun e=>?_,fun e nG eU Ym ZE ea ha J ho a9=>?_⟩
  ·obtain ⟨v,R⟩:=ht e;exact ⟨(O,X,us,was,((i+1:Nat):Int),CG A B (cs.take (i+1)),x1,x2,p,y1,y2,q,last.a,last.b),by dsimp only;omega,by and_intros<;>rfl,i+1,last,out,rfl,by omega,by omega,Mx hI v R,rfl,d.mono dY,U.le dY,Z.le dY,rfl,rfl⟩
  rw [zJ (K _)];refine (yS (V:=nG.ax [Ym,ZE]) (x:=jU A+fE 0 (cs.take (i+1))) (y:=jU B+fE 1 (cs.take (i+1))) (acc:=acc) ea ⟨by simp,ha⟩ (J (K _)) ⟨by simp,ho (K _)⟩ (a9 (K _)) hf).mono ?_;rintro r qH ew ⟨rfl,YB,c4⟩;have st:=My hI H (c3 e) hp gA gB N rfl;generalize acc (decide ((0:Int)<jU A+fE 0 (cs.take (i+1)))) (decide ((0:Int)<jU B+fE 1 (cs.take (i+1))))=now at st ⊢;have L:jg.Le qH.shut:=fun b o h=>ew b o (eU b o (dY b o h))
  have same:now=was->IR qH.shut O X us (wg was now last cs[i].1 out)/\RR qH.shut (.agg #[.int .i64 x1,.int .i64 x2,.pointer p]) (iX was now last cs[i].1).lo/\RR qH.shut (.agg #[.int .i64 y1,.int .i64 y2,.pointer q]) (iX was now last cs[i].1).hi /\
    last.a=(iX was now last cs[i].1).a/\last.b=(iX was now last cs[i].1).b:=fun h=>by
   subst h;unfold wg iX;cases now<;>exact ⟨d.mono L,U.le L,Z.le L,rfl,rfl⟩
  refine ⟨_,rfl,YB,K _,CG A B (cs.take (i+1)),K _,c4,fun z V'=>IR V' z.1 z.2.1 z.2.2.1 (wg was now last cs[i].1 out)/\RR V' (.agg #[.int .i64 z.2.2.2.1,.int .i64 z.2.2.2.2.1,.pointer z.2.2.2.2.2.1]) (iX was now last cs[i].1).lo /\
   RR V' (.agg #[.int .i64 z.2.2.2.2.2.2.1,.int .i64 z.2.2.2.2.2.2.2.1,.pointer z.2.2.2.2.2.2.2.2.1]) (iX was now last cs[i].1).hi/\z.2.2.2.2.2.2.2.2.2.1=(iX was now last cs[i].1).a/\z.2.2.2.2.2.2.2.2.2.2=(iX was now last cs[i].1).b,
   ⟨fun hn=>⟨fun hw=>?_,fun hw=>⟨fun a1=>⟨fun I=>?_,fun _=>?_⟩,fun a1=>?_⟩⟩,fun hn=>⟨fun hw=>⟨fun I=>?_,fun I=>?_⟩,fun hw=>?_⟩⟩,?_⟩
  ·have hw:was=false:=by simpa using hw
   subst hn hw;exact ⟨(O,X,us,x,y,pp,0,0,none,false,false),by and_intros<;>rfl,d.mono L,hr.le L,RR.zero _,rfl,rfl⟩
  ·rw [hn] at I;cases I
  ·exact ⟨(O,X,us,x1,x2,p,y1,y2,q,last.a,last.b),by and_intros<;>rfl,same (hn.trans a1.symm)⟩
  ·rw [a1] at hw;cases hw
  ·subst hn hw;exact ⟨by omega,d.le,d.cap,rfl,Q_,fun sp c' v R=>⟨(O+1,c',_,x1,x2,p,x,y,pp,last.a,last.b),by and_intros<;>rfl,(d.mono L).snoc (s:=⟨last.lo,cs[i].1,last.a,last.b⟩) (U.le L) (hr.le L) v R,U.le L,hr.le L,rfl,rfl⟩⟩
  ·rw [hn] at I;cases I
  ·exact ⟨(O,X,us,x1,x2,p,y1,y2,q,last.a,last.b),by and_intros<;>rfl,same (hn.trans hw.symm)⟩
  ·rintro ⟨k1,k2,ks,u1,u2,pu,t1,t2,pt,ua,ub⟩ wY fL ⟨Qk,b0,b6,g1,g2⟩;dsimp only at Qk b0 b6 g1 g2;subst g1 g2;dsimp only
   have ol:(wg was now last cs[i].1 out).length<=i+1:=by
    unfold wg;split
    ·rw [List.length_append];simp;omega
    ·omega
   exact ⟨rfl,(k1,k2,ks,now,((i+1:Nat):Int),CG A B (cs.take (i+1)),u1,u2,pu,t1,t2,pt,_,_),by dsimp only;omega,by and_intros<;>rfl,i+1,_,_,rfl,by omega,ol,st,rfl,Qk,b0,b6,rfl,rfl⟩
 ·have hi:¬(i:Int)<P:=of_decide_eq_false hi;obtain rfl:i=cs.length:=by omega
  have fin:=Mw hI hacc;refine ⟨fun z V'=>IR V' z.1 z.2.1 z.2.2 (combL op A B),⟨fun hw=>?_,fun hw=>?_⟩,?_⟩
  ·subst hw;refine ⟨by omega,d.le,d.cap,rfl,Q_,fun sp c' v R=>⟨(O+1,c',_),by and_intros<;>rfl,?_⟩⟩;rw [←fin];have:=hI.fr rfl;rw [this.1] at Z;exact d.snoc (s:=ke last) U Z v R
  ·subst hw;refine ⟨(O,X,us),by and_intros<;>rfl,?_⟩;rw [←fin];simpa [wh] using d
  ·rintro ⟨k1,k2,ks⟩ zO gT h;dsimp only at h;obtain rfl:=h.len;exact ⟨rfl,fun Bl lS bk E=>⟨_,_,_,rfl,jW.mX E (h.row.le fun _ _ g=>lU.le g lS) (by decide) h.le⟩⟩
theorem Ti (a b:Bool)(W:View):ae prog 177 #[.bool a,.bool b] W fun r _=>r=.bool ((fun x _=>x:Bool->Bool->Bool) a b):=
 xT a b W _ fun V l=>rfl
theorem D6 {V:View}{p:OA}{n c:Nat}{A:List Sp}(hA:jW 8 lU V p n A)(hg:∀s∈A,s.good)(hs:∀s∈A,s.sz 1000000)(hn:A.length<=1000)(hf:fe A<50)(so:uk (fe A)) :
  ae prog 127 #[.slice p n c] V fun r V'=>∃q m e,r=.slice q m e/\jW 8 lU V' q m (combL 1 A []):=by
 refine Dl p n c V _ fun d a=>(Ix (op:=1) (acc:=fun x _=>x) (fun t=>by simp [opB,inB]) (hA.le a fun _ _ g=>lU.le g a) (jW.nil (p:=none)) hg (fun s h=>by cases h) hs (fun s h=>by cases h) hn (by decide) (by have:fe []=0:=rfl;omega) so Ti).mono ?_;rintro r V2 f ⟨q,m,e,rfl,g⟩;exact ⟨_,_,_,rfl,fun i b=>⟨_,_,_,rfl,g.le b fun _ _ g=>lU.le g b⟩⟩
theorem inB_cons (x:Sp)(l:List Sp)(t:Rat):inB (x::l) t=(x.innB t||inB l t):=by unfold inB;rw [List.any_cons]
theorem inB_nil (t:Rat):inB [] t=false:=rfl
theorem chop_in:∀{cuts:List Rat} {s:Sp},asc cuts->(∀c∈cuts,s.inn c)->∀t,t∉cuts->inB (chop s cuts) t=s.innB t
 | [],s,_,_,t,_=>by unfold chop;rw [inB_cons,inB_nil,Bool.or_false]
 | c::r,s,h1,h2,t,ht=>by
  obtain ⟨g1,g2⟩:=List.pairwise_cons.1 h1;have f:=h2 c (List.mem_cons_self ..);have g:t≠c:=fun e=>ht (by rw [e];exact List.mem_cons_self ..);unfold chop;rw [inB_cons,chop_in (s:=⟨c,s.hi,false,s.b⟩) g2 (fun d a=>⟨.inr (g1 d a),(h2 d (List.mem_cons_of_mem _ a)).2⟩) t (fun h=>ht (List.mem_cons_of_mem _ h))];obtain ⟨i,j⟩:=f;rw [Bool.eq_iff_iff,Bool.or_eq_true,innB_iff,innB_iff,innB_iff];unfold Sp.inn;dsimp only;constructor
  ·rintro (⟨u,v⟩|⟨u,v⟩)
   ·exact ⟨u,j.imp id fun k=>by have:=v.resolve_left (by decide);grind⟩
   ·exact ⟨i.imp id fun k=>by have:=u.resolve_left (by decide);grind,v⟩
  ·rintro ⟨u,v⟩;by_cases h:t<c
   ·exact .inl ⟨u,.inr h⟩
   ·exact .inr ⟨.inr (by grind),v⟩
theorem chop_join {cuts:List Rat}{s:Sp}(hs:s.good)(h1:asc cuts)(h2:∀c∈cuts,s.inn c):combL 1 (chop s cuts) []=[s]:=by
 refine reg_eq (cuts++endsL (chop s cuts++[])) (comb_reg ..) (reg_one hs) fun t a=>?_;rw [List.mem_append,not_or] at a;rw [comb_inB 1 _ _ a.2,chop_in h1 h2 t a.1,inB_cons,inB_nil,Bool.or_false];unfold opB;simp [inB_nil]
theorem half_both {l m:L3}(h:¬(halfU l m=[]/\halfU l (revL m)=[])):∃E:List Rat,∀t,t∉E->(inB (halfU l m) t||inB (halfU l (revL m)) t)=true:=by
 have sm:sideL m (-1)=revL m:=rfl;have c:crossL l (revL m)=0↔crossL l m=0:=sm▸side_cross m l (-1);by_cases b:crossL l m=0
 ·refine ⟨[],fun t _=>?_⟩;have a:crossL l (revL m)=0:=c.2 b;unfold halfU at h ⊢;rw [if_pos b,if_pos a] at h ⊢;have f:inB [fullSp] t=true:=by rw [inB_cons,innB_iff.2 (full_inn t)];rfl
  split
  ·rw [f];rfl
  ·rename_i k;rw [if_neg k] at h;split
   ·rw [f,Bool.or_true]
   ·rename_i i;rw [if_neg i] at h;exact absurd ⟨rfl,rfl⟩ h
 ·refine ⟨[cutP m l],fun t d=>?_⟩;have a:¬crossL l (revL m)=0:=fun e=>b (c.1 e);have j:dotL m l≠0:=fun e=>b (by rw [cross_dot,e];grind);have d:t≠cutP m l:=fun e=>d (by rw [e];exact List.mem_singleton.2 rfl);unfold halfU;rw [if_neg b,if_neg a,dot_rev,cutP_rev j];have i1:inB [(⟨cutP m l,0,false,true⟩:Sp)] t=decide (cutP m l<t):=by rw [inB_cons,inB_nil];unfold Sp.innB;simp
  have i2:inB [(⟨0,cutP m l,true,false⟩:Sp)] t=decide (t<cutP m l):=by rw [inB_cons,inB_nil];unfold Sp.innB;simp
  by_cases g:0<dotL m l
  ·rw [if_pos g,if_neg (by grind),i1,i2];grind
  ·rw [if_neg g,if_pos (by grind),i1,i2];grind
theorem split_join {l m:L3}{s:Sp}(hs:s.good)(h:¬(combL 2 [s] (halfU l m)=[]/\combL 2 [s] (halfU l (revL m))=[])):combL 1 (combL 2 [s] (halfU l m)++combL 2 [s] (halfU l (revL m))) []=[s]:=by
 obtain ⟨E,f⟩:=half_both (l:=l) (m:=m) fun ⟨c,d⟩=>h ⟨by rw [c,comb_nil],by rw [d,comb_nil]⟩;refine reg_eq (E++endsL (combL 2 [s] (halfU l m)++combL 2 [s] (halfU l (revL m))++[])++endsL ([s]++halfU l m)++endsL ([s]++halfU l (revL m))) (comb_reg ..) (reg_one hs) fun t e=>?_;simp only [List.mem_append,not_or] at e;obtain ⟨⟨⟨c,d⟩,g⟩,i⟩:=e;rw [comb_inB 1 _ _ d];have j:∀(a b:List Sp),inB (a++b) t=(inB a t||inB b t):=fun a b=>by unfold inB;rw [List.any_append]
 rw [j,comb_inB 2 _ _ g,comb_inB 2 _ _ i,inB_nil];have:=f t c;unfold opB;revert this;cases inB [s] t<;>cases inB (halfU l m) t<;>cases inB (halfU l (revL m)) t<;>simp
def iO (l:List L3):List L3:=l.foldl (fun o x=>xD x o) []
theorem cR (l:List L3):(iO l).Pairwise tm/\∀x,x∈iO l↔x∈l:=by
 have:∀(l o:List L3),o.Pairwise tm->(l.foldl (fun o x=>xD x o) o).Pairwise tm/\∀x,x∈l.foldl (fun o x=>xD x o) o↔x∈o\/x∈l:=by
  intro l
  induction l with
  | nil=>intro o h;exact ⟨h,fun x=>by simp⟩
  | cons y r ih=>
   intro o h;obtain ⟨a,b⟩:=ih (xD y o) (Ck h);refine ⟨a,fun x=>?_⟩;rw [List.foldl_cons,b x,vj,List.mem_cons];constructor
   ·rintro ((h|h)|h)<;>simp [h]
   ·rintro (h|h|h)<;>simp [h]
 obtain ⟨a,b⟩:=this l [] List.Pairwise.nil;exact ⟨a,fun x=>by rw [iO,b x];simp⟩
theorem Hk {l m:List L3}(h:∀x,x∈l↔x∈m):iO l=iO m:=
 DU (cR l).1 (cR m).1 fun x=>by rw [(cR l).2 x,(cR m).2 x];exact h x
def jz (m:L3)(l:List (L3×Sp)):List Sp:=(l.filter fun x=>decide (x.1=m)).map Prod.snd
def joinF (l:List (L3×Sp)):List (L3×Sp):=(iO (l.map Prod.fst)).flatMap fun m=>(combL 1 (jz m l) []).map fun s=>(m,s)
theorem G2 {A B:List Sp}(h:A.Perm B):combL 1 A []=combL 1 B []:=by
 refine reg_eq (endsL (A++[])++endsL (B++[])) (comb_reg ..) (comb_reg ..) fun t a=>?_;rw [List.mem_append,not_or] at a;rw [comb_inB 1 _ _ a.1,comb_inB 1 _ _ a.2]
 have:inB A t=inB B t:=by
  unfold inB;rw [Bool.eq_iff_iff,List.any_eq_true,List.any_eq_true];exact ⟨fun ⟨x,b,c⟩=>⟨x,h.mem_iff.1 b,c⟩,fun ⟨x,b,c⟩=>⟨x,h.mem_iff.2 b,c⟩⟩
 rw [this]
theorem EE {l m:List (L3×Sp)}(h:l.Perm m):joinF l=joinF m:=by
 unfold joinF;rw [Hk (l:=l.map Prod.fst) (m:=m.map Prod.fst) fun x=>(h.map _).mem_iff];refine congrArg (fun f=>(iO (m.map Prod.fst)).flatMap f) (funext fun k=>?_);rw [G2 (A:=jz k l) (B:=jz k m) ((h.filter _).map _)]
theorem joinF_nil:joinF []=[]:=rfl
theorem joinF_snoc {P Q:List (L3×Sp)}{m:L3}(hP:∀x∈P,tm x.1 m)(hQ:∀x∈Q,x.1=m)(hne:Q≠[]) :
  joinF (P++Q)=joinF P++(combL 1 (Q.map Prod.snd) []).map fun s=>(m,s):=by
 have i:iO ((P++Q).map Prod.fst)=iO (P.map Prod.fst)++[m]:=by
  obtain ⟨j,k⟩:=cR ((P++Q).map Prod.fst);obtain ⟨n,g⟩:=cR (P.map Prod.fst);refine DU j (List.pairwise_append.2 ⟨n,List.pairwise_singleton _ _,fun x c y d=>?_⟩) fun x=>?_
  ·rw [List.mem_singleton.1 d];obtain ⟨z,b,rfl⟩:=List.mem_map.1 ((g x).1 c);exact hP z b
  ·rw [k x,List.map_append,List.mem_append,List.mem_append,g x,List.mem_singleton];refine or_congr_right ⟨fun h=>?_,fun h=>?_⟩
   ·obtain ⟨z,b,rfl⟩:=List.mem_map.1 h;exact hQ z b
   ·obtain ⟨z,b⟩:=List.exists_mem_of_ne_nil Q hne;exact List.mem_map.2 ⟨z,b,(hQ z b).trans h.symm⟩
 have c:∀x∈iO (P.map Prod.fst),jz x (P++Q)=jz x P:=fun x c=>by
  obtain ⟨z,b,rfl⟩:=List.mem_map.1 (((cR _).2 x).1 c);have f:=hP z b;unfold jz;rw [List.filter_append,(List.filter_eq_nil_iff (l:=Q)).2 fun y d=>?_,List.append_nil];intro e;have e:y.1=z.1:=of_decide_eq_true e;rw [←e,hQ y d] at f;exact FZ f
 have hm:jz m (P++Q)=Q.map Prod.snd:=by
  unfold jz;rw [List.filter_append,(List.filter_eq_nil_iff (l:=P)).2 fun y d=>?_,List.nil_append,(List.filter_eq_self (l:=Q)).2 fun y d=>decide_eq_true (hQ y d)];intro e;have e:y.1=m:=of_decide_eq_true e;exact FZ (e▸hP y d)
 unfold joinF;rw [i,List.flatMap_append,List.flatMap_singleton,hm];congr 1;generalize iO (P.map Prod.fst)=L at c
 induction L with
 | nil=>rfl
 | cons a r ih=>rw [List.flatMap_cons,List.flatMap_cons,c a (List.mem_cons_self ..),ih fun x h=>c x (List.mem_cons_of_mem _ h)]
theorem Gc {α:Type}{sz:Nat}{R R':View->Value->α->Prop}{V V':View}{vs:List Value}{l:List α}(h:Row sz R V vs l)(m:∀v a,a∈l->R V v a->R' V' v a):Row sz R' V' vs l:=
 ⟨fun i b=>by obtain ⟨xs,c,d,e⟩:=h.at_ i b;exact ⟨xs,c,m _ _ (List.getElem_mem b) d,e⟩⟩
theorem E6 {V:View}{ws:List Value}{m:List (L3×Sp)}(h:Row 17 nt V ws m){i:Nat}(hi:i<m.length) :
  ∃(x1 x2:Int)(p:OA)(y1 y2:Int)(q:OA)(z1 z2:Int)(r:OA)(u1 u2:Int)(t:OA)(w1 w2:Int)(o:OA),((i*17+0)+9<=ws.length/\(ws.drop (i*17+0)).take 9=[.int .i64 x1,.int .i64 x2,.pointer p,.int .i64 y1,.int .i64 y2,.pointer q,.int .i64 z1,.int .i64 z2,.pointer r]) /\
   ((i*17+9)+8<=ws.length/\(ws.drop (i*17+9)).take 8=[.int .i64 u1,.int .i64 u2,.pointer t,.int .i64 w1,.int .i64 w2,.pointer o,.bool m[i].2.a,.bool m[i].2.b]) /\
   pg V (.agg #[.int .i64 x1,.int .i64 x2,.pointer p,.int .i64 y1,.int .i64 y2,.pointer q,.int .i64 z1,.int .i64 z2,.pointer r]) m[i].1/\lU V (.agg #[.int .i64 u1,.int .i64 u2,.pointer t,.int .i64 w1,.int .i64 w2,.pointer o,.bool m[i].2.a,.bool m[i].2.b]) m[i].2:=by
 obtain ⟨xs,-,c,k,f⟩:=h.get (d:=yU) hi (by decide);have e:m.getD i yU=m[i]:=by rw [List.getD_eq_getElem?_getD,List.getElem?_eq_getElem hi];rfl
 rw [e] at c;obtain ⟨_,_,_,_,_,_,_,_,_,_,_,_,_,_,_,ex,g,j⟩:=c;have ex:=congrArg Array.toList (Value.agg.inj ex);dsimp only at ex;subst ex;refine ⟨_,_,_,_,_,_,_,_,_,_,_,_,_,_,_,⟨by omega,?_⟩,⟨by omega,?_⟩,g,j⟩
 ·have:=congrArg (List.take 9) f;rw [List.take_take] at this;exact this
 ·have:=congrArg (List.drop 9) f;rw [List.drop_take,List.drop_drop] at this;exact this
theorem Ml {V:View}{xs:List Value}{x:Sp}(h:lU V (.agg xs.toArray) x):∀v∈xs,v.oneCell'=true:=by
 obtain ⟨_,_,_,_,_,_,ex,-,-⟩:=h;have ex:=congrArg Array.toList (Value.agg.inj ex);dsimp only at ex;subst ex;intro v a;simp only [List.mem_cons,List.not_mem_nil,or_false] at a;rcases a with rfl|rfl|rfl|rfl|rfl|rfl|rfl|rfl<;>rfl
theorem QQ {a b c:L3}(h:tm a b)(h':¬sW c b<0):tm a c:=by
 by_cases e:b=c
 ·rw [←e];exact h
 ·exact Ns h (Jj h' fun k=>e k.symm)
set_option maxHeartbeats 2000000 in
theorem GN {V:View}{p:OA}{n c:Nat}{fs:List (L3×Sp)}(h:jW 17 nt V p n fs)(h0:fs=[]->p=none)(lP:fs.length<20)(hb:∀f∈fs,eh 10000 f.1)(hg:∀f∈fs,f.2.good)(hs:∀f∈fs,f.2.sz 1000000)(so:∀i,i<=2*fs.length->uk i) :
  ae prog 66 #[.slice p n c] V fun r V'=>∃q m e,r=.slice q m e/\jW 17 nt V' q m (joinF fs):=by
 obtain rfl:=h.len;refine wv p _ c V _ fun V1 l1=>(Ir (h.le l1 fun _ _ g=>lT.le g l1) (by omega) h0).mono ?_;rintro r V2-⟨Y,vs,a1,a2,e,rfl,hle,Z,vf,row,lW⟩;refine ⟨Y,vs,a1,fun h=>.inl (a2 h),none,fs.length,e,rfl,?_⟩;have A:Row 17 nt (V2.shut.cA (vs≠[]) Y) vs fs:=row.le fun _ _ g=>lT.le g fun b o h=>h;clear a1 a2 row lW;generalize V2.shut.cA (vs≠[]) Y=W at A ⊢;refine ⟨fun ws V'=>∃m:List (L3×Sp),m.Perm fs/\(m.Pairwise fun x y=>¬sW y.1 x.1<0)/\Row 17 nt V' ws m,⟨fun D=>?_,fun D V5 l5 T e1 e2=>?_⟩,?_⟩
 ·have a0:fs=[]:=Classical.byContradiction fun h=>vf.2 h D;subst a0;obtain rfl:=Z.1 D;refine ⟨rfl,fun V3 l3=>pC.mono ?_⟩;rintro r V4 l4 rfl;exact ⟨rfl,vs,by and_intros<;>rfl,[],.refl _,List.Pairwise.nil,Row.nil⟩
 ·have a3:e≠0:=fun h=>D (Z.2 h);have Nc:∀b,mA b e=some ⟨b,0,none⟩:=fun b=>by unfold mA;rw [if_neg a3]
  rw [Nc];refine (xj (V:=V5.ax [vb vs V5.w.heap.size T]) (lb:=T) (vs:=vs) (l:=fs) (e1 D) ⟨by simp [zJ D],e2 D⟩ ⟨Gc A fun v a ha g=>⟨lT.le g fun b o h=>l5 b o h,hb a ha⟩,rfl,by omega⟩ lP).mono ?_;rintro r V6 l6 ⟨rfl,ws,m,e3,sr,pm,pw⟩;have Ho:=pm.length_eq
  have hw:ws≠[]:=fun e=>by
   have:=sr.row.fT (by decide);rw [e,Ho] at this;exact vf.1 D (List.length_eq_zero_iff.1 (by rw [List.length_nil] at this;omega))
  exact ⟨rfl,D,ws,hw,e3,ws,by and_intros<;>rfl,m,pm,pw,Gc sr.row fun v a _ g=>lT.le g.1 fun b o h=>h⟩
 rintro ws V7 l7 ⟨m,pm,pw,P⟩;have Ho:=pm.length_eq;rw [EE pm.symm]
 replace hb:∀f∈m,eh 10000 f.1:=fun f G=>hb f (pm.mem_iff.1 G)
 replace hg:∀f∈m,f.2.good:=fun f G=>hg f (pm.mem_iff.1 G)
 replace hs:∀f∈m,f.2.sz 1000000:=fun f G=>hs f (pm.mem_iff.1 G)
 rw [←Ho] at lP hle so ⊢;clear h0 h pm A Z vf;have Q:∀i j (u:i<m.length) (H:j<m.length),i<j->¬sW m[j].1 m[i].1<0:=fun i j u H=>List.pairwise_iff_getElem.1 pw i j u H;refine ⟨rfl,fun z V'=>∃j:Nat,z.2.2.2=(j:Int)/\j<=m.length/\GR 17 nt V' z.1 z.2.1 z.2.2.1 (joinF (m.take j))/\(joinF (m.take j)).length<=50*j/\∀x∈m.take j,∀y∈m.drop j,tm x.1 y.1,fun z=>m.length-z.2.2.2.toNat,⟨(0,0,[],0),by and_intros<;>rfl,0,rfl,Nat.zero_le _,GR.nil,Nat.zero_le _,fun x d=>by simp at d⟩,?_⟩;rintro ⟨n1,c1,os,i1⟩ V8 l8 ⟨j,ej,Pu,I,ol,sep⟩;dsimp only at ej I;subst ej;refine ⟨rfl,fun B=>?_,fun B nG eU T K=>?_⟩;rotate_left
 ·have B:¬(j:Int)<(m.length:Nat):=of_decide_eq_false B;obtain rfl:j=m.length:=by omega
  rw [List.take_length] at I;have:=jW.mX K (I.row.le fun _ _ g=>lT.le g eU) (by decide) (by rw [←I.len];exact I.le);rw [←I.len] at this;exact ⟨_,_,_,rfl,this⟩
 have B:(j:Int)<(m.length:Nat):=of_decide_eq_true B;have H:j<m.length:=by omega
 dsimp only;have Zv:V7.Le V8:=l8;refine ⟨fun z V'=>∃k:Nat,z.2.2.2=(k:Int)/\j<=k/\k<=m.length/\GR 8 lU V' z.1 z.2.1 z.2.2.1 (((m.take k).drop j).map Prod.snd)/\∀x∈(m.take k).drop j,x.1=m[j].1,fun z=>m.length-z.2.2.2.toNat,⟨(0,0,[],(j:Int)),by and_intros<;>rfl,j,rfl,Nat.le_refl _,by omega,?_,?_⟩,?_⟩
 ·rw [List.drop_eq_nil_of_le (by rw [List.length_take];omega)];exact GR.nil
 ·rw [List.drop_eq_nil_of_le (by rw [List.length_take];omega)];intro x d;cases d
 rintro ⟨n2,c2,us,i2⟩ V9 l9 ⟨k,ek,jk,WY,E,same⟩;dsimp only at ek E;subst ek;have TR:Row 17 nt V9 ws m:=P.le fun _ _ g=>lT.le g (Zv.trans l9);obtain ⟨b1,b2,b3,b4,b5,b6,b7,b8,b9,-,-,-,-,-,-,jl,-,jr,-⟩:=E6 TR H;have a4:=hb _ (List.getElem_mem H);refine ⟨rfl,fun b V'=>V9.Le V'/\b=decide (∃h:k<m.length,m[k].1=m[j].1),⟨fun t=>?_,fun t=>?_⟩,?_⟩
 ·have t:(k:Int)<(m.length:Nat):=of_decide_eq_true t;have t:k<m.length:=by omega
  dsimp only;rw [Int.toNat_natCast,Int.toNat_natCast];obtain ⟨d1,d2,d3,d4,d5,d6,d7,d8,d9,-,-,-,-,-,-,kl,-,U,-⟩:=E6 TR t;refine ⟨⟨by omega,by omega⟩,hle,d1,d2,d3,d4,d5,d6,d7,d8,d9,kl,⟨by omega,by omega⟩,hle,b1,b2,b3,b4,b5,b6,b7,b8,b9,jl,fun hZ L=>(LP (pg.le U L) (pg.le jr L) (hb _ (List.getElem_mem t)) a4 (by omega)).mono ?_⟩;rintro r gN bL rfl;exact ⟨_,rfl,_,by and_intros<;>rfl,L.trans bL,decide_eq_decide.2 ⟨fun h=>⟨t,h⟩,fun ⟨_,h⟩=>h⟩⟩
 ·have t:¬(k:Int)<(m.length:Nat):=of_decide_eq_false t;exact ⟨false,by and_intros<;>rfl,View.Le.refl _,(decide_eq_false fun ⟨h,_⟩=>by omega).symm⟩
 rintro b jg cY ⟨R,rfl⟩;refine ⟨rfl,fun t=>?_,fun t ph cN T K=>?_⟩
 ·obtain ⟨t,YD⟩:=of_decide_eq_true t;have w:i64.wrap ((k:Int)+1)=((k+1:Nat):Int):=by rw [aw (by omega)];rfl
  dsimp only;rw [Int.toNat_natCast,w];obtain ⟨-,-,-,-,-,-,-,-,-,d1,d2,d3,d4,d5,d6,-,kl,-,U⟩:=E6 (TR.le fun _ _ g=>lT.le g R) t
  have tk:(m.take (k+1)).drop j=(m.take k).drop j++[m[k]]:=by
   rw [←List.take_append_getElem t,List.drop_append_of_le_length (by rw [List.length_take];omega)]
  have sl:=E.len;rw [List.length_map,List.length_drop,List.length_take] at sl;refine ⟨⟨by omega,by omega⟩,hle,d1,d2,d3,d4,d5,d6,_,_,kl,by omega,E.le,E.cap,rfl,Ml (V:=jg) (x:=m[k].2) U,fun sp c' k1 k2=>⟨(n2+1,c',_,((k+1:Nat):Int)),by dsimp only;omega,by and_intros<;>rfl,k+1,rfl,by omega,t,?_,?_⟩⟩
  ·rw [tk,List.map_append];exact (E.mono fun _ _ g=>lU.le g R).snoc rfl U (by decide) k1 k2
  ·rw [tk];intro x d;rcases List.mem_append.1 d with d|d
   ·exact same x d
   ·rw [List.mem_singleton.1 d];exact YD
 have t:¬∃h:k<m.length,m[k].1=m[j].1:=of_decide_eq_false t;have Zq:j<k:=Nat.lt_of_le_of_ne jk fun e=>by subst e;exact t ⟨H,rfl⟩
 have sub:∀x∈(m.take k).drop j,x∈m:=fun x d=>List.mem_of_mem_take (List.mem_of_mem_drop d);have hA:=jW.mX K (E.row.le fun _ _ g=>lU.le g (R.trans cN)) (by decide) (by rw [←E.len];exact E.le);rw [←E.len] at hA;have Al:(((m.take k).drop j).map Prod.snd).length<20:=by rw [List.length_map,List.length_drop,List.length_take];omega
 have G:=M7 (((m.take k).drop j).map Prod.snd);refine (D6 hA (fun s M=>by obtain ⟨x,d,rfl⟩:=List.mem_map.1 M;exact hg x (sub x d)) (fun s M=>by obtain ⟨x,d,rfl⟩:=List.mem_map.1 M;exact hs x (sub x d)) (by omega) (by omega) (so _ (by rw [List.length_map,List.length_drop,List.length_take] at G;omega))).mono ?_;rintro r lC fo ⟨q,n3,c3,rfl,hC⟩;refine ⟨_,_,_,rfl,fun J=>?_⟩;have QK:=l9.trans (R.trans (cN.trans fo))
 have sn:joinF (m.take k)=joinF (m.take j)++(combL 1 (((m.take k).drop j).map Prod.snd) []).map fun s=>(m[j].1,s):=by
  have e:m.take k=m.take j++(m.take k).drop j:=by
   conv=>lhs;rw [←List.take_append_drop j (m.take k),List.take_take,Nat.min_eq_left (by omega)]
  conv=>lhs;rw [e]
  refine joinF_snoc (fun x d=>sep x d _ (List.mem_iff_getElem.2 ⟨0,by rw [List.length_drop];omega,by rw [List.getElem_drop];rfl⟩)) same fun h=>?_;have:=congrArg List.length h;rw [List.length_drop,List.length_take] at this;simp at this;omega
 have cl:=IA 1 (((m.take k).drop j).map Prod.snd) [];have f0:fe []=0:=rfl;generalize combL 1 (((m.take k).drop j).map Prod.snd) []=C at hC sn cl;obtain rfl:=hC.len;refine ⟨fun z V'=>∃i:Nat,z.2.2.2=(i:Int)/\i<=C.length/\GR 17 nt V' z.1 z.2.1 z.2.2.1 (joinF (m.take j)++(C.take i).map fun s=>(m[j].1,s)),fun z=>C.length-z.2.2.2.toNat,⟨(n1,c1,os,0),by and_intros<;>rfl,0,rfl,Nat.zero_le _,?_⟩,?_⟩
 ·rw [List.take_zero,List.map_nil,List.append_nil];exact I.mono fun _ _ g=>lT.le g QK
 rintro ⟨n4,c4,ts,i4⟩ lD dY ⟨i,ei,Zp,N⟩;dsimp only at ei N;subst ei;refine ⟨rfl,fun u=>?_,fun u=>?_⟩
 ·have u:(i:Int)<(C.length:Nat):=of_decide_eq_true u;have u:i<C.length:=by omega
  have w:i64.wrap ((i:Int)+1)=((i+1:Nat):Int):=by rw [aw (by omega)];rfl
  dsimp only;rw [Int.toNat_natCast,Int.toNat_natCast,w];obtain ⟨ad,h0,xs,-,y2,F⟩:=(hC.le dY fun _ _ g=>lU.le g dY).at_ i u;obtain ⟨_,_,_,_,_,_,ex,g1,g2⟩:=y2;have ex:=congrArg Array.toList (Value.agg.inj ex);dsimp only at ex;subst ex;have he:lT lD (.agg #[.int .i64 b1,.int .i64 b2,.pointer b3,.int .i64 b4,.int .i64 b5,.pointer b6,.int .i64 b7,.int .i64 b8,.pointer b9,.int .i64 _,.int .i64 _,.pointer _,.int .i64 _,.int .i64 _,.pointer _,.bool C[i].a,.bool C[i].b]) m[j].1 C[i]:=⟨_,_,_,_,_,_,_,_,_,_,_,_,_,_,_,rfl,pg.le jr (R.trans (cN.trans (fo.trans dY))),_,_,_,_,_,_,rfl,g1,g2⟩;have tl:=N.len;rw [List.length_append,List.length_map,List.length_take] at tl;refine ⟨cB h0,⟨by omega,by omega⟩,_,_,_,_,_,_,_,_,ad,h0,F 0 _ rfl,F 1 _ rfl,F 2 _ rfl,F 3 _ rfl,F 4 _ rfl,F 5 _ rfl,F 6 _ rfl,F 7 _ rfl,⟨by omega,by omega⟩,hle,b1,b2,b3,b4,b5,b6,b7,b8,b9,jl,by omega,N.le,N.cap,rfl,mB (V:=lD) (x:=(_,_)) he,fun sp c' k1 k2=>⟨(n4+1,c',_,((i+1:Nat):Int)),by dsimp only;omega,by and_intros<;>rfl,i+1,rfl,u,?_⟩⟩;rw [←List.take_append_getElem u,List.map_append,←List.append_assoc];exact N.snoc (a:=(m[j].1,C[i])) rfl he (by decide) k1 k2
 ·have u:¬(i:Int)<(C.length:Nat):=of_decide_eq_false u;obtain rfl:i=C.length:=by omega
  rw [List.take_length] at N;refine ⟨(n4,c4,ts,(k:Int)),by dsimp only;omega,by and_intros<;>rfl,k,rfl,WY,by rw [sn];exact N,by rw [sn,List.length_append,List.length_map];omega,fun x d y hy=>?_⟩;obtain ⟨X,Y3,rfl⟩:=List.mem_iff_getElem.1 hy;rw [List.length_drop] at Y3;rw [List.getElem_drop];have O:k<m.length:=by omega
  have S:tm m[j].1 m[k].1:=Jj (Q j k H O Zq) fun e=>t ⟨O,e⟩
  have Y6:tm m[j].1 m[k+X].1:=by
   by_cases e:X=0
   ·subst e;exact S
   ·exact QQ S (Q k (k+X) O (by omega) (by omega))
  have e:m.take k=m.take j++(m.take k).drop j:=by
   conv=>lhs;rw [←List.take_append_drop j (m.take k),List.take_take,Nat.min_eq_left (by omega)]
  rw [e] at d;rcases List.mem_append.1 d with d|d
  ·exact sep x d _ (List.mem_iff_getElem.2 ⟨k+X-j,by rw [List.length_drop];omega,by rw [List.getElem_drop];congr 1;omega⟩)
  ·rw [same x d];exact Y6
theorem Gb {V:View}{p:OA}{n:Nat}{fs:List (L3×Sp)}(h:jW 17 nt V p n fs):kA V p n fs:=⟨h.len,fun i a=>by
 obtain ⟨b,c,xs,-,d,e⟩:=h.at_ i a;exact ⟨b,c,xs,d,e⟩⟩
theorem K0.le {V V':View}{v:Value}{c:Rat×Rat}(h:K0 V v c)(l:V.Le V'):K0 V' v c:=jS.le h l
theorem Mo {V:View}{xs:List Value}{x:Rat×Rat}(h:K0 V (.agg xs.toArray) x):∀v∈xs,v.oneCell'=true:=by
 obtain ⟨_,_,_,_,_,_,ex,-,-⟩:=h;have ex:=congrArg Array.toList (Value.agg.inj ex);dsimp only at ex;subst ex;intro v a;simp only [List.mem_cons,List.not_mem_nil,or_false] at a;rcases a with rfl|rfl|rfl|rfl|rfl|rfl<;>rfl
theorem Ai {k:Nat}:∀{l:List Rat} {s:Sp},s.sz k->(∀t∈l,Sz k t)->∀u∈chop s l,u.sz k
 | [],s,hs,_,u,hu=>by rw [List.mem_singleton.1 hu];exact hs
 | t::r,s,hs,ht,u,hu=>by
  have h0:=ht t (List.mem_cons_self ..);rcases List.mem_cons.1 hu with rfl|hu
  ·exact ⟨hs.1,h0⟩
  ·exact Ai (s:=⟨t,s.hi,false,s.b⟩) ⟨h0,hs.2⟩ (fun x a=>ht x (List.mem_cons_of_mem _ a)) u hu
theorem B0 {L:L3}{s:Sp}{ps:List (Rat×Rat)}{k:Nat}(sl:eh k L)(sp:∀q∈ps,Sz k q.1/\Sz k q.2):∀t∈ascL (cutsG L s ps),Sz (8*k+7) t:=fun t a=>by
 obtain ⟨q,b,rfl⟩:=List.mem_map.1 (((ascL_spec _).2 t).1 a);obtain ⟨s1,s2⟩:=sp q (List.mem_filter.1 b).1;exact qm sl s1 s2
theorem BA (l:List Rat):(ascL l).length<=l.length:=by
 have:∀(l o:List Rat),(l.foldl (fun o x=>dj x o) o).length<=o.length+l.length:=by
  intro l
  induction l with
  | nil=>exact fun o=>Nat.le_refl _
  | cons y r ih=>intro o;have a:=ih (dj y o);have b:=@pP y o;rw [List.foldl_cons,List.length_cons];omega
 have:=this l [];simpa [ascL] using this
theorem D4 {V:View}{v:Value}{p:OA}{n c:Nat}{l:L3}{s:Sp}{ps:List (Rat×Rat)}(h:xi V v l s)(hp:jW 6 pk V p n ps)(ho:HS l s){k:Nat}(sl:eh k l)(ss:s.sz k)(sp:∀q∈ps,Sz k q.1/\Sz k q.2)(hn:ps.length<=12)(hk:8*k+7<=1000000) :
  ae prog 19 #[v,.slice p n c] V fun r V'=>∃q m e,r=.tuple #[.slice q m e,.nilIface]/\oe V' q m ((chop s (ascL (cutsG l s ps))).map fun t=>(l,t)):=by
 obtain rfl:=hp.len;have I:=h;obtain ⟨_,_,_,_,_,_,_,_,_,_,_,_,_,_,_,_,_,_,_,_,_,_,_,_,_,_,rfl⟩:=dz h;refine tA _ _ _ _ _ _ _ _ _ _ _ _ _ _ _ _ _ _ _ _ _ _ _ _ _ _ _ _ p _ c V _ fun V1 y=>(j8 (I.le y) ho sl ss (by omega)).mono ?_;rintro r V2 K ⟨u,rfl,g⟩;have i:=g;obtain ⟨_,_,_,_,_,_,_,_,_,_,_,_,_,_,_,rfl⟩:=Gu.ex g;refine ⟨_,_,_,_,_,_,_,_,_,_,_,_,_,_,_,_,_,_,rfl,(fun h=>nomatch h),fun _=>⟨fun z V'=>∃j:Nat,z.2.2.2=(j:Int)/\j<=ps.length/\GR 6 K0 V' z.1 z.2.1 z.2.2.1 (ps.take j),fun z=>ps.length-z.2.2.2.toNat,⟨(0,0,[],0),by and_intros<;>rfl,0,rfl,Nat.zero_le _,GR.nil⟩,?_⟩⟩;have A:=y.trans K;rintro ⟨L,z2,vs,z4⟩ V4 x ⟨j,B,Pu,d⟩;dsimp only at B d;subst B;have M:=d.len;rw [List.length_take] at M;refine ⟨rfl,fun b=>?_,fun b V7 C bk N=>?_⟩
 ·have b:(j:Int)<ps.length:=of_decide_eq_true b;have o:j<ps.length:=by omega
  have w:i64.wrap ((j:Int)+1)=((j+1:Nat):Int):=by rw [aw (by omega)];rfl
  dsimp only;rw [Int.toNat_natCast,w];obtain ⟨is,b1,p1,n1,c1,p2,n2,c2,b2,p3,n3,c3,p4,n4,c4,a,O,P,Q,R,S,T,U,W⟩:=OJ pk.shape (hp.le (A.trans x) fun _ _ g=>pk.le g (A.trans x)) o;obtain ⟨s1,s2⟩:=sp _ (List.getElem_mem o);refine ⟨is,⟨by omega,by omega⟩,_,_,_,_,_,_,_,_,_,_,_,_,_,_,a,O,P,Q,R,S,T,U,fun V5 D=>(fP (zM.le W D) s1 s2 (by omega)).mono ?_⟩;rintro r E X F;have i:K0 E r ps[j]:=F;obtain ⟨_,_,_,_,_,_,rfl,-,-⟩:=F;refine ⟨_,_,_,_,_,_,rfl,by omega,d.le,d.cap,rfl,Mo i,fun Y Z k1 k2=>⟨(L+1,Z,_,((j+1:Nat):Int)),by dsimp only;omega,by and_intros<;>rfl,j+1,rfl,o,?_⟩⟩;rw [←List.take_append_getElem o];exact (d.mono (V':=E) fun _ _ g=>K0.le g (D.trans X)).snoc rfl i (by decide) k1 k2
 ·have b:¬(j:Int)<ps.length:=of_decide_eq_false b;obtain rfl:j=ps.length:=by omega
  rw [List.take_length] at d;have G:=jW.mX N (d.row.le fun _ _ g=>K0.le g C) (by decide) (by rw [←d.len];exact d.le);rw [←d.len] at G;refine (Is (i.le (x.trans C)) G sl ss sp hn hk).mono ?_;rintro r V8 l8 ⟨q,m,e,rfl,hC⟩;have cl:=chop_len s (ascL (cutsG l s ps));have al:=BA (cutsG l s ps);have gl:=mS l s ps
  refine ⟨_,_,_,rfl,fun J V9 H=>(kE (k:=8*k+7) (Gb (hC.le H fun _ _ g=>lT.le g H)) (by rw [List.length_map];omega) (fun f hf=>by
   obtain ⟨t,ht,rfl⟩:=List.mem_map.1 hf;exact ⟨⟨sl.1.mono (by omega),sl.2.1.mono (by omega),sl.2.2.mono (by omega)⟩,Ai ⟨ss.1.mono (by omega),ss.2.mono (by omega)⟩ (B0 sl sp) t ht⟩) (by omega)).mono ?_⟩
  rintro r hZ a6 ⟨q2,m2,e2,rfl,hR⟩;exact ⟨_,_,_,rfl,fun gN bL=>⟨_,_,_,rfl,hR.le bL⟩⟩
theorem rR {V:View}{p:OA}{n c:Nat}{fs:List (L3×Sp)}(h:oe V p n fs)(lP:fs.length<20)(hb:∀f∈fs,eh 10000 f.1)(hs:∀f∈fs,f.2.sz 1000000)(ho:∀f∈fs,HS f.1 f.2)(hl:(joinF fs).length<=1000)(so:∀i,i<=2*fs.length->uk i) :
  ae prog 25 #[.slice p n c] V fun r V'=>∃q m e,r=.tuple #[.slice q m e,.nilIface]/\oe V' q m (joinF fs):=by
 have l:∀f∈joinF fs,eh 1000000 f.1/\f.2.sz 1000000:=fun f a=>by
  obtain ⟨m,hm,a⟩:=List.mem_flatMap.1 a;obtain ⟨s,b,rfl⟩:=List.mem_map.1 a;obtain ⟨g,o,rfl⟩:=List.mem_map.1 (((cR _).2 _).1 hm);have z:=hb g o;refine ⟨⟨z.1.mono (by omega),z.2.1.mono (by omega),z.2.2.mono (by omega)⟩,Lm (by decide) (fun u hu=>?_) (fun u hu=>by cases hu) s b⟩;obtain ⟨x,t,rfl⟩:=List.mem_map.1 hu;exact hs x (List.mem_filter.1 t).1
 refine rF p n c V _ fun D v=>(Lb (h.le v) (by omega) (fun f a=>⟨⟨(hb f a).1.mono (by omega),(hb f a).2.1.mono (by omega),(hb f a).2.2.mono (by omega)⟩,hs f a⟩) ho (k:=1000000) (by omega)).mono ?_;rintro r V2 E ⟨F,G,H,rfl,w,y⟩;refine ⟨_,_,_,_,rfl,(fun h=>nomatch h),fun _ I d=>(GN (w.le d fun _ _ g=>lT.le g d) y lP hb (fun f a=>(ho f a).2) hs so).mono ?_⟩;rintro r J K ⟨L,M,N,rfl,A⟩;refine ⟨_,_,_,rfl,fun O j=>(kE (Gb (A.le j fun _ _ g=>lT.le g j)) hl l (by omega)).mono ?_⟩;rintro r P Q ⟨R,S,T,rfl,B⟩;exact ⟨_,_,_,rfl,fun U C=>⟨_,_,_,rfl,B.le C⟩⟩
theorem joinF_map {l:L3}{A:List Sp}(hne:A≠[]):joinF (A.map fun t=>(l,t))=(combL 1 A []).map fun t=>(l,t):=by
 have h:=joinF_snoc (P:=[]) (Q:=A.map fun t=>(l,t)) (m:=l) (fun x a=>by cases a) (fun x a=>by obtain ⟨t,-,rfl⟩:=List.mem_map.1 a;rfl) (fun h=>hne (List.map_eq_nil_iff.1 h));rw [List.nil_append,joinF_nil,List.nil_append,List.map_map] at h;rw [h];congr 2;exact List.map_id _
theorem cmpQ_pos' {a b:Rat}:cmpQ a b>0↔b<a:=by rw [←cmpQ_neg (a:=b) (b:=a),cmpQ_swap a b];omega
theorem ins_inn {s:Sp}{t:Rat}(h:s.ins t=true):s.inn t:=by
 unfold Sp.ins at h;unfold Sp.inn;rw [Bool.and_eq_true,Bool.or_eq_true,Bool.or_eq_true,decide_eq_true_eq,decide_eq_true_eq,cmpQ_neg,cmpQ_pos'] at h;exact h
theorem cuts_inn {l:L3}{s:Sp}{ps:List (Rat×Rat)}:∀t∈ascL (cutsG l s ps),s.inn t:=fun t a=>by
 obtain ⟨q,b,rfl⟩:=List.mem_map.1 (((ascL_spec _).2 t).1 a);exact ins_inn (Bool.and_eq_true_iff.1 (List.mem_filter.1 b).2).2
theorem emp_not {s:Sp}(h:s.a=true\/s.b=true\/s.lo<s.hi):s.emp=false:=by
 unfold Sp.emp;rcases h with h|h|h
 ·rw [h];rfl
 ·rw [h];cases s.a<;>rfl
 ·have:=cmpQ_neg.2 h;rw [show decide (cmpQ s.lo s.hi≥0)=false from decide_eq_false (by omega),Bool.and_false]
theorem chop_good:∀{l:List Rat} {s:Sp},s.good->asc l->(∀t∈l,s.inn t)->∀u∈chop s l,u.good
 | [],s,hs,_,_,u,hu=>by rw [List.mem_singleton.1 hu];exact hs
 | t::r,s,hs,ha,hi,u,hu=>by
  obtain ⟨h1,h2⟩:=hi t (List.mem_cons_self ..);obtain ⟨c,d⟩:=List.pairwise_cons.1 ha;rcases List.mem_cons.1 hu with rfl|hu
  ·exact ⟨⟨hs.1.1,fun h=>nomatch h⟩,emp_not (h1.imp id fun h=>.inr h)⟩
  ·exact chop_good (s:=⟨t,s.hi,false,s.b⟩) ⟨⟨fun h=>(nomatch h),hs.1.2⟩,emp_not (.inr h2)⟩ d (fun x a=>⟨.inr (c x a),(hi x (List.mem_cons_of_mem _ a)).2⟩) u hu
theorem chop_ne (s:Sp)(l:List Rat):chop s l≠[]:=fun h=>by have:=chop_len s l;rw [h] at this;simp at this
theorem cut_join {l:L3}{s:Sp}{ps:List (Rat×Rat)}(hs:s.good):joinF ((chop s (ascL (cutsG l s ps))).map fun t=>(l,t))=[(l,s)]:=by
 rw [joinF_map (chop_ne _ _),chop_join hs (ascL_spec _).1 cuts_inn];rfl
theorem side_join {l m:L3}{s:Sp}(hs:s.good)(h:¬(sideF l s m=[]/\sideF l s (revL m)=[])):joinF (sideF l s m++sideF l s (revL m))=[(l,s)]:=by
 rw [←spl_side hs,←spl_side hs] at h ⊢;unfold splS at h ⊢;rw [List.map_eq_nil_iff,List.map_eq_nil_iff] at h;rw [←List.map_append,joinF_map (fun e=>h (List.append_eq_nil_iff.1 e)),split_join hs h];rfl
theorem side_good {l m:L3}{s:Sp}(hs:s.good):∀f∈sideF l s m,f.1=l/\f.2.good:=fun f a=>by
 rw [←spl_side hs] at a;obtain ⟨t,b,rfl⟩:=List.mem_map.1 a;exact ⟨rfl,(comb_reg ..).1 t b⟩
end Go.Proofs.Tryz
namespace Go.Proofs.Tryz
open Go.Eng
set_option maxRecDepth 100000
end Go.Proofs.Tryz
namespace Go.Proofs.Tryz
open Go.Eng Go.Big
def KY (V:View)(v:Value)(x:L3×Sp):Prop:=xi V v x.1 x.2
end Go.Proofs.Tryz
namespace Go.Proofs.Tryz
open Go.Eng
set_option maxRecDepth 100000
end Go.Proofs.Tryz
namespace Go.Proofs.Tryz
open Go.Eng Go.Big
theorem Mk {V:View}{p:OA}{n:Nat}{fs:List (L3×Sp)}(h:jW 14 KY V p n fs):oe V p n fs:=⟨h.len,fun i a=>by
 obtain ⟨b,c,xs,-,d,e⟩:=h.at_ i a;exact ⟨b,c,xs,d,e⟩⟩
end Go.Proofs.Tryz
