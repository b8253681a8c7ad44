import Derived.Test.YtdhlkpfmlimjfaaGreatDoorV16
import Derived.Test.YtdhlkpfmlimjfaaGreatDoorV15
import Derived.Test.YtdhlkpfmlimjfaaGreatDoorV14
import Derived.Test.YtdhlkpfmlimjfaaGreatDoorV9
import Derived.Test.YtdhlkpfmlimjfaaGreatDoorV10
import Derived.Laws.IdiomCopy
import Derived.Lib.Overlaps
import Derived.Lib.JoinLaws
import Derived.Lib.AppendZerosOnto
import Derived.Test.YtdhlkpfmlimjfaaGreatDoorV6
import Derived.Shelf.RegionOpenPlain
import Derived.Lib.Walk
import Derived.Lib.SliceRun
import Derived.Laws.NewBlocks
import Derived.Test.YtdhlkpfmlimjfaaGreatDoorV12
import Derived.Test.YtdhlkpfmlimjfaaGreatDoorV13
set_option linter.unusedVariables false
open Go.IntKind (i64 u64 u32)
namespace Go.Proofs.Tryz
open Go.Eng Go.Big
theorem ok_rev {l:L3}(h:okL l=true):okL (revL l)=true:=by
 unfold okL revL ig at *
 simp only [Int.natAbs_neg]
 rw [Bool.and_eq_true,decide_eq_true_iff,decide_eq_true_iff] at h ⊢
 exact ⟨fun e=>h.1 ⟨by omega,by omega⟩,h.2⟩
section
variable {M:List L3} {c:List Sd} (h:CanC M c) (hk:∀m ∈ M,okL m=true)
include h hk
theorem lh {l:L3}(hl:okL l=true):(bu c l fullSp).isSome=true↔∃x:Sec.V2,aj l x.1 x.2=0/\Sec.pos M x:=by
 constructor
 ·intro e
  obtain ⟨v,a⟩:=Option.isSome_iff_exists.1 e
  obtain ⟨b,d⟩:=qj gR a
  obtain ⟨t,f⟩:=ma.1 b.2
  exact ⟨(fu l t,iF l t),(kN (jM hl) t).1,h.int hk ((d t).1 f).2⟩
 ·rintro ⟨x,g,i⟩
  obtain ⟨t,j,k⟩:=oD (jM hl) g
  cases e:bu c l fullSp with
  | some v=>rfl
  | none=>exact absurd (fun s m=>by rw [←j,←k];exact i _ (h.mem s m).1) (qi gR e t (oh t))
theorem B5 {l:L3}(hl:okL l=true):((bu c l fullSp).isSome=true↔(∃q,Sec.pos M q/\0<aj l q.1 q.2)/\∃q,Sec.pos M q/\aj l q.1 q.2<0) /\
  ((bu c l fullSp).isSome=false->(cF c l=1/\∃q,Sec.pos M q/\0<aj l q.1 q.2)\/cF c l=-1/\¬∃q,Sec.pos M q/\0<aj l q.1 q.2):=by
 constructor
 ·rw [lh h hk hl]
  constructor
  ·rintro ⟨x,f,g⟩
   obtain ⟨q,a,j,-⟩:=Sec.tV (M:=M) (zk hl) f (fun m hm _=>g m hm) [] (fun m hm=>by cases hm)
   obtain ⟨r,i,b,-⟩:=Sec.tV (M:=M) (l:=revL l) (x:=x) (zk (ok_rev hl)) (by rw [val_rev,f];rfl) (fun m hm _=>g m hm) [] (fun m hm=>by cases hm)
   rw [val_rev] at b
   exact ⟨⟨q,a,j⟩,r,i,by grind⟩
  ·rintro ⟨⟨q,a,j⟩,r,i,b⟩
   by_cases o:∃x:Sec.V2,aj l x.1 x.2=0/\Sec.pos M x
   ·exact o
   ·have:=Sec.oE (fun x f g=>o ⟨x,f,g⟩) a i j
    grind
 ·intro e
  have d:∀x:Sec.V2,aj l x.1 x.2=0->¬Sec.pos M x:=fun x f g=>by
   rw [(lh h hk hl).2 ⟨x,f,g⟩] at e;cases e
  obtain ⟨q,a⟩:=h.pos
  have k:c≠[]:=fun p=>by subst p;unfold bu at e;cases e
  by_cases n:0<aj l q.1 q.2
  ·exact .inl ⟨yf h hk hl d a n k,q,a,n⟩
  ·have s:aj l q.1 q.2≠0:=fun z=>d q z a
   refine .inr ⟨ye h hk hl d a (by grind),?_⟩
   rintro ⟨r,i,b⟩
   exact n (Sec.oE d i a b)
theorem Jw {p:Sec.V2}(hp:∀s∈c,0<=aj s.1 p.1 p.2):∀m∈M,0<=aj m p.1 p.2:=by
 intro m hm
 obtain ⟨q,d⟩:=h.pos
 have key:∀t:Rat,0<=t->t<1->Sec.pos M (q.1+t*(p.1-q.1),q.2+t*(p.2-q.2)):=fun t t0 t1=>h.int hk fun s f=>by
  dsimp only
  rw [Sec.o_]
  have a:=d s.1 (h.mem s f).1
  have j:=Sec.mn t0 (hp s f)
  have k:=Sec.mp (show 1-t>0 by grind) a
  grind
 by_cases g:0<=aj m p.1 p.2
 ·exact g
 exfalso
 have a:=d m hm
 obtain ⟨t,t0,t1,e⟩:=Sec.sU (y:=(aj m q.1 q.2,aj m p.1 p.2)) a (s:=1) (by decide) (by unfold Sec.mx;grind)
 have b:t<1:=by
  by_cases i:t=1
  ·subst i;unfold Sec.mx at e;dsimp only at e;grind
  ·grind
 have:=key t (by grind) b m hm
 dsimp only at this
 rw [Sec.o_] at this
 unfold Sec.mx at e
 dsimp only at e
 grind
theorem Gk (q:Sec.V2):Sec.pos (c.map Prod.fst) q↔Sec.pos M q:=by
 constructor
 ·intro g
  exact h.int hk fun s a=>g _ (List.mem_map.2 ⟨s,a,rfl⟩)
 ·intro g m hm
  obtain ⟨s,a,rfl⟩:=List.mem_map.1 hm
  exact g _ (h.mem s a).1
end
end Go.Proofs.Tryz
namespace Go.Proofs.Tryz
open Go.Eng Go.Big
section
variable {M:List L3} {c:List Sd} (h:CanC M c) (hk:∀m ∈ M,okL m=true)
include h hk
end
end Go.Proofs.Tryz
namespace Go.Proofs.Tryz
open Go.Eng Go.Big
namespace Sec
end Sec
section
variable {M:List L3} {c:List Sd} (h:CanC M c) (hk:∀m ∈ M,okL m=true)
include h hk
end
end Go.Proofs.Tryz
namespace Go.Proofs.Tryz
open Go.Eng Go.Big
namespace Sec
end Sec
section
variable {M:List L3} {c:List Sd} (h:CanC M c) (hk:∀m ∈ M,okL m=true)
include h hk
end
end Go.Proofs.Tryz
namespace Go.Proofs.Tryz
open Go.Eng Go.Big
section
variable {M:List L3} {c:List Sd} (h:CanC M c) (hk:∀m ∈ M,okL m=true) (hb:∀s ∈ c,s.2.a=false/\s.2.b=false)
include h hk hb
end
end Go.Proofs.Tryz
namespace Go.Proofs.Tryz
open Go.Eng Go.Big
section
variable {M:List L3} {c:List Sd} (h:CanC M c) (hk:∀m ∈ M,okL m=true) (hb:∀s ∈ c,s.2.a=false/\s.2.b=false)
include h hk hb
end
end Go.Proofs.Tryz
namespace Go.Proofs.Tryz
open Go.Eng Go.Big
section
variable {M:List L3} {c:List Sd} (h:CanC M c) (hk:∀m ∈ M,okL m=true) (hb:∀s ∈ c,s.2.a=false/\s.2.b=false)
include h hk hb
end
end Go.Proofs.Tryz
namespace Go.Proofs.Tryz
open Go.Eng Go.Big
section
variable {M:List L3} {c:List Sd} (h:CanC M c) (hk:∀m ∈ M,okL m=true)
include h hk
theorem Cn:∀m∈c.map Prod.fst,okL m=true:=fun m hm=>by
 obtain ⟨s,a,rfl⟩:=List.mem_map.1 hm
 exact hk _ (h.mem s a).1
theorem IQ {l:L3}(hl:l∈c.map Prod.fst):Sec.Es (c.map Prod.fst) l:=by
 obtain ⟨s,b,rfl⟩:=List.mem_map.1 hl
 obtain ⟨d,e⟩:=lF h hk b
 exact ⟨(fu s.1 s.2.cW,iF s.1 s.2.cW),d,fun m hm a=>by
  obtain ⟨u,hu,rfl⟩:=List.mem_map.1 hm
  exact e _ (h.mem u hu).1 a⟩
theorem Dh:∃c',bj (c.map Prod.fst) [] []=some c'/\CanC (c.map Prod.fst).reverse c'/\c'.map Prod.fst=c.map Prod.fst:=by
 have ok:=Cn h hk
 obtain ⟨d,f⟩:=G9 ok
 obtain ⟨q,g⟩:=h.pos
 cases e:bj (c.map Prod.fst) [] [] with
 | none=>exact absurd ⟨q,(Gk h hk q).2 g⟩ (f e).2.2
 | some c'=>
  obtain ⟨l,a,-⟩:=d c' e
  refine ⟨c',rfl,a,tw (List.pairwise_map.2 a.asc) (List.pairwise_map.2 h.asc) fun x=>?_⟩
  constructor
  ·intro b
   obtain ⟨s,i,rfl⟩:=List.mem_map.1 b
   exact List.mem_reverse.1 (a.mem s i).1
  ·intro b
   obtain ⟨v,j⟩:=a.all x (List.mem_reverse.2 b) (Es.of (fun y k=>List.mem_reverse.1 k) (IQ h hk b))
   exact List.mem_map.2 ⟨_,j,rfl⟩
end
end Go.Proofs.Tryz
namespace Go.Proofs.Tryz
open Go.Eng Go.Big
theorem lU.up {k K:Nat}{l:L3}(h:lU k l)(hk:k<=K):lU K l:=⟨h.1.mono hk,h.2.1.mono hk,h.2.2.mono hk⟩
theorem E_ {L M:L3}{s:Sp}{k K:Nat}(sl:lU k L)(sm:lU k M)(hs:s.sz K)(hk:60*k+60<=K):(cH L s M).sz K:=by
 have z:=LC K (by omega)
 have c:=(zQ sl sm).mono hk
 unfold cH
 split
 ·exact hs
 ·split
  ·exact Sp.zg hs ⟨c,z⟩
  ·exact Sp.zg hs ⟨z,c⟩
theorem JE {k:Nat}(hk:0<k):fullSp.sz k:=⟨LC k hk,LC k hk⟩
def QO (s:Sd):Prop:=Bd s.1/\s.2.sz 100000
theorem EP {x:Sd}:∀{r:List Sd} {i:Nat},i<=r.length->(∀k (h:k<r.length),k<i->Sec.ang (Sec.dirL r[k].1) (Sec.dirL x.1)<0)->(∀h:i<r.length,¬Sec.ang (Sec.dirL r[i].1) (Sec.dirL x.1)<0)->kZ x r=r.take i++x::r.drop i
 | [],i,hi,_,_=>by simp [kZ]
 | s::r,0,_,_,h=>by
  have:¬Sec.ang (Sec.dirL s.1) (Sec.dirL x.1)<0:=h (Nat.zero_lt_succ _)
  unfold kZ
  rw [if_neg this]
  rfl
 | s::r,i+1,hi,h1,h2=>by
  have:Sec.ang (Sec.dirL s.1) (Sec.dirL x.1)<0:=h1 0 (Nat.zero_lt_succ _) (Nat.zero_lt_succ _)
  unfold kZ
  rw [if_pos this,EP (r:=r) (i:=i) (by simpa using hi) (fun k hk a=>h1 (k+1) (by simpa using hk) (by omega)) fun h=>h2 (by simpa using h)]
  rfl
structure Bs (r:List Sd) (l:L3) (i j:Nat):Prop where
 le:i<=j
 len:j<=r.length
 lo:∀k (h:k<r.length),k<i->Sec.ang (Sec.dirL r[k].1) (Sec.dirL l)<0
 hi:∀h:j<r.length,¬Sec.ang (Sec.dirL r[j].1) (Sec.dirL l)<0
theorem Bs.start (r:List Sd)(l:L3):Bs r l 0 r.length:=⟨Nat.zero_le _,Nat.le_refl _,fun k h hk=>absurd hk (Nat.not_lt_zero _),fun h=>absurd h (Nat.lt_irrefl _)⟩
theorem Bs.up {r:List Sd}{l:L3}{i j h:Nat}(b:Bs r l i j)(asc:r.Pairwise fun s u=>Sec.ang (Sec.dirL s.1) (Sec.dirL u.1)<0)(h2:h<j)(hl:h<r.length)(hc:Sec.ang (Sec.dirL r[h].1) (Sec.dirL l)<0):Bs r l (h+1) j:=
 ⟨h2,b.len,fun k hk a=>by
  by_cases e:k=h
  ·subst e;exact hc
  ·exact yC (List.pairwise_iff_getElem.1 asc k h hk hl (by omega)) hc,b.hi⟩
theorem Bs.down {r:List Sd}{l:L3}{i j h:Nat}(b:Bs r l i j)(h1:i<=h)(hl:h<r.length)(hc:¬Sec.ang (Sec.dirL r[h].1) (Sec.dirL l)<0):Bs r l i h:=
 ⟨h1,by omega,b.lo,fun _=>hc⟩
theorem Bs.done {r:List Sd}{l:L3}{i:Nat}(b:Bs r l i i)(v:Sp):kZ (l,v) r=r.take i++(l,v)::r.drop i:=EP b.len b.lo b.hi
theorem RR.half (V:View):RR V (.agg #[.int .i64 1,.int .i64 1,.pointer none]) (((2:Int):Rat)⁻¹):=by
 have a:(((2:Int):Rat)⁻¹).num=1:=by decide +kernel
 have b:(((2:Int):Rat)⁻¹).den=2:=by decide +kernel
 refine .inl ⟨by rw [a,b];rfl,?_⟩
 unfold Wd
 rw [a,b];decide
theorem G6 {V:View}{v:Value}{x:Rat}(hx:RR V v x){k:Nat}(hk:Sz k x)(hkm:k+2<1099511627776) :
  Acts prog 235 #[v] V fun r V'=>RR V' r (x*((2:Int):Rat)⁻¹):=by
 have d:=hx
 obtain ⟨a,b,c,rfl⟩:=hx.shape
 refine vg a b c V _ fun e f=>(iJ (d.le f) (RR.half e) hk (fl zT) hkm).mono ?_
 rintro r V2 j g
 have h:=g
 obtain ⟨u,v,w,rfl⟩:=g.shape
 exact ⟨_,_,_,rfl,fun l i=>h.le i⟩
theorem AM {V:View}{v:Value}{s:Sp}(h:Ex V v s){k:Nat}(hs:s.sz k)(hk:4*k+8<1099511627776) :
  Acts prog 211 #[v] V fun r V'=>RR V' r s.cW:=by
 obtain ⟨D,E,p,F,G,q,rfl,n,o⟩:=h
 have H:s.a=true->s.b=true->s.cW=0:=fun x y=>by simp [Sp.cW,x,y]
 have I:s.a=true->s.b=false->s.cW=s.hi-((1:Int):Rat):=fun x y=>by simp [Sp.cW,x,y]
 have J:s.a=false->s.b=true->s.cW=s.lo+((1:Int):Rat):=fun x y=>by simp [Sp.cW,x,y]
 have K:s.a=false->s.b=false->s.cW=(s.lo+s.hi)*((2:Int):Rat)⁻¹:=fun x y=>by simp [Sp.cW,x,y]
 have no:∀{P:Prop},s.a=true->s.a=false->P:=fun x y=>by rw [x] at y;cases y
 have N:∀{P:Prop},s.b=true->s.b=false->P:=fun x y=>by rw [x] at y;cases y
 refine qu D E p F G q s.a s.b V _ ⟨fun c=>⟨fun hb O Q=>?_,fun hb=>⟨fun _ V2 L=>(gZ 1 (by decide) (by decide)).mono ?_,fun e=>no c e⟩⟩,fun c=>⟨fun e=>no e c,fun _=>⟨fun hb R M=>(gZ 1 (by decide) (by decide)).mono ?_,fun hb S i=>(j7 (n.le i) (o.le i) hs.1 hs.2 (by omega)).mono ?_⟩⟩⟩
 ·rw [H c hb];exact RR.zero _
 ·rintro r t m g
  have j:=g
  obtain ⟨u,v,w,rfl⟩:=g.shape
  refine ⟨_,_,_,rfl,fun z d=>(yM (o.le (L.trans (m.trans d))) (j.le d) hs.2 i_ (by omega)).mono ?_⟩
  rintro r A B f
  have f0:=f
  obtain ⟨u,v,w,rfl⟩:=f.shape
  exact ⟨_,_,_,rfl,fun C l=>by rw [I c hb];exact f0.le l⟩
 ·rintro r t m g
  have j:=g
  obtain ⟨u,v,w,rfl⟩:=g.shape
  refine ⟨_,_,_,rfl,fun z d=>(j7 (n.le (M.trans (m.trans d))) (j.le d) hs.1 i_ (by omega)).mono ?_⟩
  rintro r A B f
  have f0:=f
  obtain ⟨u,v,w,rfl⟩:=f.shape
  exact ⟨_,_,_,rfl,fun C l=>by rw [J c hb];exact f0.le l⟩
 ·rintro r t m g
  have j:=g
  obtain ⟨u,v,w,rfl⟩:=g.shape
  refine ⟨_,_,_,rfl,fun z d=>(G6 (j.le d) (hs.1.add hs.2) (by omega)).mono ?_⟩
  rintro r A B f
  have f0:=f
  obtain ⟨u,v,w,rfl⟩:=f.shape
  exact ⟨_,_,_,rfl,fun C l=>by rw [K c hb];exact f0.le l⟩
theorem Ol {V:View}:Acts prog 209 #[] V fun r V'=>r=.agg #[.int .i64 0,.int .i64 0,.pointer none,.int .i64 0,.int .i64 0,.pointer none,.bool true,.bool true]:=
 Ea V _ fun a b=>rfl
def RSd (V:View)(v:Value)(s:Sd):Prop:=LK V v s.1 s.2/\QO s
theorem RSd.le {V V':View}{v:Value}{s:Sd}(h:RSd V v s)(l:V.Le V'):RSd V' v s:=⟨h.1.le l,h.2⟩
theorem RSd.shape {V:View}{v:Value}{s:Sd}(h:RSd V v s):∃(x1:Int)(x2:Int)(p:OA)(y1:Int)(y2:Int)(q:OA)(z1:Int)(z2:Int)(r:OA)(u1:Int)(u2:Int)(t:OA)(w1:Int)(w2:Int)(o:OA),v=.agg #[.int .i64 x1,.int .i64 x2,.pointer p,.int .i64 y1,.int .i64 y2,.pointer q,.int .i64 z1,.int .i64 z2,.pointer r,.int .i64 u1,.int .i64 u2,.pointer t,.int .i64 w1,.int .i64 w2,.pointer o,.bool s.2.a,.bool s.2.b]:=by
 obtain ⟨x1,x2,p,y1,y2,q,z1,z2,r,u1,u2,t,w1,w2,o,e,-⟩:=h.1
 exact ⟨x1,x2,p,y1,y2,q,z1,z2,r,u1,u2,t,w1,w2,o,e⟩
theorem Ig {x1:Int}{x2:Int}{p:OA}{y1:Int}{y2:Int}{q:OA}{z1:Int}{z2:Int}{r:OA}{u1:Int}{u2:Int}{t:OA}{w1:Int}{w2:Int}{o:OA}{c d:Bool}:∀v∈([.int .i64 x1,.int .i64 x2,.pointer p,.int .i64 y1,.int .i64 y2,.pointer q,.int .i64 z1,.int .i64 z2,.pointer r,.int .i64 u1,.int .i64 u2,.pointer t,.int .i64 w1,.int .i64 w2,.pointer o,.bool c,.bool d]:List Value),v.oneCell'=true:=by
 intro v hm
 simp only [List.mem_cons,List.not_mem_nil,or_false] at hm
 rcases hm with rfl|rfl|rfl|rfl|rfl|rfl|rfl|rfl|rfl|rfl|rfl|rfl|rfl|rfl|rfl|rfl|rfl<;>rfl
theorem Kv {V:View}{s:Sd}:∀xs,RSd V (.agg (List.toArray xs)) s->∀v∈xs,v.oneCell'=true:=by
 intro xs h
 obtain ⟨a,b,p,c,d,q,f,g,r,i,j,t,k,l,o,e⟩:=h.shape
 have e:=congrArg Array.toList (Value.agg.inj e)
 dsimp only at e
 subst e
 exact Ig
theorem lst_rsd {V:View}{c:OA}{n:Nat}{al:List Sd}(h:Lst 17 RSd V c n al){i:Nat}(hi:i<al.length) :
  c.isSome=true/\∃(x1:Int)(x2:Int)(p:OA)(y1:Int)(y2:Int)(q:OA)(z1:Int)(z2:Int)(r:OA)(u1:Int)(u2:Int)(t:OA)(w1:Int)(w2:Int)(o:OA)(a:Addr),addrAdd c (i*17)=some a/\V.at (a.add 0) (.int .i64 x1)/\V.at (a.add 1) (.int .i64 x2)/\V.at (a.add 2) (.pointer p)/\V.at (a.add 3) (.int .i64 y1)/\V.at (a.add 4) (.int .i64 y2)/\V.at (a.add 5) (.pointer q)/\V.at (a.add 6) (.int .i64 z1)/\V.at (a.add 7) (.int .i64 z2)/\V.at (a.add 8) (.pointer r)/\V.at (a.add 9) (.int .i64 u1)/\V.at (a.add 10) (.int .i64 u2)/\V.at (a.add 11) (.pointer t)/\V.at (a.add 12) (.int .i64 w1)/\V.at (a.add 13) (.int .i64 w2)/\V.at (a.add 14) (.pointer o)/\V.at (a.add 15) (.bool al[i].2.a)/\V.at (a.add 16) (.bool al[i].2.b) /\
   RSd V (.agg #[.int .i64 x1,.int .i64 x2,.pointer p,.int .i64 y1,.int .i64 y2,.pointer q,.int .i64 z1,.int .i64 z2,.pointer r,.int .i64 u1,.int .i64 u2,.pointer t,.int .i64 w1,.int .i64 w2,.pointer o,.bool al[i].2.a,.bool al[i].2.b]) al[i]:=by
 obtain ⟨k,g,xs,l,j,d⟩:=h.at_ i hi
 have f:=j
 obtain ⟨x1,x2,p,y1,y2,q,z1,z2,r,u1,u2,t,w1,w2,o,e⟩:=j.shape
 have e:=congrArg Array.toList (Value.agg.inj e)
 dsimp only at e
 subst e
 refine ⟨?_,x1,x2,p,y1,y2,q,z1,z2,r,u1,u2,t,w1,w2,o,k,g,d 0 _ rfl,d 1 _ rfl,d 2 _ rfl,d 3 _ rfl,d 4 _ rfl,d 5 _ rfl,d 6 _ rfl,d 7 _ rfl,d 8 _ rfl,d 9 _ rfl,d 10 _ rfl,d 11 _ rfl,d 12 _ rfl,d 13 _ rfl,d 14 _ rfl,d 15 _ rfl,d 16 _ rfl,f⟩
 cases c with
 | none=>cases g
 | some a=>rfl
theorem E3 {V:View}{vs:List Value}{al:List Sd}(h:Row 17 RSd V vs al){i:Nat}(hi:i<al.length):∃(x1:Int)(x2:Int)(p:OA)(y1:Int)(y2:Int)(q:OA)(z1:Int)(z2:Int)(r:OA)(u1:Int)(u2:Int)(t:OA)(w1:Int)(w2:Int)(o:OA),i*17+17<=vs.length/\(vs.drop (i*17)).take 17=[.int .i64 x1,.int .i64 x2,.pointer p,.int .i64 y1,.int .i64 y2,.pointer q,.int .i64 z1,.int .i64 z2,.pointer r,.int .i64 u1,.int .i64 u2,.pointer t,.int .i64 w1,.int .i64 w2,.pointer o,.bool al[i].2.a,.bool al[i].2.b] /\
  RSd V (.agg #[.int .i64 x1,.int .i64 x2,.pointer p,.int .i64 y1,.int .i64 y2,.pointer q,.int .i64 z1,.int .i64 z2,.pointer r,.int .i64 u1,.int .i64 u2,.pointer t,.int .i64 w1,.int .i64 w2,.pointer o,.bool al[i].2.a,.bool al[i].2.b]) al[i]:=by
 obtain ⟨xs,k,d,f⟩:=h.at_ i hi
 have l:=h.kl (by decide)
 have c:=d
 obtain ⟨x1,x2,p,y1,y2,q,z1,z2,r,u1,u2,t,w1,w2,o,e⟩:=d.shape
 have e:=congrArg Array.toList (Value.agg.inj e)
 dsimp only at e
 subst e
 refine ⟨x1,x2,p,y1,y2,q,z1,z2,r,u1,u2,t,w1,w2,o,by omega,?_,c⟩
 apply List.ext_getElem?
 intro j
 rw [List.getElem?_take]
 split
 ·rename_i g
  rw [List.getElem?_drop]
  exact f j _ (List.getElem?_eq_getElem (by show j<17;omega))▸(List.getElem?_eq_getElem (by show j<17;omega)).symm
 ·rename_i g
  rw [List.getElem?_eq_none (by show 17<=j;omega)]
theorem RSd.both {V:View}{s:Sd}{x1:Int}{x2:Int}{p:OA}{y1:Int}{y2:Int}{q:OA}{z1:Int}{z2:Int}{r:OA}{u1:Int}{u2:Int}{t:OA}{w1:Int}{w2:Int}{o:OA}{c d:Bool}(h:RSd V (.agg #[.int .i64 x1,.int .i64 x2,.pointer p,.int .i64 y1,.int .i64 y2,.pointer q,.int .i64 z1,.int .i64 z2,.pointer r,.int .i64 u1,.int .i64 u2,.pointer t,.int .i64 w1,.int .i64 w2,.pointer o,.bool c,.bool d]) s) :
  RLi V (.agg #[.int .i64 x1,.int .i64 x2,.pointer p,.int .i64 y1,.int .i64 y2,.pointer q,.int .i64 z1,.int .i64 z2,.pointer r]) s.1/\Ex V (.agg #[.int .i64 u1,.int .i64 u2,.pointer t,.int .i64 w1,.int .i64 w2,.pointer o,.bool s.2.a,.bool s.2.b]) s.2/\c=s.2.a/\d=s.2.b:=by
 obtain ⟨f,g,w,i,j,x,k,l,y,z,A,B,m,n,C,e,u,v⟩:=h.1
 have e:=congrArg Array.toList (Value.agg.inj e)
 simp only [List.cons.injEq,Value.bool.injEq,Value.int.injEq,Value.pointer.injEq,true_and,and_true] at e
 obtain ⟨rfl,rfl,rfl,rfl,rfl,rfl,rfl,rfl,rfl,rfl,rfl,rfl,rfl,rfl,rfl,rfl,rfl⟩:=e
 exact ⟨u,v,rfl,rfl⟩
theorem ko:∀{c d:List Sd} {l:L3} {v:Sp},bu (c++d) l v=(bu c l v).bind (bu d l)
 | [],_,_,_=>rfl
 | s::c,d,l,v=>by
  rw [List.cons_append]
  unfold bu
  split
  ·exact ko
  ·rfl
theorem qJ {V:View}{cp:OA}{cn cc:Nat}{c:List Sd}{lv:Value}{l:L3}(h:Lst 17 RSd V cp cn c)(hl:RLi V lv l)(hb:Bd l)(hn:c.length<=1000000) :
  Acts prog 165 #[.slice cp cn cc,lv] V fun r V'=>∃w,r=.tuple #[w,.bool (bu c l fullSp).isSome]/\Ex V' w ((bu c l fullSp).getD Sp.zero)/\((bu c l fullSp).getD Sp.zero).sz 100000:=by
 have n:=hl
 obtain rfl:=h.len
 obtain ⟨_,_,_,_,_,_,_,_,_,rfl,-,-,-⟩:=hl
 have K:∀{i:Nat} (o:i<c.length) {s:Sp},bu (c.take i) l fullSp=some s->bu (c.take (i+1)) l fullSp=if c_ l s c[i].1=true then some (cH l s c[i].1) else none:=fun {i} o {s} e=>by
  rw [List.take_add_one,List.getElem?_eq_getElem o,ko,e]
  show bu [c[i]] l s=_
  unfold bu
  rfl
 refine qt cp _ cc _ _ _ _ _ _ _ _ _ V _ fun V1 L=>Ol.mono ?_
 rintro r V2 M rfl
 have N:=L.trans M
 refine ⟨_,_,_,_,_,_,_,_,rfl,fun z V'=>∃(i:Nat)(s:Sp),z.1=(i:Int)/\i<=c.length/\bu (c.take i) l fullSp=some s/\s.sz 100000/\z.2.2.2.2.2.2.2.1=s.a/\z.2.2.2.2.2.2.2.2=s.b/\Ex V' (.agg #[.int .i64 z.2.1,.int .i64 z.2.2.1,.pointer z.2.2.2.1,.int .i64 z.2.2.2.2.1,.int .i64 z.2.2.2.2.2.1,.pointer z.2.2.2.2.2.2.1,.bool s.a,.bool s.b]) s,
  fun z=>c.length-z.1.toNat,⟨(0,0,0,none,0,0,none,true,true),by and_intros<;>rfl,0,fullSp,rfl,Nat.zero_le _,rfl,JE (by omega),rfl,rfl,⟨_,_,_,_,_,_,rfl,RR.zero _,RR.zero _⟩⟩,?_⟩
 rintro ⟨z1,x1,x2,p,y1,y2,q,ba,bb⟩ V3 O ⟨i,s,E,o,t,u,F,G,x⟩
 dsimp only at E F G x ⊢
 subst E F G
 have L3:=N.trans O
 refine ⟨rfl,fun f=>?_,fun f V7 P=>?_⟩
 ·have f:(i:Int)<c.length:=of_decide_eq_true f
  have j:i<c.length:=by omega
  have w:i64.wrap ((i:Int)+1)=((i+1:Nat):Int):=by rw [i64w (by omega)];rfl
  rw [Int.toNat_natCast,w]
  obtain ⟨Q,a1,a2,a3,a4,a5,a6,a7,a8,a9,b1,b2,b3,b4,b5,b6,a,R,S,T,U,W,X,Y,Z,h7,h8,h9,y,A,B,K5,Gy,K6,C,H⟩:=lst_rsd (h.le L3 fun _ _ g=>RSd.le g L3) j
  obtain ⟨rl,ri,-,-⟩:=H.both
  have I:=K j t
  have J:=H.2
  refine ⟨Q,⟨by omega,by omega⟩,_,_,_,_,_,_,_,_,_,_,_,_,_,_,_,_,_,a,R,S,T,U,W,X,Y,Z,h7,h8,h9,y,A,B,K5,Gy,K6,C,fun V4 D=>(AO (n.le (L3.trans D)) (x.le D) (rl.le D) (k:=100000) (hb.szl.up (by omega)) u (J.1.szl.up (by omega)) (by omega)).mono ?_⟩
  rintro r V5 l5 ⟨w5,rfl,g⟩
  have g0:=g
  obtain ⟨_,_,_,_,_,_,rfl,-,-⟩:=g
  refine ⟨_,_,_,_,_,_,_,_,_,rfl,fun m V6 l6=>?_,fun m=>⟨(((i+1:Nat):Int),_,_,_,_,_,_,_,_),by dsimp only;omega,by and_intros<;>rfl,i+1,cH l s c[i].1,rfl,j,?_,E_ hb.szl J.1.szl u (by omega),rfl,rfl,g0⟩⟩
  ·have m:c_ l s c[i].1=false:=by simpa using m
   have e:bu c l fullSp=none:=by
    have:=ko (c:=c.take (i+1)) (d:=c.drop (i+1)) (l:=l) (v:=fullSp)
    rw [List.take_append_drop,I,m] at this
    exact this
   rw [e]
   exact ⟨_,rfl,⟨_,_,_,_,_,_,rfl,RR.zero _,RR.zero _⟩,LC _ (by omega),LC _ (by omega)⟩
  ·have m:c_ l s c[i].1=true:=by simpa using m
   rw [I,if_pos m]
 ·have f:¬(i:Int)<c.length:=of_decide_eq_false f
  obtain rfl:i=c.length:=by omega
  rw [List.take_length] at t
  rw [t]
  exact ⟨_,rfl,x.le P,u⟩
def NU (c:List Sd)(l:L3):Int:=if (bu c l fullSp).isSome=true then 0 else cF c l
theorem yK {V:View}{cp:OA}{cn cc:Nat}{c:List Sd}{lv:Value}{l:L3}(h:Lst 17 RSd V cp cn c)(hl:RLi V lv l)(hb:Bd l)(hn:c.length<=1000000) :
  Acts prog 166 #[.slice cp cn cc,lv] V fun r V'=>r=.int .i64 (NU c l):=by
 have e:=hl
 obtain rfl:=h.len
 obtain ⟨_,_,_,_,_,_,_,_,_,rfl,-,-,-⟩:=hl
 refine ph cp _ cc _ _ _ _ _ _ _ _ _ V _ fun V1 s=>(qJ (h.le s fun _ _ g=>RSd.le g s) (e.le s) hb hn).mono ?_
 rintro r V2 J ⟨w,rfl,g,-⟩
 obtain ⟨_,_,_,_,_,_,rfl,-,-⟩:=g
 have K:=s.trans J
 refine ⟨_,_,_,_,_,_,_,_,_,rfl,fun m V3 l3=>by unfold NU;rw [if_pos m],fun m=>?_⟩
 have m:(bu c l fullSp).isSome=false:=m
 have L:NU c l=cF c l:=by unfold NU;rw [if_neg (by rw [m];exact Bool.false_ne_true)]
 rw [L]
 refine ⟨fun z V'=>∃i:Nat,z=(i:Int)/\i<=c.length/\cF c l=cF (c.drop i) l,fun z=>c.length-z.toNat,⟨0,by and_intros<;>rfl,0,rfl,Nat.zero_le _,rfl⟩,?_⟩
 rintro z V4 M ⟨i,rfl,hi,b⟩
 have t:=K.trans M
 refine ⟨rfl,fun d=>?_,fun d N cX=>?_⟩
 ·have d:(i:Int)<c.length:=of_decide_eq_true d
  have f:i<c.length:=by omega
  have w:i64.wrap ((i:Int)+1)=((i+1:Nat):Int):=by rw [i64w (by omega)];rfl
  rw [Int.toNat_natCast,w]
  obtain ⟨O,a1,a2,a3,a4,a5,a6,a7,a8,a9,b1,b2,b3,b4,b5,b6,a,P,Q,R,T,U,W,X,Y,Z,h8,h9,x,y,A,K5,Gy,K6,B,G⟩:=lst_rsd (h.le t fun _ _ g=>RSd.le g t) f
  obtain ⟨H,ri,-,-⟩:=G.both
  have j:=G.2
  have ed:c.drop i=c[i]::c.drop (i+1):=List.drop_eq_getElem_cons f
  rw [ed] at b
  have b:cF c l=if (aj l (fu c[i].1 c[i].2.cW) (iF c[i].1 c[i].2.cW)).num.sign≠0 then (aj l (fu c[i].1 c[i].2.cW) (iF c[i].1 c[i].2.cW)).num.sign else if c[i].1=l then 1 else cF (c.drop (i+1)) l:=b.trans (by rfl)
  generalize c[i]=S at *
  have C:=KE j.2
  refine ⟨O,⟨by omega,by omega⟩,_,_,_,_,_,_,_,_,_,_,_,_,_,_,_,_,_,a,P,Q,R,T,U,W,X,Y,Z,h8,h9,x,y,A,K5,Gy,K6,B,fun V5 n=>(AM (ri.le n) j.2 (by omega)).mono ?_⟩
  rintro r V6 u g
  have g0:=g
  obtain ⟨_,_,_,rfl⟩:=g.shape
  refine ⟨_,_,_,rfl,fun V7 o=>(SA (H.le (n.trans (u.trans o))) (g0.le o) (k:=300000) (j.1.szl.up (by omega)) (C.mono (by omega)) (by omega)).mono ?_⟩
  rintro r V8 D I
  have E:=I
  obtain ⟨_,_,_,_,_,_,rfl,-,-⟩:=I
  have sx:=IZ (j.1.szl.up (show 1000<=300000 by omega)) (C.mono (show 2*100000+10<=300000 by omega))
  have sy:=I0 (j.1.szl.up (show 1000<=300000 by omega)) (C.mono (show 2*100000+10<=300000 by omega))
  refine ⟨_,_,_,_,_,_,rfl,fun V9 v=>(ze (e.le (t.trans (n.trans (u.trans (o.trans (D.trans v)))))) (E.le v) (hb.szl.up (by omega)) sx sy (by omega)).mono ?_⟩
  rintro r a0 p rfl
  refine ⟨_,rfl,fun F b0 b7=>?_,fun F b8 q=>(JV (H.le (n.trans (u.trans (o.trans (D.trans (v.trans (p.trans q))))))) (e.le (t.trans (n.trans (u.trans (o.trans (D.trans (v.trans (p.trans q)))))))) (k:=1000) j.1.szl hb.szl (by omega)).mono ?_⟩
  ·rw [b,if_pos (by simpa using F)]
  ·rintro r b9 c0 rfl
   rw [if_neg (by simpa using F)] at b
   refine ⟨_,rfl,fun he c1 dL=>?_,fun he=>⟨((i+1:Nat):Int),by dsimp only;omega,by and_intros<;>rfl,i+1,rfl,f,?_⟩⟩
   ·rw [b,if_pos (of_decide_eq_true he)]
   ·rw [b,if_neg (of_decide_eq_false he)]
 ·have d:¬(i:Int)<c.length:=of_decide_eq_false d
  obtain rfl:i=c.length:=by omega
  rw [b,List.drop_length]
  rfl
end Go.Proofs.Tryz
namespace Go.Eng
open Go.Lib
variable {P:Program}
theorem iW (w:World)(dT sT ty elem:TypeId)(sz b o dLen dCap:Nat)(a:Addr)(sLen sCap:Nat)(cs:List Value)
  (hu:P.underlying dT=some (.slice elem))(hs:(P.info? elem).map (·.size)=some sz)(hn:cs.length=Nat.min sLen dLen*sz)
  (hsrc:∀j v,cs[j]?=some v->w.cell? (a.add j)=some v)(hc:∀j,j<cs.length->(w.cell? ⟨b,o+j,none⟩).isSome=true)(hf:∀j,j<cs.length->w.frozen? ⟨b,o+j,none⟩=false)(h1:∀v∈cs,v.oneCell'=true) :
  (Builtin.copy_ #[dT,sT] ty #[.slice (some ⟨b,o,none⟩) dLen dCap,.slice (some a) sLen sCap]).run P w=.ok (goInt (Nat.min sLen dLen)) (w.setCells b o cs):=by
 have d:=run_loadCells_list (P:=P) w a cs hsrc
 have c:=run_storeCells_cells (P:=P) b o cs 0 w (by simpa using hc) (by simpa using hf) h1
 cases hq:P.info? elem with
 | none=>simp [hq] at hs
 | some i=>
  have e:i.size=sz:=by simpa [hq] using hs
  simp [Builtin.copy_,run_underlying hu,Builtin.lenOf,Builtin.firstCells,sizeOf,typeInfo,hq,e,←hn,d,c]
theorem Ar (w:World){o:Oper}{a:Act}{K:Act->World->Prop}{Q:Exit->Act->World->Prop}(d s:Operand)(t t':TypeId)
  (ho:o.op=.call { callee:=.builtin .copy,args:=#[d,s],argTypes:=#[t,t'] })(v u:Value)(hd:a.eval d=v)(hs:a.eval s=u){v':Value}{w':World}
  (hr:(Builtin.copy_ #[t,t'] o.type #[v,u]).run P w=.ok v' w')(h:K (a.put o.dst v') w'):o.wp P a w K Q:=by
 unfold Oper.wp execOp
 simp only [ho,resolve,invoke,builtin,Sem.run_bind,Sem.run_pure,Result.andThen_ok,List.map_toArray,List.map_cons,List.map_nil,hd,hs,hr]
 exact h
theorem jV (w:World){ops:Array Oper}{rest:List Oper}{o:Oper}{a:Act}{Q:Exit->Act->World->Prop}(hgd:o.guard=none)(d s:Operand)(t t':TypeId)
  (ho:o.op=.call { callee:=.builtin .copy,args:=#[d,s],argTypes:=#[t,t'] })(v u:Value)(hd:a.eval d=v)(hs:a.eval s=u){v':Value}{w':World}
  (hr:(Builtin.copy_ #[t,t'] o.type #[v,u]).run P w=.ok v' w')(h:wpList P ops Q rest (a.put o.dst v') w'):wpList P ops Q (o::rest) a w:=
 wpList_plain hgd fun _ b=>Ar w d s t t' ho v u hd hs hr (b _ _ h)
theorem lH {ops:Array Oper}{o:Oper}{a:Act}{w:World}{K:Act->World->Prop}{Q:Exit->Act->World->Prop}{E:Prop}
  (hg:o.guard=none)(d x:Operand)(dT sT:TypeId)(hop:o.op=Op.call { callee:=Callee.builtin Builtin.copy,args:=#[d,x],argTypes:=#[dT,sT] })
  (v u:Value)(hd:a.eval d=v)(hx:a.eval x=u){v':Value}{w':World}(hr:(Builtin.copy_ #[dT,sT] o.type #[v,u]).run P w=.ok v' w')(hK:K (a.put o.dst v') w') :
  if Region.wanted o (yielded ops a.tmps)=true then Oper.wp P o a w K Q else E:=by
 have hw:Region.wanted o (yielded ops a.tmps)=true:=by simp [Region.wanted,hg]
 rw [if_pos hw]
 unfold Oper.wp
 simp [execOp,hop,resolve,invoke,builtin,hd,hx,hr,Result.andThen]
 exact hK
theorem eF {w:World}{b o:Nat}{vs:List Value}{ty:TypeId}(h:w.heap[b]?=some (.cells vs.toArray ty (0,0))):w.frozen? ⟨b,o,none⟩=false:=by simp [World.frozen?,h]
theorem yp {w:World}{b:Nat}{vs:List Value}{ty:TypeId}(h:w.heap[b]?=some (.cells vs.toArray ty (0,0))):w.shape? b=some (ty,vs.length):=by simp [World.shape?,h]
theorem bG {w:World}{b o:Nat}{vs:List Value}{ty:TypeId}(h:w.heap[b]?=some (.cells vs.toArray ty (0,0))):w.cell? ⟨b,o,none⟩=vs[o]?:=cell_of_row h
theorem tX (X:Nat->Prop)(w:World):dP X w w.drew:=⟨Nat.le_refl _,fun _ _ _=>rfl,rfl,rfl,rfl⟩
theorem pV (X:Nat->Prop)(w:World)(o:Obj):dP X w (w.alloc o):=⟨by rw [show (w.alloc o).heap.size=w.heap.size+1 from Array.size_push ..];omega,fun b hb _=>bJ w o hb,rfl,rfl,rfl⟩
theorem Dr {w:World}{g:Nat}{old cs:Array Value}{ty:TypeId}(h:w.heap[g]?=some (.cells old ty (0,0))):dP (·=g) w (w.setRow g cs):=by
 refine ⟨?_,fun b hb a=>?_,?_,?_,?_⟩
 ·rw [dw h,Array.size_setIfInBounds];exact Nat.le_refl _
 ·rw [dw h,Array.getElem?_setIfInBounds_ne (fun e=>a e.symm)]
 all_goals simp [World.setRow,h]
theorem ck {b:Nat}{ty:TypeId}:∀(xs:List Value)(o:Nat)(vs:List Value)(w:World),w.heap[b]?=some (.cells vs.toArray ty (0,0))->o+xs.length<=vs.length ->
  (w.setCells b o xs).heap[b]?=some (.cells (vs.take o++xs++vs.drop (o+xs.length)).toArray ty (0,0))/\dP (·=b) w (w.setCells b o xs)
 | [],o,vs,w,h,hl=>⟨by rw [World.setCells,List.append_nil,List.length_nil,Nat.add_zero,List.take_append_drop];exact h,dP.refl _ _⟩
 | x::xs,o,vs,w,h,hl=>by
  rw [List.length_cons] at hl
  have e1:w.setCell ⟨b,o,none⟩ x=w.setRow b (vs.toArray.setIfInBounds o x):=setCell_eq_setRow w b o vs.toArray ty (0,0) x h
  have a:vs.toArray.setIfInBounds o x=(vs.set o x).toArray:=by simp
  rw [World.setCells,e1,a]
  have c:(w.setRow b (vs.set o x).toArray).heap[b]?=some (.cells (vs.set o x).toArray ty (0,0)):=setRow_heap w b vs.toArray _ ty (0,0) h
  obtain ⟨d,e⟩:=ck xs (o+1) (vs.set o x) _ c (by rw [List.length_set];omega)
  refine ⟨?_,(Dr h).trans e⟩
  rw [d]
  congr 3
  rw [List.take_set,List.take_add_one,List.getElem?_eq_getElem (by omega),List.drop_set_of_lt (by omega),List.length_cons,show o+1+xs.length=o+(xs.length+1) by omega]
  rw [List.set_append_right _ _ (by rw [List.length_take];omega),List.length_take,Nat.min_eq_left (by omega),Nat.sub_self]
  simp
end Go.Eng
namespace Go.Proofs.Tryz
open Go.Eng Go.RowKit Go.Lib
theorem oz:∃i z,prog.info? 193=some i/\i.zero=some z/\i.size=17/\i.bytes=128/\z.cells.size=17:=by
 have h:=iz 193 _ rfl
 unfold jL at h
 split at h
 ·rename_i i d a c
  split at h
  ·rename_i z b
   have h:=Option.some.inj h
   injection h with h1 h2 h3 h4
   refine ⟨i,z,a,b,h2,h3,?_⟩
   have:=congrArg List.length h4
   rw [List.length_map,Array.length_toList] at this
   rw [this]
   rfl
  ·cases h
 ·cases h
theorem dg (b o j:Nat):(⟨b,o,none⟩:Addr).add j=⟨b,o+j,none⟩:=by
 unfold Addr.add
 split
 ·rename_i h;subst h;rfl
 ·rfl
theorem LB (w:World){t:TypeId}{i:TypeInfo}(h:prog.info? t=some i):(Go.sizeOf t).run prog w=.ok i.size w:=by
 simp [sizeOf,typeInfo,h]
set_option maxHeartbeats 4000000 in
set_option maxRecDepth 100000 in
theorem FT (b n c i vb:Nat)(cs vs:List Value)(w:World)(hi:i<n)(hroom:n+1<=c)(hn63:n<=1000000)(hvb:vb≠b)(hcl:c*17<=cs.length)(hvl:vs.length=17)
  (hb:w.heap[b]?=some (.cells cs.toArray 193 (0,0)))(hv:w.heap[vb]?=some (.cells vs.toArray 193 (0,0)))
  (h1c:∀v∈(cs.take (n*17)).drop (i*17),v.oneCell'=true)(h1v:∀v∈vs,v.oneCell'=true) :
  Calls prog 172 #[.slice (some ⟨b,0,none⟩) n c,.int .i64 i,.slice (some ⟨vb,0,none⟩) 1 1] w fun e w'=>
   e=.returned (.slice (some ⟨b,0,none⟩) (n+1) c)/\w'=(w.drew.setCells b ((i+1)*17) ((cs.take (n*17)).drop (i*17))).setCells b (i*17) vs:=by
 obtain ⟨X,z,G,Y,H,Z,e5⟩:=oz
 have K:¬((i:Int)=(n:Int)):=by omega
 have q:(prog.info? 193).map (·.size)=some 17:=by rw [G];simp [H]
 have y:=underlying112
 have I:=underlying111
 have L:∀w,(Go.sizeOf 193).run prog w=.ok 17 w:=fun w=>by rw [LB w G,H]
 have ru:=run_underlying y
 have rv:=run_underlying I
 have A:∀lb B,(callFunc 217 #[.slice (some ⟨vb,0,none⟩) 1 1,.slice (some ⟨b,(i+1)*17,none⟩) lb B]).run prog w=.ok (.value (.bool false)) w:=fun lb B=>by
  rw [run_callFunc_extern func217 (by kernel_rfl) (by kernel_rfl) (by kernel_rfl) (e:=Extern.SlicesOverlaps.overlaps #[111,111] #[4]) (by kernel_rfl),
   Lib.run_overlaps_apart w 111 4 193 I 17 L ⟨vb,0,none⟩ ⟨b,(i+1)*17,none⟩ 1 1 lb B hvb _ _ _ _ (yp hv) (yp hb) (by omega) (eF hv) (eF hv)]
  rfl
 obtain ⟨a,d⟩:∃a,a=(cs.take (n*17)).drop (i*17):=⟨_,rfl⟩
 rw [←d] at h1c ⊢
 have g:a.length=(n-i)*17:=by rw [d,List.length_drop,List.length_take];omega
 have l:∀(W:World)(o:Nat),W.heap[b]?=some (.cells cs.toArray 193 (0,0))->o<cs.length->(W.cell? ⟨b,o,none⟩).isSome=true:=fun W o M N=>by rw [bG M,List.getElem?_eq_getElem N];rfl
 have h:(w.drew).heap[b]?=some (.cells cs.toArray 193 (0,0)):=hb
 have r:∀x:Nat,Nat.min (n+1-i) (n+1-(i+1))=n-i:=fun _=>by simp only [Nat.min_def];split<;>omega
 have k:∀ty m C,(Builtin.copy_ #[112,112] ty #[.slice (some ⟨b,(i+1)*17,none⟩) (n+1-(i+1)) m,.slice (some ⟨b,i*17,none⟩) (n+1-i) C]).run prog w.drew=  .ok (goInt ((n-i:Nat):Int)) (w.drew.setCells b ((i+1)*17) a):=fun ty m C=>by
  have:=iW (P:=prog) w.drew 112 112 ty 193 17 b ((i+1)*17) (n+1-(i+1)) m ⟨b,i*17,none⟩ (n+1-i) C a y q (by rw [r 0,g])
   (fun j v f=>by
    rw [dg b,bG h]
    rw [d,List.getElem?_drop,List.getElem?_take] at f
    split at f
    ·exact f
    ·cases f)
   (fun j f=>l _ _ h (by rw [g] at f;omega)) (fun j f=>eF h) h1c
  rw [r 0] at this
  exact this
 obtain ⟨u,D⟩:=ck a ((i+1)*17) cs w.drew h (by rw [g];omega)
 obtain ⟨p,s⟩:∃p,p=w.drew.setCells b ((i+1)*17) a:=⟨_,rfl⟩
 rw [←s] at k u D ⊢
 have J:Nat.min 1 (n+1-i)=1:=by simp only [Nat.min_def];split<;>omega
 have E:vb<w.heap.size:=(Array.getElem?_eq_some_iff.1 hv).1
 have F:p.heap[vb]?=some (.cells vs.toArray 193 (0,0)):=by rw [D.aW vb E hvb];exact hv
 have t:∀ty m,(Builtin.copy_ #[112,111] ty #[.slice (some ⟨b,i*17,none⟩) (n+1-i) m,.slice (some ⟨vb,0,none⟩) 1 1]).run prog p=.ok (goInt 1) (p.setCells b (i*17) vs):=fun ty m=>by
  have:=iW (P:=prog) p 112 111 ty 193 17 b (i*17) (n+1-i) m ⟨vb,0,none⟩ 1 1 vs y q (by rw [J,hvl])
   (fun j v f=>by rw [dg vb,Nat.zero_add,bG F];exact f)
   (fun j f=>by rw [bG u,List.getElem?_eq_getElem (by rw [hvl] at f;simp only [List.length_append,List.length_take,List.length_drop,g];omega)];rfl) (fun j f=>eF u) h1v
  rw [J] at this
  exact this
 clear u D d h1c s
 have mixed:=mixed
 have O:i64.wrap ((i:Int)+1)=(i:Int)+1:=by rw [IntKind.wrap_i64];omega
 have Q:(0:Int)<=(i:Int)+1:=by omega
 have R:i<=n:=by omega
 have S:((i:Int)+1).toNat=i+1:=by omega
 have T:¬(c=i+1):=by omega
 have U:(i:Int)<=(n:Int)+1:=by omega
 have V:¬(c=i):=by omega
 go_enter func172,ntmps172
 go_wp2_with (simp only [A])
 go_region_law_o (refine lH rfl _ _ 112 112 rfl (.slice (some ⟨b,(i+1)*17,none⟩) (n+1-(i+1)) (c-(i+1))) (.slice (some ⟨b,i*17,none⟩) (n+1-i) (c-i)) (by simp [Act.eval,Act.put]) (by simp [Act.eval,Act.put]) (k 3 _ _) ?_)
 go_wp2_with (at_builtin;refine jV _ rfl _ _ 112 111 rfl _ _ rfl rfl (t _ _) ?_)
 go_ret
 exact ⟨rfl,rfl⟩
set_option maxHeartbeats 4000000 in
set_option maxRecDepth 100000 in
theorem JT (b n c vb:Nat)(cs vs:List Value)(w:World)(hroom:n+1<=c)(hn63:n<=1000000)(hcl:c*17<=cs.length)(hvl:vs.length=17)
  (hb:w.heap[b]?=some (.cells cs.toArray 193 (0,0)))(hv:w.heap[vb]?=some (.cells vs.toArray 193 (0,0)))(h1v:∀v∈vs,v.oneCell'=true) :
  Calls prog 172 #[.slice (some ⟨b,0,none⟩) n c,.int .i64 n,.slice (some ⟨vb,0,none⟩) 1 1] w fun e w'=>
   e=.returned (.slice (some ⟨b,0,none⟩) (n+1) c)/\w'=w.setCells b (0+n*17) vs:=by
 obtain ⟨d,z,k,o,g,p,q⟩:=oz
 have h:=underlying112
 have i:=underlying111
 have r:=run_underlying h
 have s:=run_underlying i
 have mixed:=mixed
 have a:Src prog d.size 111 (.slice (some ⟨vb,0,none⟩) 1 1) 1 vs w:=Src.ofSlice w i ⟨vb,0,none⟩ 1 1 vs (by rw [g,hvl]) (fun j u f=>by rw [dg vb,Nat.zero_add,bG hv];exact f) h1v
 have l:∀j,j<vs.length->(w.cell? ⟨b,0+n*d.size+j,none⟩).isSome=true:=fun j f=>by rw [bG hb,g,List.getElem?_eq_getElem (by rw [hvl] at f;omega)];rfl
 have m:∀j,j<vs.length->w.frozen? ⟨b,0+n*d.size+j,none⟩=false:=fun j f=>eF hb
 go_enter func172,ntmps172
 go_wp2_with (at_builtin;refine wpList_append_room_src _ rfl _ _ 112 111 rfl 193 d h k b 0 n c rfl _ rfl 1 vs a hroom l m ?_)
 go_ret
 exact ⟨rfl,by rw [Nat.zero_add]⟩
set_option maxHeartbeats 4000000 in
set_option maxRecDepth 100000 in
theorem zd (b n c vb:Nat)(cs vs:List Value)(w:World)(hnc:n<=c)(hroom:c<n+1)(hn63:n<=1000000)(hcl:c*17<=cs.length)(hvl:vs.length=17)
  (hb:w.heap[b]?=some (.cells cs.toArray 193 (0,0)))(hv:w.heap[vb]?=some (.cells vs.toArray 193 (0,0)))(h1v:∀v∈vs,v.oneCell'=true) :
  ∃z:Array Value,z.size=17/\Calls prog 172 #[.slice (some ⟨b,0,none⟩) n c,.int .i64 n,.slice (some ⟨vb,0,none⟩) 1 1] w fun e w'=>
   e=.returned (.slice (some ⟨w.heap.size,0,none⟩) (n+1) (grownCap w (n+1) c 193)) /\
   w'=w.drew.alloc (.cells ((cs.take (n*17)++vs).toArray++Builtin.zeroCells z (grownCap w (n+1) c 193-(n+1))) 193):=by
 obtain ⟨k,z,s,t,o,x,p⟩:=oz
 refine ⟨z.cells,p,?_⟩
 have q:=underlying112
 have r:=underlying111
 have y:=run_underlying q
 have A:=run_underlying r
 have mixed:=mixed
 have g:Src prog k.size 111 (.slice (some ⟨vb,0,none⟩) 1 1) 1 vs w:=Src.ofSlice w r ⟨vb,0,none⟩ 1 1 vs (by rw [o,hvl]) (fun j u f=>by rw [dg vb,Nat.zero_add,bG hv];exact f) h1v
 have l:(w.drew).heap[b]?=some (.cells cs.toArray 193 (0,0)):=hb
 have hold:(Builtin.firstCells k.size n (.slice (some ⟨b,0,none⟩) n c)).run prog w.drew=.ok (cs.take (n*17)).toArray w.drew:=by
  rw [o]
  exact run_firstCells_some w.drew 17 n ⟨b,0,none⟩ n c (cs.take (n*17)) (by rw [List.length_take];omega) (fun j v f=>by
   rw [dg b,Nat.zero_add,bG l]
   rw [List.getElem?_take] at f
   split at f
   ·exact f
   ·cases f)
 have a:∀ty,(Builtin.append_ #[112,111] ty #[.slice (some ⟨b,0,none⟩) n c,.slice (some ⟨vb,0,none⟩) 1 1]).run prog w=_:=fun ty=>
  run_append_grow_src w 112 111 ty 193 k z q s t (some ⟨b,0,none⟩) n c (cs.take (n*17)) hold _ 1 vs g hroom (by omega) (by rw [x];exact growslice_fits hroom (by omega))
 obtain ⟨m,h⟩:∃m,m=z.cells:=⟨_,rfl⟩
 rw [←h] at a ⊢
 obtain ⟨i,d⟩:∃i:Array Value,i=(cs.take (n*17)++vs).toArray++Builtin.zeroCells m (grownCap w (n+1) c 193-(n+1)):=⟨_,rfl⟩
 rw [←d] at a ⊢
 clear h p hold d
 go_enter func172,ntmps172
 go_wp2_with (at_builtin;refine Lib.wpList_append_run _ rfl _ _ _ _ rfl _ _ rfl rfl _ _ (a _) ?_)
 all_goals (go_ret;exact ⟨rfl,rfl⟩)
set_option maxHeartbeats 4000000 in
set_option maxRecDepth 100000 in
theorem HI (b n c i vb:Nat)(cs vs:List Value)(w:World)(hi:i<n)(hnc:n<=c)(hroom:c<n+1)(hn63:n<=1000000)(hvb:vb≠b)(hcl:c*17<=cs.length)(hvl:vs.length=17)
  (hb:w.heap[b]?=some (.cells cs.toArray 193 (0,0)))(hv:w.heap[vb]?=some (.cells vs.toArray 193 (0,0)))
  (h1c:∀v∈(cs.take (n*17)).drop (i*17),v.oneCell'=true)(h1v:∀v∈vs,v.oneCell'=true) :
  ∃z:Array Value,z.size=17/\Calls prog 172 #[.slice (some ⟨b,0,none⟩) n c,.int .i64 i,.slice (some ⟨vb,0,none⟩) 1 1] w fun e w'=>
   e=.returned (.slice (some ⟨w.heap.size,0,none⟩) (n+1) (grownCap w (n+1) c 193)) /\
   w'=(((w.alloc (.cells ((cs.take (i*17)).toArray++Builtin.zeroCells z (n+1-i)++Builtin.zeroCells z (grownCap w (n+1) c 193-(n+1))) 193)).drew.setCells w.heap.size (i*17) vs).drew).setCells w.heap.size ((i+1)*17) ((cs.take (n*17)).drop (i*17)):=by
 obtain ⟨X,z,I,e2,J,Y,D⟩:=oz
 refine ⟨z.cells,D,?_⟩
 have E:=underlying112
 have uV:=underlying111
 have uI:=underlying3
 have ru:=run_underlying E
 have rv:=run_underlying uV
 have rz:∀w,(Go.sizeOf 193).run prog w=.ok 17 w:=fun w=>by rw [LB w I,J]
 have mixed:=mixed
 have a2:¬((i:Int)=(n:Int)):=by omega
 have a3:(c:Int)<(n:Int)+1:=by omega
 have A:(prog.info? 193).map (·.size)=some 17:=by rw [I];simp [J]
 have K:b<w.heap.size:=(Array.getElem?_eq_some_iff.1 hb).1
 have L:vb<w.heap.size:=(Array.getElem?_eq_some_iff.1 hv).1
 have B:(n:Int)+1-(i:Int)=((n+1-i:Nat):Int):=by omega
 have s:i+(n+1-i)=n+1:=by omega
 have M:(w.drew).heap[b]?=some (.cells cs.toArray 193 (0,0)):=hb
 have hold:(Builtin.firstCells X.size i (.slice (some ⟨b,0,none⟩) i c)).run prog w.drew=.ok (cs.take (i*17)).toArray w.drew:=by
  rw [J]
  exact run_firstCells_some w.drew 17 i ⟨b,0,none⟩ i c (cs.take (i*17)) (by rw [List.length_take];omega) (fun j v d=>by
   rw [dg b,Nat.zero_add,bG M]
   rw [List.getElem?_take] at d
   split at d
   ·exact d
   ·cases d)
 obtain ⟨p,t⟩:∃p,p=z.cells:=⟨_,rfl⟩
 rw [←t] at D ⊢
 have o:∀ty,(Builtin.append_ #[112,3] ty #[.slice (some ⟨b,0,none⟩) i c,.int .i64 ((n:Int)+1-(i:Int))]).run prog w =
   .ok (.slice (some ⟨w.heap.size,0,none⟩) (n+1) (grownCap w (n+1) c 193)) (w.drew.alloc (.cells ((cs.take (i*17)).toArray++Builtin.zeroCells p (n+1-i)++Builtin.zeroCells p (grownCap w (n+1) c 193-(n+1))) 193)):=fun ty=>by
  have h:=Lib.run_append_grow_zeros w 112 3 ty 193 X z .i64 .i64 E uI I e2 (some ⟨b,0,none⟩) i c (cs.take (i*17)) hold (n+1-i) (by omega) (by omega) (by omega) (by omega) (by rw [Y];omega) (by rw [Y,s];exact growslice_fits hroom (by omega))
  rw [s,←t] at h
  rw [B]
  exact h
 obtain ⟨G,F⟩:∃G,G=grownCap w (n+1) c 193:=⟨_,rfl⟩
 obtain ⟨a,k⟩:∃a:List Value,a.toArray=(cs.take (i*17)).toArray++Builtin.zeroCells p (n+1-i)++Builtin.zeroCells p (G-(n+1)):=⟨((cs.take (i*17)).toArray++Builtin.zeroCells p (n+1-i)++Builtin.zeroCells p (G-(n+1))).toList,by simp⟩
 rw [←F] at o ⊢
 rw [←k] at o ⊢
 have N:(n+1)*17<=a.length:=by
  have:=congrArg Array.size k
  simp [Builtin.zeroCells,D] at this
  omega
 obtain ⟨l,g⟩:∃l,l=(cs.take (n*17)).drop (i*17):=⟨_,rfl⟩
 rw [←g] at h1c ⊢
 have u:l.length=(n-i)*17:=by rw [g,List.length_drop,List.length_take];omega
 obtain ⟨q,f⟩:∃q,q=w.drew.alloc (.cells a.toArray 193):=⟨_,rfl⟩
 rw [←f] at o
 have H:q.heap[w.heap.size]?=some (.cells a.toArray 193 (0,0)):=by rw [f];exact Array.getElem?_push_size
 have O:q.heap[b]?=some (.cells cs.toArray 193 (0,0)):=by rw [f];exact (bJ w.drew _ K).trans hb
 have Z:q.heap[vb]?=some (.cells vs.toArray 193 (0,0)):=by rw [f];exact (bJ w.drew _ L).trans hv
 have Q:Nat.min 1 (n+1-i)=1:=by simp only [Nat.min_def];split<;>omega
 have m:∀(W:World),W.heap=q.heap->∀ty x,(Builtin.copy_ #[112,111] ty #[.slice (some ⟨w.heap.size,i*17,none⟩) (n+1-i) x,.slice (some ⟨vb,0,none⟩) 1 1]).run prog W=.ok (goInt 1) (W.setCells w.heap.size (i*17) vs):=fun W y ty x=>by
  have:=iW (P:=prog) W 112 111 ty 193 17 w.heap.size (i*17) (n+1-i) x ⟨vb,0,none⟩ 1 1 vs E A (by rw [Q,hvl])
   (fun j v d=>by rw [dg vb,Nat.zero_add,bG (by rw [y];exact Z)];exact d)
   (fun j d=>by rw [bG (by rw [y];exact H),List.getElem?_eq_getElem (by omega)];rfl) (fun j d=>eF (by rw [y];exact H)) h1v
  rw [Q] at this
  exact this
 have R:b≠w.heap.size:=by omega
 have S:Nat.min (n-i) (n+1-(i+1))=n-i:=by simp only [Nat.min_def];split<;>omega
 have r:∀(W:World),W.heap=q.heap->∀ty x T,(Builtin.copy_ #[112,112] ty #[.slice (some ⟨w.heap.size,(i+1)*17,none⟩) (n+1-(i+1)) x,.slice (some ⟨b,i*17,none⟩) (n-i) T]).run prog (W.setCells w.heap.size (i*17) vs).drew=.ok (goInt ((n-i:Nat):Int)) ((W.setCells w.heap.size (i*17) vs).drew.setCells w.heap.size ((i+1)*17) l):=fun W y ty x T=>by
  obtain ⟨g1,g2⟩:=ck vs (i*17) a W (by rw [y];exact H) (by omega)
  have U:(W.setCells w.heap.size (i*17) vs).drew.heap[b]?=some (.cells cs.toArray 193 (0,0)):=by
   have:=g2.aW b (by rw [y];exact (Array.getElem?_eq_some_iff.1 O).1) R
   rw [y,O] at this
   exact this
  have C:(W.setCells w.heap.size (i*17) vs).drew.heap[w.heap.size]?=_:=g1
  have:=iW (P:=prog) (W.setCells w.heap.size (i*17) vs).drew 112 112 ty 193 17 w.heap.size ((i+1)*17) (n+1-(i+1)) x ⟨b,i*17,none⟩ (n-i) T l E A (by rw [S,u])
   (fun j v d=>by
    rw [dg b,bG U]
    rw [g,List.getElem?_drop,List.getElem?_take] at d
    split at d
    ·exact d
    ·cases d)
   (fun j d=>by rw [bG C,List.getElem?_eq_getElem (by rw [u] at d;simp only [List.length_append,List.length_take,List.length_drop,hvl];omega)];rfl) (fun j d=>eF C) h1c
  rw [S] at this
  exact this
 have a4:n+1<=G:=by rw [F];exact grownCap_ge w _ _ _
 have a0:G<=9223372036854775807:=by
  have:=grownCap_le_maxLen w (n+1) c 193 (by unfold maxLen;omega)
  rw [←F] at this
  unfold maxLen at this
  omega
 have a5:¬(G=i):=by omega
 have a1:¬(G=i+1):=by omega
 have a6:¬(c=i):=by omega
 have hA:=m ((w.alloc (.cells a.toArray 193)).drew) (by rw [f];rfl)
 have a7:=m q rfl
 have V:=r ((w.alloc (.cells a.toArray 193)).drew) (by rw [f];rfl)
 subst f
 have a8:i64.wrap ((i:Int)+1)=(i:Int)+1:=by rw [IntKind.wrap_i64];omega
 have a9:i64.wrap ((n:Int)+1)=(n:Int)+1:=by rw [IntKind.wrap_i64];omega
 have b0:(0:Int)<=(i:Int)+1:=by omega
 have b5:i<=n:=by omega
 have b6:((i:Int)+1).toNat=i+1:=by omega
 have b7:(i:Int)<=(n:Int):=by omega
 clear B s hold k F N m r H O Z t D g h1c Q S u
 go_enter func172,ntmps172
 go_wp2_with (first
  | (at_builtin;refine Lib.wpList_append_run _ rfl _ _ _ _ rfl _ _ rfl rfl _ _ (o _) ?_)
  | (at_builtin;refine jV _ rfl _ _ 112 111 rfl _ _ rfl rfl (hA _ _) ?_))
 go_region_law_o (refine lH rfl _ _ 112 112 rfl (.slice (some ⟨w.heap.size,(i+1)*17,none⟩) (n+1-(i+1)) (G-(i+1))) (.slice (some ⟨b,i*17,none⟩) (n-i) (c-i)) (by simp [Act.eval,Act.put]) (by simp [Act.eval,Act.put]) (V 3 (G-(i+1)) (c-i)) ?_)
 go_wp2
 go_ret
 exact ⟨rfl,rfl⟩
end Go.Proofs.Tryz
namespace Go.Proofs.Tryz
open Go.Eng
theorem Nf {α:Type}{A B:List α}{k:Nat}(h:k<=A.length):(A.take k++B).drop k=B:=by
 rw [List.drop_append_of_le_length (by rw [List.length_take];omega),List.drop_eq_nil_of_le (by rw [List.length_take];omega),List.nil_append]
theorem P3 {α:Type}{A B:List α}{j k:Nat}(hj:j<=k)(h:k<=A.length):(A.take k++B).take j=A.take j:=by
 rw [List.take_append_of_le_length (by rw [List.length_take];omega),List.take_take,Nat.min_eq_left hj]
theorem G5 {V:View}{ob vb n c i:Nat}{vs xs:List Value}(hs:V.w.heap[ob]?=some (.cells vs.toArray 193 (0,0)))(hx:V.X ob)(hv:V.w.heap[vb]?=some (.cells xs.toArray 193 (0,0)))
  (hne:ob≠vb)(hi:i<=n)(hnc:n<=c)(hc:n<=1000000)(hcl:c*17<=vs.length)(hl:xs.length=17)(h1c:∀v∈(vs.take (n*17)).drop (i*17),v.oneCell'=true)(h1v:∀v∈xs,v.oneCell'=true) :
  Acts prog 172 #[.slice (some ⟨ob,0,none⟩) n c,.int .i64 i,.slice (some ⟨vb,0,none⟩) 1 1] V fun r V'=>∃(q c':Nat)(sp:List Value),r=.slice (some ⟨q,0,none⟩) (n+1) c' /\
   V'.w.heap[q]?=some (.cells (vs.take (i*17)++(xs++(vs.take (n*17)).drop (i*17))++sp).toArray 193 (0,0))/\(V.w.heap.size<=q\/q=ob)/\n+1<=c'/\c'*17<=(n+1)*17+sp.length /\
   V'.w.heap[vb]?=some (.cells xs.toArray 193 (0,0)):=by
 refine ⟨⟨f172,func172,rfl,by kernel_rfl⟩,?_⟩
 have L:ob<V.w.heap.size:=(Array.getElem?_eq_some_iff.1 hs).1
 have g:vb<V.w.heap.size:=(Array.getElem?_eq_some_iff.1 hv).1
 have d:((vs.take (n*17)).drop (i*17)).length=(n-i)*17:=by rw [List.length_drop,List.length_take];omega
 by_cases t:n+1<=c
 ·by_cases l:i<n
  ·refine (FT ob n c i vb vs xs V.w l t hc (fun e=>hne e.symm) hcl hl hs hv h1c h1v).mono ?_
   rintro e y ⟨m,rfl⟩
   obtain ⟨A,h⟩:=ck ((vs.take (n*17)).drop (i*17)) ((i+1)*17) vs V.w.drew hs (by rw [d];omega)
   have M:(vs.take ((i+1)*17)).length=(i+1)*17:=by rw [List.length_take];omega
   obtain ⟨s,f⟩:=ck xs (i*17) _ _ A (by simp only [List.length_append,M,d];omega)
   have ex:=((tX (·=ob) V.w).trans h).trans f
   refine ⟨_,m,ex.mono fun b e=>e▸hx,ob,c,vs.drop ((i+1)*17+((vs.take (n*17)).drop (i*17)).length),rfl,?_,.inr rfl,t,?_,?_⟩
   ·refine s.trans ?_
    congr 3
    rw [List.append_assoc,hl,List.append_assoc (vs.take ((i+1)*17)),P3 (by omega) (by omega),show i*17+17=(i+1)*17 by omega,Nf (by omega)]
    simp only [List.append_assoc]
   ·rw [List.length_drop,d];omega
   ·exact (ex.aW vb g fun e=>hne e.symm).trans hv
  ·obtain rfl:i=n:=by omega
   refine (JT ob i c vb vs xs V.w t hc hcl hl hs hv h1v).mono ?_
   rintro e y ⟨m,rfl⟩
   obtain ⟨s,f⟩:=ck xs (0+i*17) vs V.w hs (by omega)
   refine ⟨_,m,f.mono fun b e=>e▸hx,ob,c,vs.drop (0+i*17+xs.length),rfl,?_,.inr rfl,t,?_,?_⟩
   ·refine s.trans ?_
    congr 3
    rw [show (vs.take (i*17)).drop (i*17)=[] from List.drop_eq_nil_of_le (by rw [List.length_take];omega),Nat.zero_add,List.append_nil]
   ·rw [List.length_drop];omega
   ·exact (f.aW vb g fun e=>hne e.symm).trans hv
 ·by_cases l:i<n
  ·obtain ⟨z,B,C⟩:=HI ob n c i vb vs xs V.w l hnc (by omega) hc (fun e=>hne e.symm) hcl hl hs hv h1c h1v
   refine C.mono ?_
   rintro e y ⟨m,rfl⟩
   have D:=Go.grownCap_ge V.w (n+1) c 193
   generalize Go.grownCap V.w (n+1) c 193=G at *
   obtain ⟨a,j⟩:∃a:List Value,a.toArray=(vs.take (i*17)).toArray++Builtin.zeroCells z (n+1-i)++Builtin.zeroCells z (G-(n+1)):=⟨((vs.take (i*17)).toArray++Builtin.zeroCells z (n+1-i)++Builtin.zeroCells z (G-(n+1))).toList,by simp⟩
   have I:a=vs.take (i*17)++((Builtin.zeroCells z (n+1-i)).toList++(Builtin.zeroCells z (G-(n+1))).toList):=by
    have:=congrArg Array.toList j
    simpa using this
   have p:∀k,(Builtin.zeroCells z k).toList.length=k*17:=fun k=>by simp [Builtin.zeroCells,B]
   have u:(vs.take (i*17)).length=i*17:=by rw [List.length_take];omega
   have E:a.length=i*17+(n+1-i)*17+(G-(n+1))*17:=by rw [I];simp only [List.length_append,p,u];omega
   rw [←j]
   have N:(V.w.alloc (.cells a.toArray 193)).drew.heap[V.w.heap.size]?=some (.cells a.toArray 193 (0,0)):=Array.getElem?_push_size
   have x:dP (·=ob) V.w (V.w.alloc (.cells a.toArray 193)).drew:=(pV _ _ _).trans (tX _ _)
   obtain ⟨A,h⟩:=ck xs (i*17) a _ N (by omega)
   obtain ⟨s,f⟩:=ck ((vs.take (n*17)).drop (i*17)) ((i+1)*17) _ (World.drew _) A (by simp only [List.length_append,List.length_take,List.length_drop,d];omega)
   have F:V.w.heap.size<=_:=x.size
   have J:∀{X:Nat->Prop},dP X V.w _:=fun {X}=>by
    refine ⟨Nat.le_trans F (Nat.le_trans h.size f.size),fun b hb _=>?_,?_,?_,?_⟩
    ·exact (f.aW b (Nat.lt_of_lt_of_le hb (Nat.le_trans F h.size)) (by omega)).trans ((h.aW b (Nat.lt_of_lt_of_le hb F) (by omega)).trans ((pV (fun _=>False) V.w (.cells a.toArray 193)).aW b hb id))
    ·exact f.os.trans (h.os.trans x.os)
    ·exact f.tape.trans (h.tape.trans x.tape)
    ·exact f.out.trans (h.out.trans x.out)
   refine ⟨_,m,J,V.w.heap.size,G,(a.drop ((n+1)*17)),rfl,?_,.inl (Nat.le_refl _),D,?_,?_⟩
   ·refine s.trans ?_
    have K:a.take (i*17)=vs.take (i*17):=by rw [I,List.take_append_of_le_length (by rw [u];exact Nat.le_refl _),List.take_of_length_le (by rw [u];exact Nat.le_refl _)]
    have H:(a.take (i*17)++xs).length=(i+1)*17:=by rw [List.length_append,K,u,hl];omega
    have O:(a.take (i*17)++xs++a.drop (i*17+xs.length)).take ((i+1)*17)=a.take (i*17)++xs:=by rw [←H,List.take_left'];rfl
    have P:(a.take (i*17)++xs++a.drop (i*17+xs.length)).drop ((i+1)*17+((vs.take (n*17)).drop (i*17)).length)=a.drop ((n+1)*17):=by
     rw [List.drop_append,List.drop_eq_nil_of_le (by rw [H];omega),List.nil_append,List.drop_drop,H,d,hl]
     congr 1;omega
    rw [O,P,K]
    simp only [List.append_assoc]
   ·rw [List.length_drop,E];omega
   ·exact (@J fun _=>False).aW vb g id |>.trans hv
  ·obtain rfl:i=n:=by omega
   obtain ⟨z,B,C⟩:=zd ob i c vb vs xs V.w hnc (by omega) hc hcl hl hs hv h1v
   refine C.mono ?_
   rintro e y ⟨m,rfl⟩
   have D:=Go.grownCap_ge V.w (i+1) c 193
   generalize Go.grownCap V.w (i+1) c 193=G at *
   have p:∀k,(Builtin.zeroCells z k).toList.length=k*17:=fun k=>by simp [Builtin.zeroCells,B]
   have ex:∀{X:Nat->Prop} {o:Obj},dP X V.w (V.w.drew.alloc o):=(tX _ _).trans (pV _ _ _)
   refine ⟨_,m,ex,V.w.heap.size,G,(Builtin.zeroCells z (G-(i+1))).toList,rfl,?_,.inl (Nat.le_refl _),D,?_,?_⟩
   ·refine (Array.getElem?_push_size (xs:=V.w.heap)).trans ?_
    congr 2
    rw [show (vs.take (i*17)).drop (i*17)=[] from List.drop_eq_nil_of_le (by rw [List.length_take];omega),List.append_nil]
    apply Array.ext'
    simp
   ·rw [p];omega
   ·exact ((ex (X:=fun _=>False)).aW vb g id).trans hv
end Go.Proofs.Tryz
namespace Go.Proofs.Tryz
open Go.Eng Go.Big
theorem xC {V:View}{v:Value}{p:Rat×Rat}(h:RPt V v p.1 p.2){k:Nat}(s1:Sz k p.1)(s2:Sz k p.2)(hk:k<=1099511627776) :
  Acts prog 215 #[v] V fun r V'=>r=.int .i64 (Sec.half p):=by
 obtain ⟨n,o,q,s,t,u,rfl,f,w⟩:=h
 refine vq n o q s t u V _ fun G j=>(dR (w.le j) s2 hk).mono ?_
 rintro r V2 x rfl
 have d:=j.trans x
 refine ⟨_,rfl,fun b H I=>?_,fun b=>⟨fun c J l=>(dR (f.le (d.trans l)) s1 hk).mono ?_,fun c=>⟨fun a y K=>?_,fun a z g=>(dR (f.le (d.trans g)) s1 hk).mono ?_⟩⟩⟩
 ·have b:p.2.num.sign>0:=of_decide_eq_true b
  unfold Sec.half;rw [if_pos (.inl b)]
 ·have b:¬p.2.num.sign>0:=of_decide_eq_false b
  have c:p.2.num.sign=0:=by simpa using c
  rintro r L A rfl
  refine ⟨_,rfl,fun a M N=>?_,fun a=>⟨fun i O P=>?_,fun i Q B=>(dR (f.le (d.trans (l.trans (A.trans B)))) s1 hk).mono ?_⟩⟩
  ·have a:p.1.num.sign>0:=of_decide_eq_true a
   unfold Sec.half;rw [if_pos (.inr ⟨c,a⟩)]
  ·have i:p.2.num.sign<0:=of_decide_eq_true i
   omega
  ·have a:¬p.1.num.sign>0:=of_decide_eq_false a
   have m:¬(p.2.num.sign>0\/p.2.num.sign=0/\p.1.num.sign>0):=by omega
   rintro r R S rfl
   refine ⟨_,rfl,fun e C D=>?_,fun e E F=>?_⟩
   ·have e:p.1.num.sign<0:=of_decide_eq_true e
    unfold Sec.half;rw [if_neg m,if_pos (.inr e)]
   ·have e:¬p.1.num.sign<0:=of_decide_eq_false e
    unfold Sec.half;rw [if_neg m,if_neg (by omega)]
 ·have b:¬p.2.num.sign>0:=of_decide_eq_false b
  have c:¬p.2.num.sign=0:=by simpa using c
  have a:p.2.num.sign<0:=of_decide_eq_true a
  unfold Sec.half;rw [if_neg (by omega),if_pos (.inl a)]
 ·have b:¬p.2.num.sign>0:=of_decide_eq_false b
  have c:¬p.2.num.sign=0:=by simpa using c
  have a:¬p.2.num.sign<0:=of_decide_eq_false a
  omega
theorem Ky (q:Rat):-1<=q.num.sign/\q.num.sign<=1:=by
 rcases Int.lt_trichotomy q.num 0 with h|h|h
 ·rw [Int.sign_eq_neg_one_of_neg h];omega
 ·rw [h];decide
 ·rw [Int.sign_eq_one_of_pos h];omega
theorem AQ {V:View}{v w:Value}{a b:Rat×Rat}(h:RPt V v a.1 a.2)(h':RPt V w b.1 b.2){k:Nat}(s1:Sz k a.1)(s2:Sz k a.2)(s3:Sz k b.1)(s4:Sz k b.2)(hk:4*k+3<274877906944) :
  Acts prog 170 #[v,w] V fun r V'=>r=.int .i64 (Sec.ang a b):=by
 have f:=h
 have c:=h'
 obtain ⟨n,o,q,p,s,u,rfl,-⟩:=h
 obtain ⟨x,y,t,z,A,B,rfl,-⟩:=h'
 refine zZ n o q p s u x y t z A B V _ fun J d=>(xC (f.le d) s1 s2 (by omega)).mono ?_
 rintro r V2 i rfl
 refine ⟨_,rfl,fun K j=>(xC (c.le (d.trans (i.trans j))) s3 s4 (by omega)).mono ?_⟩
 rintro r L C rfl
 have l:=d.trans (i.trans (j.trans C))
 refine ⟨_,rfl,fun g M N=>?_,fun g=>⟨fun e O P=>?_,fun e Q m=>(tE (f.le (l.trans m)) (c.le (l.trans m)) s1 s2 s3 s4 hk).mono ?_⟩⟩
 ·unfold Sec.ang;rw [if_pos (of_decide_eq_true g)]
 ·unfold Sec.ang;rw [if_neg (of_decide_eq_false g),if_pos (of_decide_eq_true e)]
 ·rintro r R S gc
  have D:=gc
  obtain ⟨T,U,W,rfl⟩:=gc.shape
  refine ⟨_,_,_,rfl,fun X E=>(dR (D.le E) (qE s1 s2 s3 s4) (by omega)).mono ?_⟩
  rintro r F G rfl
  refine ⟨_,rfl,fun H I=>?_⟩
  have Y:=Ky (a.1*b.2-a.2*b.1)
  rw [i64w (by omega)]
  unfold Sec.ang;rw [if_neg (of_decide_eq_false g),if_neg (of_decide_eq_false e)]
  show _=Value.int .i64 (-(a.1*b.2-a.2*b.1).num.sign)
  congr 1;omega
def L8:Rat×Rat:=(0,0)
def Ok (a b:Rat×Rat):Int:=Sec.ang a b
def I_ (V:View)(v:Value)(c:Rat×Rat):Prop:=RPt V v c.1 c.2/\Sz 100000 c.1/\Sz 100000 c.2
theorem I_.le {V V':View}{v:Value}{c:Rat×Rat}(h:I_ V v c)(l:V.Le V'):I_ V' v c:=⟨h.1.le l,h.2⟩
theorem I_.shape {V:View}{v:Value}{c:Rat×Rat}(h:I_ V v c):∃(x y:Int)(p:OA)(xb yb:Int)(pb:OA),v=.agg #[.int .i64 x,.int .i64 y,.pointer p,.int .i64 xb,.int .i64 yb,.pointer pb]:=by
 obtain ⟨⟨a,b,p,d,f,q,e,-⟩,-⟩:=h;exact ⟨_,_,_,_,_,_,e⟩
def eP (a b:Rat×Rat):Bool:=Sec.eP a b
def oF (p:Rat×Rat):Rat×Rat:=(p.1*(fX p.1 p.2)⁻¹,p.2*(fX p.1 p.2)⁻¹)
theorem Li {V:View}{v:Value}{l:L3}(h:RLi V v l)(hb:Bd l):Acts prog 171 #[v] V fun r V'=>RPt V' r (Sec.dirL l).1 (Sec.dirL l).2:=ka h hb.szl.1 hb.szl.2.1 hb.szl.2.2 (by omega)
theorem zR {l:L3}(hb:Bd l):Sz 1000 (Sec.dirL l).1/\Sz 1000 (Sec.dirL l).2:=⟨hb.szl.2.1,hb.szl.1.neg⟩
theorem EC {V:View}{v lv:Value}{s:Sd}{l:L3}(h:RSd V v s)(hl:RLi V lv l)(hb:Bd l):Acts prog 169 #[v,lv] V fun r V'=>r=.int .i64 (Sec.ang (Sec.dirL s.1) (Sec.dirL l)):=by
 have a:=hl
 obtain ⟨_,_,_,_,_,_,_,_,_,_,_,_,_,_,_,rfl⟩:=h.shape
 obtain ⟨j,o,-,-⟩:=h.both
 have b:=h.2.1
 obtain ⟨_,_,_,_,_,_,_,_,_,rfl,-,-,-⟩:=hl
 refine nG _ _ _ _ _ _ _ _ _ _ _ _ _ _ _ _ _ _ _ _ _ _ _ _ _ _ V _ fun p d=>(Li (j.le d) b).mono ?_
 rintro r V2 k g
 have m:=g
 obtain ⟨_,_,_,_,_,_,rfl,-,-⟩:=g
 refine ⟨_,_,_,_,_,_,rfl,fun q e=>(Li (a.le (d.trans (k.trans e))) hb).mono ?_⟩
 rintro r t n f
 have c:=f
 obtain ⟨_,_,_,_,_,_,rfl,-,-⟩:=f
 refine ⟨_,_,_,_,_,_,rfl,fun u i=>(AQ (m.le (e.trans (n.trans i))) (c.le i) (zR b).1 (zR b).2 (zR hb).1 (zR hb).2 (by omega)).mono ?_⟩
 rintro r w x rfl
 exact ⟨_,rfl,fun y z=>rfl⟩
theorem FO {i j:Nat}(hi:i<=1000000)(hj:j<=1000000):i64.wrap ((u64.wrap (i64.wrap ((i:Int)+(j:Int)))).fdiv (2^1))=(((i+j) / 2:Nat):Int):=by
 have a:i64.wrap ((i:Int)+(j:Int))=(i:Int)+(j:Int):=i64w (by omega)
 have b:u64.wrap ((i:Int)+(j:Int))=(i:Int)+(j:Int):=aH (by omega)
 have:((i:Int)+(j:Int)).fdiv (2^1)=(((i+j) / 2:Nat):Int):=by
  rw [Int.fdiv_eq_ediv_of_nonneg _ (by decide)]
  omega
 rw [a,b,this,i64w (by omega)]
theorem Fp {V:View}{lb n c:Nat}{vs:List Value}{r:List Sd}{lv:Value}{l:L3}(hw:V.w.heap[lb]?=some (.cells vs.toArray 193 (0,0)))(hx:V.X lb)(hr:Row 17 RSd V vs r)(hn:n=r.length)(hs:n<=1000000)(hl:RLi V lv l)(hb:Bd l)
  (asc:r.Pairwise fun s u=>Sec.ang (Sec.dirL s.1) (Sec.dirL u.1)<0) :
  Acts prog 168 #[.slice (some ⟨lb,0,none⟩) n c,lv,.func (.func 169) #[] #[]] V fun q V'=>∃(i:Nat)(b:Bool),q=.tuple #[.int .i64 i,.bool b]/\i<=n/\(∀v:Sp,kZ (l,v) r=r.take i++(l,v)::r.drop i) /\
   V'.w.heap[lb]?=some (.cells vs.toArray 193 (0,0)):=by
 have k:=hl
 subst hn
 obtain ⟨_,_,_,_,_,_,_,_,_,rfl,-,-,-⟩:=hl
 refine iC lb _ c vs _ _ _ _ _ _ _ _ _ V _ hw hx ⟨fun z V'=>∃i j:Nat,z.1=(i:Int)/\z.2=(j:Int)/\Bs r l i j,fun z=>z.2.toNat-z.1.toNat,⟨(0,(r.length:Int)),by and_intros<;>rfl,0,r.length,rfl,rfl,Bs.start r l⟩,?_⟩
 rintro ⟨W,Y⟩ H o ⟨i,j,D,E,f⟩
 dsimp only at D E
 subst D E
 have ble:=f.le
 have Z:=f.len
 have m:=hr.le (V':=H) fun _ _ g=>RSd.le g o
 refine ⟨rfl,fun a=>?_,fun a=>?_⟩
 ·have a:(i:Int)<(j:Int):=of_decide_eq_true a
  dsimp only
  rw [FO (by omega) (by omega)]
  have p:(i+j) / 2<j:=by omega
  have I:i<=(i+j) / 2:=by omega
  generalize (i+j) / 2=h at *
  have t:h<r.length:=by omega
  have w:i64.wrap ((h:Int)+1)=((h+1:Nat):Int):=by rw [i64w (by omega)];rfl
  rw [Int.toNat_natCast,w,Nat.zero_add]
  obtain ⟨J,K,L,M,N,O,P,Q,R,b1,b2,b3,b4,S,T,x,y,d⟩:=E3 m t
  refine ⟨by omega,⟨by omega,by omega⟩,_,_,_,_,_,_,_,_,_,_,_,_,_,_,_,_,_,⟨x,y⟩,fun V2 F=>(EC (d.le F) (k.le (o.trans F)) hb).mono ?_⟩
  rintro q V3 l3 rfl
  refine ⟨_,rfl,fun A=>⟨(((h+1:Nat):Int),(j:Int)),by dsimp only;omega,by and_intros<;>rfl,h+1,j,rfl,rfl,f.up asc p t (of_decide_eq_true A)⟩,fun A=>⟨((i:Int),(h:Int)),by dsimp only;omega,by and_intros<;>rfl,i,h,rfl,rfl,f.down I t (of_decide_eq_false A)⟩⟩
 ·have a:¬(i:Int)<(j:Int):=of_decide_eq_false a
  obtain rfl:i=j:=by omega
  dsimp only
  refine ⟨fun e=>?_,fun e V7 l7 B=>⟨i,false,rfl,by omega,fun v=>f.done v,B⟩⟩
  have e:(i:Int)<(r.length:Int):=of_decide_eq_true e
  have C:i<r.length:=by omega
  rw [Int.toNat_natCast,Nat.zero_add]
  obtain ⟨J,K,L,M,N,O,P,Q,R,b1,b2,b3,b4,S,T,x,y,d⟩:=E3 m C
  refine ⟨⟨by omega,by omega⟩,_,_,_,_,_,_,_,_,_,_,_,_,_,_,_,_,_,⟨x,y⟩,fun V4 G=>(EC (d.le G) (k.le (o.trans G)) hb).mono ?_⟩
  rintro q V5 l5 rfl
  exact ⟨_,rfl,fun V6 l6 U=>⟨i,_,rfl,by omega,fun v=>f.done v,U⟩⟩
theorem le_moved {V V':View}{P:Prop}{b:Nat}(l:V.Le V')(h:P->V.w.heap.size<=b\/V.H b):V.Le (V'.shut.hideG P b):=fun x o a=>by
 have c:=l x o a
 refine ⟨fun d=>d.elim c.1 ?_,c.2⟩
 rintro ⟨e,rfl,-⟩
 rcases h e with h|h
 ·have:=(Array.getElem?_eq_some_iff.1 a.2).1
  omega
 ·exact a.1 h
theorem FE {c:List Sd}{l:L3}{i:Nat}(hi:i<c.length):kI (c.take (i+1)) l=kI (c.take i) l++if c_ c[i].1 c[i].2 l=true then [(c[i].1,cH c[i].1 c[i].2 l)] else []:=by
 unfold kI
 rw [List.take_add_one,List.getElem?_eq_getElem hi,List.filterMap_append]
 congr 1
 show List.filterMap _ [c[i]]=_
 by_cases h:c_ c[i].1 c[i].2 l=true
 ·simp [h]
 ·simp [h]
theorem tN (c:List Sd)(l:L3):(kI c l).length<=c.length:=List.length_filterMap_le ..
theorem Dk {c:List Sd}{l:L3}{v:Sp}(h:bu c l fullSp=some v):clipC c l=some (kZ (l,v) (kI c l)):=by unfold clipC;rw [h]
theorem Dj {c:List Sd}{l:L3}(h:bu c l fullSp=none):clipC c l=if 0<cF c l then some c else none:=by unfold clipC;rw [h]
set_option maxHeartbeats 1000000 in
theorem c_Cell_Clip {V:View}{cp:OA}{cn cc:Nat}{c:List Sd}{lv:Value}{l:L3}(h:Lst 17 RSd V cp cn c)(hl:RLi V lv l)(hb:Bd l)(hn:c.length<=100000)(asc:c.Pairwise fun s u=>Sec.ang (Sec.dirL s.1) (Sec.dirL u.1)<0) :
  Acts prog 133 #[.slice cp cn cc,lv] V fun r V'=>∃q m e,r=.tuple #[.slice q m e,.bool (clipC c l).isSome]/\(∀c',clipC c l=some c'->Lst 17 RSd V' q m c'/\(cn<=cc->m<=e)):=by
 have f:=hl
 have h0:=h
 obtain rfl:=h.len
 obtain ⟨_,_,_,_,_,_,_,_,_,rfl,-,-,-⟩:=hl
 refine qp cp _ cc _ _ _ _ _ _ _ _ _ V _ fun V1 T=>(qJ (h.le T fun _ _ g=>RSd.le g T) (f.le T) hb (by omega)).mono ?_
 rintro r V2 l2 ⟨w,rfl,gv,sv⟩
 have UH:=gv
 obtain ⟨_,_,_,_,_,_,rfl,-,-⟩:=gv
 have I:=T.trans l2
 refine ⟨_,_,_,_,_,_,_,_,_,rfl,fun B V3 U=>(yK (h0.le (I.trans U) fun _ _ g=>RSd.le g (I.trans U)) (f.le (I.trans U)) hb (by omega)).mono ?_,fun B=>?_⟩
 ·have B:bu c l fullSp=none:=by simpa using B
  rintro r V4 l4 rfl
  have e1:NU c l=cF c l:=by unfold NU;rw [B];rfl
  have J:=Dj B
  refine ⟨_,rfl,fun V5 l5=>⟨cp,c.length,cc,?_,fun c' e=>?_⟩⟩
  ·rw [e1,J]
   by_cases W:0<cF c l
   ·rw [if_pos W,decide_eq_true W];rfl
   ·rw [if_neg W,decide_eq_false W];rfl
  ·rw [J] at e
   split at e
   ·cases e
    have L5:=I.trans (U.trans (l4.trans l5))
    exact ⟨h0.le L5 fun _ _ g=>RSd.le g L5,id⟩
   ·cases e
 have B:(bu c l fullSp).isSome=true:=by simpa using B
 obtain ⟨v,ev⟩:=Option.isSome_iff_exists.1 B
 rw [ev] at UH sv ⊢
 have J:=Dk ev
 have w1:i64.wrap ((c.length:Int)+1)=((c.length+1:Nat):Int):=by rw [i64w (by omega)];rfl
 rw [w1,Int.toNat_natCast]
 refine ⟨by omega,by omega,by omega,fun z V'=>∃i:Nat,z.2.2.2=(i:Int)/\i<=c.length/\GR 17 RSd V' z.1 z.2.1 z.2.2.1 (kI (c.take i) l)/\z.2.1≠0,fun z=>c.length-z.2.2.2.toNat,
  ⟨(0,c.length+1,nP (c.length+1) [.int .i64 0,.int .i64 0,.pointer none,.int .i64 0,.int .i64 0,.pointer none,.int .i64 0,.int .i64 0,.pointer none,.int .i64 0,.int .i64 0,.pointer none,.int .i64 0,.int .i64 0,.pointer none,.bool false,.bool false],0),by and_intros<;>first|rfl|omega,0,rfl,Nat.zero_le _,⟨rfl,Nat.zero_le _,?_,Row.nil⟩,by dsimp only;omega⟩,?_⟩
 ·show _<=(List.replicate (c.length+1) _).flatten.length
  rw [List.length_flatten,List.map_replicate,List.sum_replicate_nat]
  exact Nat.le_refl _
 rintro ⟨D,z2,vs,z4⟩ V6 l6 ⟨i,e4,c4,t,E⟩
 dsimp only at e4 t E
 subst e4
 have X:=I.trans l6
 have H:=t.len
 have F:=t.le
 have K:=t.cap
 try dsimp only at H F K
 have UG:=tN (c.take i) l
 rw [List.length_take] at UG
 refine ⟨rfl,fun j=>?_,fun j=>⟨fun d=>?_,fun d x Y bk g1 g2=>?_⟩⟩
 ·have j:(i:Int)<c.length:=of_decide_eq_true j
  have y:i<c.length:=by omega
  have w:i64.wrap ((i:Int)+1)=((i+1:Nat):Int):=by rw [i64w (by omega)];rfl
  dsimp only
  rw [Int.toNat_natCast,w]
  obtain ⟨ps,a1,a2,a3,a4,a5,a6,a7,a8,a9,b1,b2,b3,b4,b5,b6,a,ha,k0,Z,k2,k3,k4,k5,k6,k7,k8,k9,a0,b0,b7,b8,b9,c0,c1,hr⟩:=lst_rsd (h0.le X fun _ _ g=>RSd.le g X) y
  obtain ⟨rl,ri,-,-⟩:=hr.both
  have L:=hr.2
  have ct:=FE (l:=l) y
  generalize c[i]=S at *
  refine ⟨ps,⟨by omega,by omega⟩,_,_,_,_,_,_,_,_,_,_,_,_,_,_,_,_,_,a,ha,k0,Z,k2,k3,k4,k5,k6,k7,k8,k9,a0,b0,b7,b8,b9,c0,c1,fun V7 M=>(AO (rl.le M) (ri.le M) (f.le (X.trans M)) (k:=100000) (L.1.szl.up (by omega)) L.2 (hb.szl.up (by omega)) (by omega)).mono ?_⟩
  rintro r V8 l8 ⟨w8,rfl,g⟩
  have g0:=g
  obtain ⟨_,_,_,_,_,_,rfl,-,-⟩:=g
  have U8:=t.mono (V':=V8) fun _ _ g=>RSd.le g (M.trans l8)
  refine ⟨_,_,_,_,_,_,_,_,_,rfl,fun G=>⟨by omega,F,K,rfl,Ig,fun sp c' h1 h2=>⟨(D+1,c',_,((i+1:Nat):Int)),by dsimp only;omega,by and_intros<;>rfl,i+1,rfl,y,?_,by dsimp only;omega⟩⟩,fun G=>⟨(D,z2,vs,((i+1:Nat):Int)),by dsimp only;omega,by and_intros<;>rfl,i+1,rfl,y,?_,E⟩⟩
  ·have G:c_ S.1 S.2 l=true:=G
   dsimp only
   rw [ct,if_pos G]
   exact U8.snoc (a:=(S.1,cH S.1 S.2 l)) rfl ⟨⟨_,_,_,_,_,_,_,_,_,_,_,_,_,_,_,rfl,rl.le (M.trans l8),g0⟩,L.1,E_ L.1.szl hb.szl L.2 (by omega)⟩ (by decide) h1 h2
  ·have G:¬c_ S.1 S.2 l=true:=by rw [show c_ S.1 S.2 l=false from G];exact Bool.false_ne_true
   dsimp only
   rw [ct,if_neg G,List.append_nil]
   exact U8
 ·have d:vs=[]:=d
  rw [d] at K
  simp at K
  omega
 have j:¬(i:Int)<c.length:=of_decide_eq_false j
 obtain rfl:i=c.length:=by omega
 rw [List.take_length] at t H
 have UG:=tN c l
 have d:vs≠[]:=d
 have K_:∀b,mA b z2=some ⟨b,0,none⟩:=fun b=>by unfold mA;rw [if_neg E]
 dsimp only
 rw [K_]
 have GH:=X.trans Y
 refine (Fp (V:=x.lend [vb vs x.w.heap.size bk]) (r:=kI c l) (l:=l) (g1 d) ⟨by simp [vb_ne d],g2 d⟩ (t.row.le fun _ _ g=>RSd.le g fun b o h=>Y b o h) H (by omega) (RLi.le (V:=V) (V':=x.lend _) f fun b o h=>GH b o h) hb (A7 asc)).mono ?_
 rintro r c5 cX ⟨at_,fb,rfl,c2,N,e5⟩
 refine ⟨_,_,rfl,d,vs,d,e5,fun C cY A O Z k2 k3 k4 k5=>?_⟩
 rw [K_]
 have p:x.Le C:=fun b o h=>cY b o (cX b o h)
 have c6:C.w.heap.size>A:=(Array.getElem?_eq_some_iff.1 (Z d)).1
 have Mt:Row 17 RSd C vs (kI c l):=t.row.le fun _ _ g=>RSd.le g (Y.trans p)
 have Q:∀u∈(vs.take (D*17)).drop (at_*17),u.oneCell'=true:=fun u hu=>by
  obtain ⟨m,hm,e⟩:=List.mem_iff_getElem.1 (List.mem_of_mem_drop hu)
  have R:m<(kI c l).length*17:=by rw [List.length_take,H] at hm;omega
  have:=List.getElem?_eq_getElem hm
  rw [e,List.getElem?_take,if_pos (by rw [H];exact R)] at this
  exact row_one_cell t.row (by decide) (fun xs _=>Kv xs) R this
 refine (G5 (V:=C.lend [vb vs C.w.heap.size A,O]) (ob:=A) (vb:=O) (n:=D) (c:=z2) (i:=at_) (vs:=vs) (xs:=[_,_,_,_,_,_,_,_,_,_,_,_,_,_,_,_,_]) (Z d) ⟨by simp [vb_ne d],k2 d⟩ k3 (k5 d) c2 F (by omega) K rfl Q Ig).mono ?_
 rintro r nQ cN ⟨q,c',sp,rfl,f1,f2,f3,f4,f5⟩
 have c3:C.w.heap.size<=q\/(vs≠[]/\q=A):=f2.imp id fun e=>⟨d,e⟩
 refine ⟨q,_,fun _=>f1,fun _=>c3,some ⟨q,0,none⟩,D+1,c',?_,_,_,_,_,_,_,_,_,_,_,_,_,_,_,_,_,_,f5,fun qG dU NJ m1=>⟨mA NJ c',D+1,c',?_,fun c7 e=>?_⟩⟩
 ·unfold mA;rw [if_neg (by omega)]
 ·rw [J];rfl
 ·rw [J] at e
  obtain rfl:=Option.some.inj e
  have qW:C.Le qG:=fun b o hx=>dU b o (le_moved (V:=C.lend _) (V':=nQ) (P:=_) (b:=q) cN (fun _=>f2.elim .inl fun e=>.inr (by rw [e];exact k2 d)) b o hx)
  have hR:=uP (sp:=sp) (Mt.le fun _ _ g=>RSd.le g qW) (k:=at_) (by omega) (xs:=[_,_,_,_,_,_,_,_,_,_,_,_,_,_,_,_,_]) (a:=(l,v)) rfl ⟨⟨_,_,_,_,_,_,_,_,_,_,_,_,_,_,_,rfl,f.le (GH.trans (p.trans qW)),UH.le (l6.trans (Y.trans (p.trans qW)))⟩,hb,sv⟩ (by decide)
  rw [N v]
  have hlen:D+1=((kI c l).take at_++(l,v)::(kI c l).drop at_).length:=by
   rw [List.length_append,List.length_cons,List.length_take,List.length_drop];omega
  rw [hlen]
  rw [←H] at hR
  exact ⟨Lst.of_mrow m1 hR (by decide) (by rw [←hlen];exact f3),fun _=>by rw [←hlen];exact f3⟩
def QL (k:Nat)(V:View)(v:Value)(c:Rat×Rat):Prop:=RPt V v c.1 c.2/\Sz k c.1/\Sz k c.2
theorem QL.le {k:Nat}{V V':View}{v:Value}{c:Rat×Rat}(h:QL k V v c)(l:V.Le V'):QL k V' v c:=⟨h.1.le l,h.2⟩
def RLv (V:View)(v:Value)(l:L3):Prop:=RL V v l.1 l.2.1 l.2.2
theorem RLv.le {V V':View}{v:Value}{l:L3}(h:RLv V v l)(e:V.Le V'):RLv V' v l:=RL.le h e
theorem rlv_shape {V:View}{v:Value}{l:L3}(h:RLv V v l):∃(b1:Bool)(p1:OA)(n1 c1:Nat)(b2:Bool)(p2:OA)(n2 c2:Nat)(b3:Bool)(p3:OA)(n3 c3:Nat),v=.agg #[.bool b1,.slice p1 n1 c1,.bool b2,.slice p2 n2 c2,.bool b3,.slice p3 n3 c3]:=by
 obtain ⟨_,_,_,_,_,_,_,_,_,e,-⟩:=h;exact ⟨_,_,_,_,_,_,_,_,_,_,_,_,e⟩
theorem zJ {V:View}{xs:List Value}{l:L3}(h:RLv V (.agg (List.toArray xs)) l):∀v∈xs,v.oneCell'=true:=by
 obtain ⟨_,_,_,_,_,_,_,_,_,_,_,_,e⟩:=rlv_shape h
 have e:=congrArg Array.toList (Value.agg.inj e)
 dsimp only at e
 subst e
 intro v hm
 simp only [List.mem_cons,List.not_mem_nil,or_false] at hm
 rcases hm with rfl|rfl|rfl|rfl|rfl|rfl<;>rfl
theorem one6 {b:Bool}{p:OA}{n c:Nat}{b':Bool}{p':OA}{n' c':Nat}{b'':Bool}{p'':OA}{n'' c'':Nat}:∀v∈([.bool b,.slice p n c,.bool b',.slice p' n' c',.bool b'',.slice p'' n'' c'']:List Value),v.oneCell'=true:=by
 intro v hm
 simp only [List.mem_cons,List.not_mem_nil,or_false] at hm
 rcases hm with rfl|rfl|rfl|rfl|rfl|rfl<;>rfl
theorem jf:∀(t:Tr) {V:View} {p:OA},RW V p t->t.size<=1000000->Acts prog 86 #[.pointer p] V fun r V'=>∃q n c,r=.slice q n c/\Lst 6 RLv V' q n t.vM
 | .leaf i,V,p,h,hs=>by
  obtain ⟨s,e0,-⟩:=Kw h
  exact lS p V _ ⟨s,s,_,e0,fun _ V1 l1=>⟨_,_,_,rfl,Lst.nil⟩,(fun h=>nomatch h)⟩
 | .node ln a b,V,p,h,hs=>by
  have h0:=h
  obtain ⟨k,i,b1,l,o,u,b2,w,x,y,b3,z,A,B,pl,M,rfl,hb,W,X,C⟩:=h
  have D:∀j v,([.bool false,.bool i,.bool b1,.slice l o u,.bool b2,.slice w x y,.bool b3,.slice z A B,.pointer pl,.pointer M]:List Value)[j]?=some v->V.at ((⟨k,0,none⟩:Addr).add j) v:=by
   intro j v e;rw [add_zero'];exact blk_at (xs:=[_,_,_,_,_,_,_,_,_,_]) hb e
  have d:∀j v,([.bool b1,.slice l o u,.bool b2,.slice w x y,.bool b3,.slice z A B]:List Value)[j]?=some v->V.at (((⟨k,0,none⟩:Addr).add 2).add j) v:=by
   intro j v e
   rw [addadd]
   refine D (2+j) v ?_
   have Y:j<6:=(List.getElem?_eq_some_iff.1 e).1
   match j,Y,e with
   | 0,_,h=>exact h
   | 1,_,h=>exact h
   | 2,_,h=>exact h
   | 3,_,h=>exact h
   | 4,_,h=>exact h
   | 5,_,h=>exact h
  simp only [Tr.size] at hs
  have la:=mg a
  have lb:=mg b
  refine lS _ V _ ⟨rfl,rfl,false,rdc hb 0 rfl,(fun h=>nomatch h),fun _=>⟨rfl,rfl,_,_,_,_,_,_,_,_,_,_,_,_,(⟨k,0,none⟩:Addr).add 2,rfl,d 0 _ rfl,d 1 _ rfl,d 2 _ rfl,d 3 _ rfl,d 4 _ rfl,d 5 _ rfl,rfl,rfl,pl,rdc hb 8 rfl,rfl,rfl,M,rdc hb 9 rfl,fun V2 E=>(jf a (X.le E) (by omega)).mono ?_⟩⟩
  rintro r Z N ⟨q,n,c,rfl,g⟩
  obtain rfl:=g.len
  obtain ⟨xs,x1,F,O⟩:=lst_cells g (by decide)
  have oc:∀v∈xs,v.oneCell'=true:=fun v e=>by
   obtain ⟨m,hm,rfl⟩:=List.mem_iff_getElem.1 e
   exact row_one_cell O (by decide) (fun _ _=>zJ) (by omega) (List.getElem?_eq_getElem hm)
  have r1:Row 6 RLv Z ([.bool b1,.slice l o u,.bool b2,.slice w x y,.bool b3,.slice z A B]:List Value) [ln]:=row_one rfl (W.le (E.trans N))
  refine ⟨_,_,_,rfl,xs,x1,F,by omega,Nat.le_refl _,Nat.le_refl 6,F,oc,fun bk J sp c' h1 h2 V4 G=>(jf b (C.le (E.trans (N.trans G))) (by omega)).mono ?_⟩
  rintro r V5 P ⟨q',n',a0,rfl,Q⟩
  obtain rfl:=Q.len
  obtain ⟨R,y1,S,H⟩:=lst_cells Q (by decide)
  have X7:∀v∈R,v.oneCell'=true:=fun v e=>by
   obtain ⟨m,hm,rfl⟩:=List.mem_iff_getElem.1 e
   exact row_one_cell H (by decide) (fun _ _=>zJ) (by omega) (List.getElem?_eq_getElem hm)
  have T:=row_append (sp:=sp) r1 O (by decide)
  have f:([ln]++a.vM).length=1+a.vM.length:=by simp;omega
  have r3:=row_append (sp:=[]) (T.le fun _ _ g=>RLv.le g (G.trans P)) H (by decide)
  rw [f] at r3
  refine ⟨_,_,_,rfl,R,y1,S,by omega,h1,?_,S,X7,fun a1 J2 I a2 h3 h4 V6 l6 NJ K=>⟨_,_,_,rfl,?_⟩⟩
  ·simp only [List.length_append,List.length_take,List.length_cons,List.length_nil,F]
   omega
  ·have U:=row_append (sp:=I) (T.le fun _ _ g=>RLv.le g (G.trans P)) H (by decide)
   rw [f] at U
   have:=Lst.DN K (U.le fun _ _ g=>RLv.le g l6)
   have L:([ln]++a.vM++b.vM).length=1+a.vM.length+b.vM.length:=by rw [List.length_append,f]
   rw [L] at this
   exact this
theorem J7 {V:View}{p:OA}{n:Nat}{al:List L3}(h:Lst 9 yy V p n al){i:Nat}(hi:i<al.length) :
  p.isSome=true/\∃(x1 x2:Int)(q1:OA)(y1 y2:Int)(q2:OA)(z1 z2:Int)(q3:OA)(a:Addr),addrAdd p (i*9)=some a/\V.at (a.add 0) (.int .i64 x1)/\V.at (a.add 1) (.int .i64 x2)/\V.at (a.add 2) (.pointer q1)/\V.at (a.add 3) (.int .i64 y1)/\V.at (a.add 4) (.int .i64 y2)/\V.at (a.add 5) (.pointer q2)/\V.at (a.add 6) (.int .i64 z1)/\V.at (a.add 7) (.int .i64 z2)/\V.at (a.add 8) (.pointer q3) /\
   yy V (.agg #[.int .i64 x1,.int .i64 x2,.pointer q1,.int .i64 y1,.int .i64 y2,.pointer q2,.int .i64 z1,.int .i64 z2,.pointer q3]) al[i]:=by
 obtain ⟨g,d,xs,j,f,b⟩:=h.at_ i hi
 have c:=f
 obtain ⟨_,_,_,_,_,_,_,_,_,e⟩:=f.shape
 have e:=congrArg Array.toList (Value.agg.inj e)
 dsimp only at e
 subst e
 refine ⟨?_,_,_,_,_,_,_,_,_,_,g,d,b 0 _ rfl,b 1 _ rfl,b 2 _ rfl,b 3 _ rfl,b 4 _ rfl,b 5 _ rfl,b 6 _ rfl,b 7 _ rfl,b 8 _ rfl,c⟩
 cases p with
 | none=>cases d
 | some a=>rfl
theorem PC {x1 x2:Int}{q1:OA}{y1 y2:Int}{q2:OA}{z1 z2:Int}{q3:OA}:∀v∈([.int .i64 x1,.int .i64 x2,.pointer q1,.int .i64 y1,.int .i64 y2,.pointer q2,.int .i64 z1,.int .i64 z2,.pointer q3]:List Value),v.oneCell'=true:=by
 intro v hm
 simp only [List.mem_cons,List.not_mem_nil,or_false] at hm
 rcases hm with rfl|rfl|rfl|rfl|rfl|rfl|rfl|rfl|rfl<;>rfl
theorem Gf {V:View}{v:Value}{l:L3}(h:At V v l):∃(b1:Bool)(p1:OA)(n1 c1:Nat)(b2:Bool)(p2:OA)(n2 c2:Nat)(b3:Bool)(p3:OA)(n3 c3:Nat),v=.agg #[.bool b1,.slice p1 n1 c1,.bool b2,.slice p2 n2 c2,.bool b3,.slice p3 n3 c3]:=by
 rcases h with h|⟨-,b1,p,n,c,xs,b2,q,m,a,d,b3,s,i,j,e,b,-⟩
 ·exact rlv_shape h
 ·exact ⟨b1,p,n,c,b2,q,m,a,b3,s,i,j,b⟩
theorem J8 {V:View}{p:OA}{n:Nat}{al:List L3}(h:Lst 6 At V p n al){i:Nat}(hi:i<al.length) :
  p.isSome=true/\∃(b1:Bool)(p1:OA)(n1 c1:Nat)(b2:Bool)(p2:OA)(n2 c2:Nat)(b3:Bool)(p3:OA)(n3 c3:Nat)(a:Addr),addrAdd p (i*6)=some a/\V.at (a.add 0) (.bool b1)/\V.at (a.add 1) (.slice p1 n1 c1)/\V.at (a.add 2) (.bool b2)/\V.at (a.add 3) (.slice p2 n2 c2)/\V.at (a.add 4) (.bool b3)/\V.at (a.add 5) (.slice p3 n3 c3) /\
   At V (.agg #[.bool b1,.slice p1 n1 c1,.bool b2,.slice p2 n2 c2,.bool b3,.slice p3 n3 c3]) al[i]:=by
 obtain ⟨g,d,xs,j,f,b⟩:=h.at_ i hi
 have c:=f
 obtain ⟨_,_,_,_,_,_,_,_,_,_,_,_,e⟩:=Gf f
 have e:=congrArg Array.toList (Value.agg.inj e)
 dsimp only at e
 subst e
 refine ⟨?_,_,_,_,_,_,_,_,_,_,_,_,_,g,d,b 0 _ rfl,b 1 _ rfl,b 2 _ rfl,b 3 _ rfl,b 4 _ rfl,b 5 _ rfl,c⟩
 cases p with
 | none=>cases d
 | some a=>rfl
def zm (ls:List L3):Bool:=decide (ls.length<=1024)&&ls.all okL
theorem Fq {V:View}{p:OA}{n c:Nat}{ls:List L3}(h:Lst 6 At V p n ls)(hb:∀l∈ls,Bd l) :
  Acts prog 87 #[.agg #[.slice p n c]] V fun r V'=>∃q m e,r=.tuple #[.slice q m e,.bool (zm ls)]/\(zm ls=true->Lst 9 yy V' q m ls):=by
 obtain rfl:=h.len
 refine vk p _ c V _ ⟨fun o T U=>?_,fun o=>⟨fun z V'=>∃i:Nat,z.2.2.2=(i:Int)/\i<=ls.length/\GR 9 yy V' z.1 z.2.1 z.2.2.1 (ls.take i)/\(ls.take i).all okL=true,fun z=>ls.length-z.2.2.2.toNat,⟨(0,0,[],0),by and_intros<;>rfl,0,rfl,Nat.zero_le _,GR.nil,rfl⟩,?_⟩⟩
 ·have o:¬ls.length<=1024:=by have:=of_decide_eq_true o;omega
  have e:zm ls=false:=by unfold zm;rw [decide_eq_false o];rfl
  rw [e]
  exact ⟨_,_,_,rfl,fun h=>by cases h⟩
 have hle:ls.length<=1024:=by have:=of_decide_eq_false o;omega
 have x:zm ls=ls.all okL:=by unfold zm;rw [decide_eq_true hle];rfl
 rintro ⟨D,W,X,Y⟩ V2 y ⟨i,A,E,b,d⟩
 dsimp only at A b
 subst A
 have F:=b.len
 rw [List.length_take] at F
 refine ⟨rfl,fun f=>?_,fun f Z G bk s=>?_⟩
 ·have f:(i:Int)<ls.length:=of_decide_eq_true f
  have k:i<ls.length:=by omega
  have w:i64.wrap ((i:Int)+1)=((i+1:Nat):Int):=by rw [i64w (by omega)];rfl
  dsimp only
  rw [Int.toNat_natCast,w]
  obtain ⟨is,b1,p1,n1,c1,b2,p2,n2,c2,b3,p3,n3,c3,a,t,H,I,J,K,L,M,u⟩:=J8 (h.le y fun _ _ g=>At.le g y) k
  have B:=hb _ (List.getElem_mem k)
  refine ⟨is,⟨by omega,by omega⟩,_,_,_,_,_,_,_,_,_,_,_,_,a,t,H,I,J,K,L,M,fun V3 C=>(nX (u.le C) B).mono ?_⟩
  rintro r N O ⟨w4,rfl,⟨_,_,_,_,_,_,_,_,_,rfl⟩,v⟩
  have P:(ls.take (i+1)).all okL=okL ls[i]:=by rw [List.take_add_one,List.getElem?_eq_getElem k,List.all_append,d];simp
  refine ⟨_,_,_,_,_,_,_,_,_,_,rfl,fun j V5 l5=>?_,fun j=>⟨by omega,b.le,b.cap,rfl,PC,fun sp Q R S=>⟨(D+1,Q,_,((i+1:Nat):Int)),by dsimp only;omega,by and_intros<;>rfl,i+1,rfl,k,?_,?_⟩⟩⟩
  ·have j:okL ls[i]=false:=by simpa using j
   have e:ls.all okL=false:=by
    rw [List.all_eq_false]
    exact ⟨_,List.getElem_mem k,by rw [j];exact Bool.false_ne_true⟩
   rw [x,e]
   exact ⟨_,_,_,rfl,fun h=>by cases h⟩
  ·have j:okL ls[i]=true:=by simpa using j
   dsimp only
   rw [List.take_add_one,List.getElem?_eq_getElem k]
   exact (b.mono (V':=N) fun _ _ g=>yy.le g (C.trans O)).snoc rfl ⟨v j,B⟩ (by decide) R S
  ·rw [P];simpa using j
 ·have f:¬(i:Int)<ls.length:=of_decide_eq_false f
  obtain rfl:i=ls.length:=by omega
  rw [List.take_length] at b d
  rw [x,d]
  obtain rfl:=b.len
  exact ⟨_,_,_,rfl,fun _=>Lst.of_mrow s (b.row.le fun _ _ g=>yy.le g G) (by decide) b.le⟩
theorem Bx (x:Sd):∀r:List Sd,(kZ x r).length=r.length+1
 | []=>rfl
 | s::r=>by
  unfold kZ
  split
  ·rw [List.length_cons,Bx x r,List.length_cons]
  ·rfl
theorem clipC_len {c c':List Sd}{l:L3}(e:clipC c l=some c'):c'.length<=c.length+1:=by
 unfold clipC at e
 split at e
 ·cases e
  rw [Bx]
  have:=tN c l
  omega
 ·split at e
  ·cases e;omega
  ·cases e
theorem A3 (l:L3)(r M:List L3)(c:List Sd):bj (l::r) M c=match clipC c l with|some c'=>bj r (l::M) c'|none=>none:=rfl
theorem yO {V:View}{p:OA}{n c:Nat}{ls:List L3}(h:Lst 9 yy V p n ls)(ho:∀l∈ls,okL l=true)(hn:ls.length<=2000) :
  Acts prog 88 #[.slice p n c] V fun r V'=>∃q m e,r=.tuple #[.slice q m e,.bool (bj ls [] []).isSome]/\(bj ls [] []=none->r=.tuple #[.slice none 0 0,.bool false])/\(∀c',bj ls [] []=some c'->Lst 17 RSd V' q m c'/\m<=e):=by
 obtain rfl:=h.len
 refine z_ p _ c V _ ⟨fun z V'=>∃(i:Nat)(M:List L3)(cs:List Sd),z.2.2.2.2=(i:Int)/\i<=ls.length/\z.2.2.2.1=true/\bj ls [] []=bj (ls.drop i) M cs/\CanC M cs/\(∀m∈M,okL m=true)/\cs.length<=i/\Lst 17 RSd V' z.1 z.2.1 cs/\z.2.1<=z.2.2.1,fun z=>ls.length-z.2.2.2.2.toNat,
  ⟨(none,0,0,true,0),by and_intros<;>rfl,0,[],[],rfl,Nat.zero_le _,rfl,rfl,CanC.nil,(fun m hm=>by cases hm),Nat.le_refl _,Lst.nil,Nat.le_refl _⟩,?_⟩
 rintro ⟨G,H,I,X,Y⟩ Z y ⟨i,M,cs,A,J,B,b,C,D,K,u,d⟩
 dsimp only at A B u d
 subst A B
 refine ⟨rfl,fun f=>?_,fun f=>⟨(fun j=>by cases j),fun _ V7 E=>?_⟩⟩
 ·have f:(i:Int)<ls.length:=of_decide_eq_true f
  have t:i<ls.length:=by omega
  have w:i64.wrap ((i:Int)+1)=((i+1:Nat):Int):=by rw [i64w (by omega)];rfl
  dsimp only
  rw [Int.toNat_natCast,w]
  obtain ⟨is,x1,x2,q1,y1,y2,q2,z1,z2,q3,a,v,L,N,O,P,Q,R,S,T,U,k⟩:=J7 (h.le y fun _ _ g=>yy.le g y) t
  have ok:=ho _ (List.getElem_mem t)
  have W:ls.drop i=ls[i]::ls.drop (i+1):=List.drop_eq_getElem_cons t
  rw [W,A3] at b
  refine ⟨is,⟨by omega,by omega⟩,_,_,_,_,_,_,_,_,_,a,v,L,N,O,P,Q,R,S,T,U,fun V2 x=>(c_Cell_Clip (u.le x fun _ _ g=>RSd.le g x) (k.le x).1 k.2 (by omega) C.asc).mono ?_⟩
  rintro r V3 l3 ⟨q,m,e,rfl,F⟩
  refine ⟨_,_,_,_,rfl,fun j=>⟨fun _ V4 l4=>?_,fun o=>by rw [j] at o;cases o⟩,fun j=>?_⟩
  ·have j:clipC cs ls[i]=none:=by simpa using j
   rw [j] at b
   have b:bj ls [] []=none:=b
   rw [b]
   exact ⟨none,0,0,rfl,fun _=>rfl,fun c' e=>by cases e⟩
  ·have j:(clipC cs ls[i]).isSome=true:=by simpa using j
   obtain ⟨c',s⟩:=Option.isSome_iff_exists.1 j
   rw [s] at b
   have b:bj ls [] []=bj (ls.drop (i+1)) (ls[i]::M) c':=b
   refine ⟨(q,m,e,(clipC cs ls[i]).isSome,((i+1:Nat):Int)),by dsimp only;omega,by and_intros<;>rfl,i+1,ls[i]::M,c',rfl,t,j,b,(clip_ok C D ok).1 c' s,List.forall_mem_cons.2 ⟨ok,D⟩,?_,(F c' s).1,(F c' s).2 d⟩
   have:=clipC_len s
   omega
 ·have f:¬(i:Int)<ls.length:=of_decide_eq_false f
  obtain rfl:i=ls.length:=by omega
  rw [List.drop_length] at b
  have b:bj ls [] []=some cs:=b
  rw [b]
  refine ⟨G,H,I,rfl,(fun h=>by cases h),fun c' e=>?_⟩
  cases e
  exact ⟨u.le E fun _ _ g=>RSd.le g E,d⟩
theorem c_Cell_API {V:View}{p:OA}{n c:Nat}{cs:List Sd}(h:Lst 17 RSd V p n cs)(hn:cs.length<=100000) :
  Acts prog 41 #[.slice p n c] V fun r V'=>∃q m e,r=.agg #[.slice q m e]/\Lst 6 RLv V' q m (cs.map Prod.fst)/\m<=e:=by
 obtain rfl:=h.len
 refine sf p _ c V _ ⟨fun z V'=>∃j:Nat,z.1=(j:Int)/\j<=cs.length/\GR 6 RLv V' z.2.1 z.2.2.1 z.2.2.2 ((cs.map Prod.fst).take j),fun z=>cs.length-z.1.toNat,⟨(0,0,0,[]),by and_intros<;>rfl,0,rfl,Nat.zero_le _,GR.nil⟩,?_⟩
 rintro ⟨z1,D,z3,vs⟩ V1 v ⟨j,x,E,d⟩
 dsimp only at x d
 subst x
 have F:=d.len
 rw [List.length_take,List.length_map] at F
 refine ⟨rfl,fun b=>?_,fun b V4 G bk hb=>?_⟩
 ·have b:(j:Int)<cs.length:=of_decide_eq_true b
  have f:j<cs.length:=by omega
  have w:i64.wrap ((j:Int)+1)=((j+1:Nat):Int):=by rw [i64w (by omega)];rfl
  dsimp only
  rw [Int.toNat_natCast,w]
  obtain ⟨H,a1,a2,a3,a4,a5,a6,a7,a8,a9,b1,b2,b3,b4,b5,b6,a,I,J,K,L,M,N,O,P,Q,R,S,i,k,l,o,s,t,u,y⟩:=lst_rsd (h.le v fun _ _ g=>RSd.le g v) f
  obtain ⟨T,ri,-,-⟩:=y.both
  obtain ⟨s1,s2,s3⟩:=y.2.1.sz
  refine ⟨H,⟨by omega,by omega⟩,_,_,_,_,_,_,_,_,_,_,_,_,_,_,_,_,_,a,I,J,K,L,M,N,O,P,Q,R,S,i,k,l,o,s,t,u,fun V2 A=>(Ft (T.le A) s1 s2 s3 (by omega)).mono ?_⟩
  rintro r B U W
  have C:RLv B r cs[j].1:=RLi.api W
  obtain ⟨_,_,_,_,_,_,_,_,_,_,_,_,rfl⟩:=rlv_shape C
  refine ⟨_,_,_,_,_,_,_,_,_,_,_,_,rfl,by omega,d.le,d.cap,rfl,one6,fun sp X Y Z=>⟨(((j+1:Nat):Int),D+1,X,_),by dsimp only;omega,by and_intros<;>rfl,j+1,rfl,f,?_⟩⟩
  dsimp only
  rw [List.take_add_one,List.getElem?_map,List.getElem?_eq_getElem f]
  exact (d.mono (V':=B) fun _ _ g=>RLv.le g (A.trans U)).snoc rfl C (by decide) Y Z
 ·have b:¬(j:Int)<cs.length:=of_decide_eq_false b
  obtain rfl:j=cs.length:=by omega
  rw [List.take_of_length_le (by rw [List.length_map];exact Nat.le_refl _)] at d
  obtain rfl:=d.len
  exact ⟨_,_,_,rfl,Lst.of_mrow hb (d.row.le fun _ _ g=>RLv.le g G) (by decide) d.le,d.le⟩
def Jb (ls:List L3)(bad Vw:Prop)(some_:List Sd->Prop):Prop:=(zm ls=false/\bad)\/(zm ls=true/\bj ls [] []=none/\Vw)\/(zm ls=true/\∃c,bj ls [] []=some c/\some_ c)
theorem Jb.bad {ls:List L3}{p q:Prop}{s:List Sd->Prop}(h:Jb ls p q s)(e:zm ls=false):p:=by
 rcases h with ⟨-,h⟩|⟨h,-⟩|⟨h,-⟩
 ·exact h
 ·rw [e] at h;cases h
 ·rw [e] at h;cases h
theorem Jb.Vw {ls:List L3}{p q:Prop}{s:List Sd->Prop}(h:Jb ls p q s)(e:zm ls=true)(e':bj ls [] []=none):q:=by
 rcases h with ⟨h,-⟩|⟨-,-,h⟩|⟨-,c,h,-⟩
 ·rw [e] at h;cases h
 ·exact h
 ·rw [e'] at h;cases h
theorem Jb.some {ls:List L3}{p q:Prop}{s:List Sd->Prop}{c:List Sd}(h:Jb ls p q s)(e:zm ls=true)(e':bj ls [] []=Option.some c):s c:=by
 rcases h with ⟨h,-⟩|⟨-,h,-⟩|⟨-,b,h,a⟩
 ·rw [e] at h;cases h
 ·rw [e'] at h;cases h
 ·rw [e'] at h;cases h;exact a
theorem Jb.imp {ls:List L3}{p q p' q':Prop}{s s':List Sd->Prop}(h:Jb ls p q s)(hp:p->p')(hq:q->q')(hs:∀c,bj ls [] []=Option.some c->s c->s' c):Jb ls p' q' s':=by
 rcases h with ⟨h,a⟩|⟨h,b,a⟩|⟨h,c,b,a⟩
 ·exact .inl ⟨h,hp a⟩
 ·exact .inr (.inl ⟨h,b,hq a⟩)
 ·exact .inr (.inr ⟨h,c,b,hs c b a⟩)
theorem zo {ls:List L3}(h:zm ls=true):ls.length<=1024/\∀l∈ls,okL l=true:=by
 unfold zm at h
 rw [Bool.and_eq_true,decide_eq_true_eq,List.all_eq_true] at h
 exact h
theorem MQ {ls:List L3}(h:ls.length<=1024)(h':∀l∈ls,okL l=true):zm ls=true:=by
 unfold zm
 rw [decide_eq_true h,List.all_eq_true.2 h'];rfl
theorem xJ:∀{ls M:List L3} {c c':List Sd},bj ls M c=some c'->c'.length<=c.length+ls.length
 | [],_,_,_,e=>by cases e;simp
 | l::r,M,c,c',e=>by
  unfold bj at e
  cases h:clipC c l with
  | none=>rw [h] at e;cases e
  | some c1=>
   rw [h] at e
   have:=xJ e
   have:=clipC_len h
   rw [List.length_cons];omega
theorem Di {ls:List L3}{c:List Sd}(e:bj ls [] []=some c)(h:zm ls=true):c.length<=100000:=by
 have:=xJ e
 have:=(zo h).1
 rw [List.length_nil] at *
 omega
def GJ (V:View)(v:Value)(c:Rat×Rat):Prop:=KS V v c.1 c.2
theorem GJ.le {V V':View}{v:Value}{c:Rat×Rat}(h:GJ V v c)(l:V.Le V'):GJ V' v c:=KS.le h l
def jG (x:L3):List L3->List L3
 | []=>[x]
 | y::r=>if mW y x<0 then y::jG x r else if y=x then y::r else x::y::r
theorem JR {x:L3}:∀(o:List L3)(k:Nat),k<=o.length->(∀j (h:j<o.length),j<k->mW o[j] x<0)->(∀h:k<o.length,¬mW o[k] x<0) ->
  jG x o=if (∃h:k<o.length,o[k]=x) then o else o.take k++x::o.drop k:=by
 intro o
 induction o with
 | nil=>
  intro k hk _ _
  obtain rfl:k=0:=by simpa using hk
  simp [jG]
 | cons y r ih=>
  intro k hk a b
  cases k with
  | zero=>
   have f:¬mW y x<0:=b (by simp)
   unfold jG
   rw [if_neg f]
   by_cases e:y=x
   ·rw [if_pos e,if_pos ⟨by simp,e⟩]
   ·rw [if_neg e,if_neg (by rintro ⟨_,h⟩;exact e h)]
    rfl
  | succ k=>
   have f:mW y x<0:=a 0 (by simp) (by omega)
   unfold jG
   rw [if_pos f,ih k (by simpa using hk) (fun j h g=>a (j+1) (by simpa using h) (by omega)) (fun h=>b (by simpa using h))]
   by_cases e:∃h:k<r.length,r[k]=x
   ·obtain ⟨c,d⟩:=e
    rw [if_pos ⟨c,d⟩,if_pos ⟨by simpa using c,d⟩]
   ·rw [if_neg e,if_neg (by rintro ⟨c,d⟩;exact e ⟨by simpa using c,d⟩)]
    rfl
def dS (l:List L3):List L3:=l.foldl (fun o x=>jG (cP x) o) []
theorem Dp {l:List L3}{i:Nat}(h:i<l.length):dS (l.take (i+1))=jG (cP l[i]) (dS (l.take i)):=by
 unfold dS
 rw [List.take_add_one,List.getElem?_eq_getElem h,List.foldl_append]
 rfl
theorem BB (x:L3):∀o:List L3,(jG x o).length<=o.length+1
 | []=>by simp [jG]
 | y::r=>by
  have:=BB x r
  unfold jG
  split
  ·simp;omega
  ·split<;>simp
theorem xM (l:List L3):(dS l).length<=l.length:=by
 have:∀(l o:List L3),(l.foldl (fun o x=>jG (cP x) o) o).length<=o.length+l.length:=by
  intro l
  induction l with
  | nil=>intro o;simp
  | cons x r ih=>
   intro o
   have a:=ih (jG (cP x) o)
   have b:=BB (cP x) o
   simp only [List.foldl_cons,List.length_cons]
   omega
 have:=this l []
 simpa [dS] using this
def FX (a b:L3):Prop:=mW a b<0
theorem Pk {a b c:L3}(h:FX a b)(h':FX b c):FX a c:=by unfold FX at *;rw [EG] at *;omega
theorem Pj {a b:L3}(h:¬FX a b)(hne:a≠b):FX b a:=by
 have:¬(a.1=b.1/\a.2.1=b.2.1/\a.2.2=b.2.2):=fun ⟨c,d,e⟩=>hne (Prod.ext c (Prod.ext d e))
 unfold FX at *
 rw [EG] at *
 omega
theorem uf {x y:L3}:∀{o:List L3},y∈jG x o↔y=x\/y∈o
 | []=>by simp [jG]
 | z::r=>by
  unfold jG
  split
  ·simp only [List.mem_cons,uf (o:=r)]
   constructor
   ·rintro (h|h|h)<;>simp [h]
   ·rintro (h|h|h)<;>simp [h]
  ·split
   ·rename_i e;subst e;simp
   ·simp
theorem BA {x:L3}:∀{o:List L3},o.Pairwise FX->(jG x o).Pairwise FX
 | [],_=>List.pairwise_singleton _ _
 | z::r,h=>by
  obtain ⟨h1,h2⟩:=List.pairwise_cons.1 h
  unfold jG
  split
  ·rename_i b
   refine List.pairwise_cons.2 ⟨fun y a=>?_,BA h2⟩
   rcases uf.1 a with rfl|a
   ·exact b
   ·exact h1 y a
  ·rename_i b
   split
   ·exact h
   ·rename_i c
    have d:FX x z:=Pj b c
    refine List.pairwise_cons.2 ⟨fun y a=>?_,h⟩
    rcases List.mem_cons.1 a with rfl|a
    ·exact d
    ·exact Pk d (h1 y a)
theorem mX (l:List L3):(dS l).Pairwise FX/\∀x,x∈dS l↔x∈l.map cP:=by
 have:∀(l o:List L3),o.Pairwise FX->(l.foldl (fun o x=>jG (cP x) o) o).Pairwise FX/\∀x,x∈l.foldl (fun o x=>jG (cP x) o) o↔x∈o\/x∈l.map cP:=by
  intro l
  induction l with
  | nil=>intro o h;exact ⟨h,fun x=>by simp⟩
  | cons y r ih=>
   intro o h
   obtain ⟨a,b⟩:=ih (jG (cP y) o) (BA h)
   refine ⟨a,fun x=>?_⟩
   rw [List.foldl_cons,b x,uf,List.map_cons,List.mem_cons]
   constructor
   ·rintro ((h|h)|h)<;>simp [h]
   ·rintro (h|h|h)<;>simp [h]
 obtain ⟨a,b⟩:=this l [] List.Pairwise.nil
 exact ⟨a,fun x=>by rw [dS,b x];simp⟩
end Go.Proofs.Tryz
