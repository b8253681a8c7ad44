import Derived.Test.YtapnijmlbakblaaGreatDoorS18
import Derived.Test.YtapnijmlbakblaaGreatDoorS6
import Derived.Test.YtapnijmlbakblaaGreatDoorS17
import Derived.Test.YtapnijmlbakblaaGreatDoorS16
import Derived.Test.YtapnijmlbakblaaGreatDoorS11
import Derived.Laws.IdiomCopy
import Derived.Lib.Overlaps
import Derived.Lib.JoinLaws
import Derived.Lib.AppendZerosOnto
import Derived.Shelf.RegionOpenPlain
import Derived.Lib.Walk
import Derived.Lib.SliceRun
import Derived.Laws.NewBlocks
import Derived.Test.YtapnijmlbakblaaGreatDoorS15
import Derived.Test.YtapnijmlbakblaaGreatDoorS13
import Derived.Test.YtapnijmlbakblaaGreatDoorS14
import Derived.Test.YtapnijmlbakblaaGreatDoorS9
import Derived.Test.YtapnijmlbakblaaGreatDoorS8
import Derived.Test.YtapnijmlbakblaaGreatDoorS10
set_option linter.unusedVariables false
open Go.IntKind (i64 u64 u32)
namespace Go.Proofs.Tryz
open Go.Eng Go.Big
def halfU (l m:L3):List Sp:=if crossL l m=0 then (if 0<aI m (j_ l 0) (kH l 0) then [fullSp] else []) else if 0<dotL m l then [⟨cutP m l,0,false,true⟩] else [⟨0,cutP m l,true,false⟩]
theorem rA (l m:L3):halfU l m=[]\/∃u,halfU l m=[u]/\u.can:=by
 unfold halfU;split
 ·split
  ·exact .inr ⟨_,rfl,kj.1⟩
  ·exact .inl rfl
 ·split
  ·exact .inr ⟨_,rfl,⟨(fun h=>by cases h),fun _=>rfl⟩⟩
  ·exact .inr ⟨_,rfl,⟨fun _=>rfl,(fun h=>by cases h)⟩⟩
theorem comb_nil (a:List Sp):combL 2 a []=[]:=by
 cases e:combL 2 a [] with
 | nil=>rfl
 | cons s r=>
  exfalso;have f:=comb_reg 2 a [];rw [e] at f;obtain ⟨k,l,b,c⟩:=Jl (f.1 s (List.mem_cons_self ..));obtain ⟨t,t1,t2,t3⟩:=IJ (endsL (a++[])) b;have d:=comb_inB 2 a [] (t:=t) (fun h=>t3 t h rfl);rw [e] at d;have g:inB (s::r) t=true:=jB.2 ⟨s,List.mem_cons_self ..,c t t1 t2⟩;have i:inB [] t=false:=rfl;have j:opB 2 (inB a t) false=(inB a t&&false):=rfl;rw [g,i,j,Bool.and_false] at d;cases d
theorem HK {v:Sp}(hv:v.can):v.meet fullSp=v:=by
 obtain ⟨c,d,a,b⟩:=v;unfold Sp.can at hv;unfold Sp.meet fullSp;cases a<;>cases b<;>simp at hv⊢<;> simp [hv]
theorem HA {v:Sp}(hv:v.can):fullSp.meet v=v:=by
 obtain ⟨c,d,a,b⟩:=v;unfold Sp.can at hv;unfold Sp.meet fullSp;cases a<;>cases b<;>simp at hv⊢<;> simp [hv]
theorem vY {u:Sp}(hu:u.good):combL 2 [fullSp] [u]=[u]:=by
 rw [pL kj.1 hu.1,HA hu.1,if_neg (by rw [hu.2];exact Bool.false_ne_true)]
theorem H7 {l m:L3}{v:Sp}(hv:v.good):combL 2 [v] (combL 2 [fullSp] (halfU l m))=if lR l v m=true then [iT l v m] else []:=by
 unfold halfU;by_cases b:crossL l m=0
 ·have a:dotL m l=0:=by rw [cross_dot] at b;grind
  have d:iT l v m=v:=by unfold iT;rw [a];rfl
  have c:lR l v m=decide ((qS m l).num.sign>0):=by unfold lR;rw [a];rfl
  rw [if_pos b,d,c];by_cases g:0<aI m (j_ l 0) (kH l 0)
  ·rw [if_pos g,vY kj,pL hv.1 kj.1,HK hv.1,if_neg (by rw [hv.2];exact Bool.false_ne_true),if_pos (decide_eq_true (show (qS m l).num.sign>0 from bE.sT.2 g))]
  ·rw [if_neg g,comb_nil,comb_nil,if_neg (by rw [decide_eq_true_eq];exact fun h=>g (bE.sT.1 h))]
 ·have a:dotL m l≠0:=fun e=>b (by rw [cross_dot,e];grind)
  have c:lR l v m=!(iT l v m).emp:=by
   unfold lR;rcases uy (dotL m l) with ⟨h,e⟩|⟨h,e⟩|⟨h,e⟩
   ·exact absurd h a
   ·rw [e];rfl
   ·rw [e];rfl
  have fin:∀{u:Sp},u.good->v.meet u=iT l v m->combL 2 [v] (combL 2 [fullSp] [u])=if lR l v m=true then [iT l v m] else []:=fun {u} hu e=>by
   rw [vY hu,pL hv.1 hu.1,e,c];cases (iT l v m).emp<;>rfl
  rw [if_neg b];rcases uy (dotL m l) with ⟨h,e⟩|⟨h,e⟩|⟨h,e⟩
  ·exact absurd h a
  ·rw [if_pos h];refine fin ⟨⟨(fun h=>by cases h),fun _=>rfl⟩,Sp.kY.2 (.inr (.inl rfl))⟩ ?_;unfold iT;rw [e];rfl
  ·rw [if_neg (by grind)];refine fin ⟨⟨fun _=>rfl,(fun h=>by cases h)⟩,Sp.kY.2 (.inl rfl)⟩ ?_;unfold iT;rw [e];rfl
theorem eG.up {k K:Nat}{l:L3}(h:eG k l)(hk:k<=K):eG K l:=⟨h.1.mono hk,h.2.1.mono hk,h.2.2.mono hk⟩
def TZ (s:Sd):Prop:=Bd s.1/\s.2.sz 100000
theorem Gu {x:Sd}:∀{r:List Sd} {i:Nat},i<=r.length->(∀k (h:k<r.length),k<i->bE.gw (bE.bJ r[k].1) (bE.bJ x.1)<0)->(∀h:i<r.length,¬bE.gw (bE.bJ r[i].1) (bE.bJ x.1)<0)->E4 x r=r.take i++x::r.drop i
 | [],i,hi,_,_=>by simp [E4]
 | s::r,0,_,_,h=>by
  have:¬bE.gw (bE.bJ s.1) (bE.bJ x.1)<0:=h (Nat.zero_lt_succ _);unfold E4;rw [if_neg this];rfl
 | s::r,i+1,hi,h1,h2=>by
  have:bE.gw (bE.bJ s.1) (bE.bJ x.1)<0:=h1 0 (Nat.zero_lt_succ _) (Nat.zero_lt_succ _);unfold E4;rw [if_pos this,Gu (r:=r) (i:=i) (by simpa using hi) (fun k a b=>h1 (k+1) (by simpa using a) (by omega)) fun h=>h2 (by simpa using h)];rfl
structure Bs (r:List Sd) (l:L3) (i j:Nat):Prop where
 le:i<=j
 len:j<=r.length
 lo:∀k (h:k<r.length),k<i->bE.gw (bE.bJ r[k].1) (bE.bJ l)<0
 hi:∀h:j<r.length,¬bE.gw (bE.bJ r[j].1) (bE.bJ l)<0
theorem Bs.start (r:List Sd)(l:L3):Bs r l 0 r.length:=⟨Nat.zero_le _,Nat.le_refl _,fun k h a=>absurd a (Nat.not_lt_zero _),fun h=>absurd h (Nat.lt_irrefl _)⟩
theorem Bs.up {r:List Sd}{l:L3}{i j h:Nat}(b:Bs r l i j)(asc:r.Pairwise fun s u=>bE.gw (bE.bJ s.1) (bE.bJ u.1)<0)(h2:h<j)(hl:h<r.length)(hc:bE.gw (bE.bJ r[h].1) (bE.bJ l)<0):Bs r l (h+1) j:=
 ⟨h2,b.len,fun k a c=>by
  by_cases e:k=h
  ·subst e;exact hc
  ·exact Lz (List.pairwise_iff_getElem.1 asc k h a hl (by omega)) hc,b.hi⟩
theorem Bs.down {r:List Sd}{l:L3}{i j h:Nat}(b:Bs r l i j)(h1:i<=h)(hl:h<r.length)(hc:¬bE.gw (bE.bJ r[h].1) (bE.bJ l)<0):Bs r l i h:=
 ⟨h1,by omega,b.lo,fun _=>hc⟩
theorem Bs.done {r:List Sd}{l:L3}{i:Nat}(b:Bs r l i i)(v:Sp):E4 (l,v) r=r.take i++(l,v)::r.drop i:=Gu b.len b.lo b.hi
theorem RR.half (V:View):RR V (.agg #[.int .i64 1,.int .i64 1,.pointer none]) (((2:Int):Rat)⁻¹):=by
 have a:(((2:Int):Rat)⁻¹).num=1:=by decide +kernel
 have b:(((2:Int):Rat)⁻¹).den=2:=by decide +kernel
 refine .inl ⟨by rw [a,b];rfl,?_⟩;unfold Wd;rw [a,b];decide
def Ol (V:View)(v:Value)(s:Sd):Prop:=xE V v s.1 s.2/\TZ s
theorem Ol.le {V V':View}{v:Value}{s:Sd}(h:Ol V v s)(l:V.Le V'):Ol V' v s:=⟨h.1.le l,h.2⟩
theorem Ol.shape {V:View}{v:Value}{s:Sd}(h:Ol V v s):∃(x1:Int)(x2:Int)(p:OA)(y1:Int)(y2:Int)(q:OA)(z1:Int)(z2:Int)(r:OA)(u1:Int)(u2:Int)(t:OA)(w1:Int)(w2:Int)(o:OA),v=.agg #[.int .i64 x1,.int .i64 x2,.pointer p,.int .i64 y1,.int .i64 y2,.pointer q,.int .i64 z1,.int .i64 z2,.pointer r,.int .i64 u1,.int .i64 u2,.pointer t,.int .i64 w1,.int .i64 w2,.pointer o,.bool s.2.a,.bool s.2.b]:=by
 obtain ⟨x1,x2,p,y1,y2,q,z1,z2,r,u1,u2,t,w1,w2,o,e,-⟩:=h.1;exact ⟨x1,x2,p,y1,y2,q,z1,z2,r,u1,u2,t,w1,w2,o,e⟩
theorem Ol.both {V:View}{s:Sd}{x1:Int}{x2:Int}{p:OA}{y1:Int}{y2:Int}{q:OA}{z1:Int}{z2:Int}{r:OA}{u1:Int}{u2:Int}{t:OA}{w1:Int}{w2:Int}{o:OA}{c d:Bool}(h:Ol V (.agg #[.int .i64 x1,.int .i64 x2,.pointer p,.int .i64 y1,.int .i64 y2,.pointer q,.int .i64 z1,.int .i64 z2,.pointer r,.int .i64 u1,.int .i64 u2,.pointer t,.int .i64 w1,.int .i64 w2,.pointer o,.bool c,.bool d]) s) :
  uk V (.agg #[.int .i64 x1,.int .i64 x2,.pointer p,.int .i64 y1,.int .i64 y2,.pointer q,.int .i64 z1,.int .i64 z2,.pointer r]) s.1/\At V (.agg #[.int .i64 u1,.int .i64 u2,.pointer t,.int .i64 w1,.int .i64 w2,.pointer o,.bool s.2.a,.bool s.2.b]) s.2/\c=s.2.a/\d=s.2.b:=by
 obtain ⟨f,g,y,i,j,z,k,l,A,m,n,B,u,v,C,e,w,x⟩:=h.1;have e:=congrArg Array.toList (Value.agg.inj e);simp only [List.cons.injEq,Value.bool.injEq,Value.int.injEq,Value.pointer.injEq,true_and,and_true] at e;obtain ⟨rfl,rfl,rfl,rfl,rfl,rfl,rfl,rfl,rfl,rfl,rfl,rfl,rfl,rfl,rfl,rfl,rfl⟩:=e;exact ⟨w,x,rfl,rfl⟩
end Go.Proofs.Tryz
namespace Go.Eng
open Go.Lib
variable {P:Program}
end Go.Eng
namespace Go.Proofs.Tryz
open Go.Eng Go.RowKit Go.Lib
end Go.Proofs.Tryz
namespace Go.Proofs.Tryz
open Go.Eng
end Go.Proofs.Tryz
namespace Go.Proofs.Tryz
open Go.Eng Go.Big
def OP:Rat×Rat:=(0,0)
def QR (a b:Rat×Rat):Int:=bE.gw a b
def Lc (V:View)(v:Value)(c:Rat×Rat):Prop:=jY V v c.1 c.2/\Sz 100000 c.1/\Sz 100000 c.2
theorem Lc.le {V V':View}{v:Value}{c:Rat×Rat}(h:Lc V v c)(l:V.Le V'):Lc V' v c:=⟨h.1.le l,h.2⟩
theorem Lc.shape {V:View}{v:Value}{c:Rat×Rat}(h:Lc V v c):∃(x y:Int)(p:OA)(xb yb:Int)(pb:OA),v=.agg #[.int .i64 x,.int .i64 y,.pointer p,.int .i64 xb,.int .i64 yb,.pointer pb]:=by
 obtain ⟨⟨a,b,p,d,f,q,e,-⟩,-⟩:=h;exact ⟨_,_,_,_,_,_,e⟩
def eP (a b:Rat×Rat):Bool:=bE.eP a b
def pZ (p:Rat×Rat):Rat×Rat:=(p.1*(cQ p.1 p.2)⁻¹,p.2*(cQ p.1 p.2)⁻¹)
def TX (k:Nat)(V:View)(v:Value)(c:Rat×Rat):Prop:=jY V v c.1 c.2/\Sz k c.1/\Sz k c.2
theorem TX.le {k:Nat}{V V':View}{v:Value}{c:Rat×Rat}(h:TX k V v c)(l:V.Le V'):TX k V' v c:=⟨h.1.le l,h.2⟩
def B7 (V:View)(v:Value)(l:L3):Prop:=RL V v l.1 l.2.1 l.2.2
theorem B7.le {V V':View}{v:Value}{l:L3}(h:B7 V v l)(e:V.Le V'):B7 V' v l:=RL.le h e
theorem rN {V:View}{v:Value}{l:L3}(h:B7 V v l):∃(b1:Bool)(p1:OA)(n1 c1:Nat)(b2:Bool)(p2:OA)(n2 c2:Nat)(b3:Bool)(p3:OA)(n3 c3:Nat),v=.agg #[.bool b1,.slice p1 n1 c1,.bool b2,.slice p2 n2 c2,.bool b3,.slice p3 n3 c3]:=by
 obtain ⟨_,_,_,_,_,_,_,_,_,e,-⟩:=h;exact ⟨_,_,_,_,_,_,_,_,_,_,_,_,e⟩
def Ql (ls:List L3):Bool:=decide (ls.length<=1024)&&ls.all jO
def jI (V:View)(v:Value)(c:Rat×Rat):Prop:=RP V v c.1 c.2
theorem jI.le {V V':View}{v:Value}{c:Rat×Rat}(h:jI V v c)(l:V.Le V'):jI V' v c:=RP.le h l
theorem jI.shape {V:View}{v:Value}{c:Rat×Rat}(h:jI V v c):∃(b:Bool)(p:OA)(n c:Nat)(p':OA)(n' c':Nat)(d:Bool)(q:OA)(m e:Nat)(q':OA)(m' e':Nat),v=.agg #[.bool b,.slice p n c,.slice p' n' c',.bool d,.slice q m e,.slice q' m' e']:=by
 obtain ⟨p,n,c,p',n',c',q,m,e,q',m',e',h,-⟩:=h;exact ⟨_,p,n,c,p',n',c',_,q,m,e,q',m',e',h⟩
theorem Fb {R:View->Value->Rat×Rat->Prop}(sh:∀{V v c},R V v c->∃(b:Bool)(p:OA)(n c:Nat)(p':OA)(n' c':Nat)(d:Bool)(q:OA)(m e:Nat)(q':OA)(m' e':Nat),v=.agg #[.bool b,.slice p n c,.slice p' n' c',.bool d,.slice q m e,.slice q' m' e'])
  {V:View}{p:OA}{n:Nat}{al:List (Rat×Rat)}(h:dR 6 R V p n al){i:Nat}(hi:i<al.length) :
  p.isSome=true/\∃(b1:Bool)(p1:OA)(n1 c1:Nat)(p2:OA)(n2 c2:Nat)(b2:Bool)(p3:OA)(n3 c3:Nat)(p4:OA)(n4 c4:Nat)(a:Addr),ah p (i*6)=some a/\V.at (a.add 0) (.bool b1)/\V.at (a.add 1) (.slice p1 n1 c1)/\V.at (a.add 2) (.slice p2 n2 c2)/\V.at (a.add 3) (.bool b2)/\V.at (a.add 4) (.slice p3 n3 c3)/\V.at (a.add 5) (.slice p4 n4 c4) /\
   R V (.agg #[.bool b1,.slice p1 n1 c1,.slice p2 n2 c2,.bool b2,.slice p3 n3 c3,.slice p4 n4 c4]) al[i]:=by
 obtain ⟨l,j,xs,o,k,f⟩:=h.at_ i hi;have g:=k;obtain ⟨_,_,_,_,_,_,_,_,_,_,_,_,_,_,e⟩:=sh k;have e:=congrArg Array.toList (Value.agg.inj e);dsimp only at e;subst e;refine ⟨?_,_,_,_,_,_,_,_,_,_,_,_,_,_,_,l,j,f 0 _ rfl,f 1 _ rfl,f 2 _ rfl,f 3 _ rfl,f 4 _ rfl,f 5 _ rfl,g⟩
 cases p with
 | none=>cases j
 | some a=>rfl
def pv (V:View)(v:Value)(c:Rat×Rat):Prop:=As V v c.1 c.2
theorem pv.le {V V':View}{v:Value}{c:Rat×Rat}(h:pv V v c)(l:V.Le V'):pv V' v c:=As.le h l
theorem Sk {b:Bool}{p:OA}{n c:Nat}{p':OA}{n' c':Nat}{d:Bool}{q:OA}{m e:Nat}{q':OA}{m' e':Nat}:∀v∈([.bool b,.slice p n c,.slice p' n' c',.bool d,.slice q m e,.slice q' m' e']:List Value),v.oneCell'=true:=by
 intro v hm;simp only [List.mem_cons,List.not_mem_nil,or_false] at hm;rcases hm with rfl|rfl|rfl|rfl|rfl|rfl<;>rfl
theorem pv.shape {V:View}{v:Value}{c:Rat×Rat}(h:pv V v c):∃(b:Bool)(p:OA)(n c:Nat)(p':OA)(n' c':Nat)(d:Bool)(q:OA)(m e:Nat)(q':OA)(m' e':Nat),v=.agg #[.bool b,.slice p n c,.slice p' n' c',.bool d,.slice q m e,.slice q' m' e']:=by
 obtain ⟨_,_,_,_,_,_,_,_,_,_,_,_,_,_,h,-⟩:=h;exact ⟨_,_,_,_,_,_,_,_,_,_,_,_,_,_,h⟩
def Lv (ls:List L3)(bad YQ:Prop)(some_:List Sd->Prop):Prop:=(Ql ls=false/\bad)\/(Ql ls=true/\rf ls [] []=none/\YQ)\/(Ql ls=true/\∃c,rf ls [] []=some c/\some_ c)
theorem Lv.bad {ls:List L3}{p q:Prop}{s:List Sd->Prop}(h:Lv ls p q s)(e:Ql ls=false):p:=by
 rcases h with ⟨-,h⟩|⟨h,-⟩|⟨h,-⟩
 ·exact h
 ·rw [e] at h;cases h
 ·rw [e] at h;cases h
theorem Lv.YQ {ls:List L3}{p q:Prop}{s:List Sd->Prop}(h:Lv ls p q s)(e:Ql ls=true)(e':rf ls [] []=none):q:=by
 rcases h with ⟨h,-⟩|⟨-,-,h⟩|⟨-,c,h,-⟩
 ·rw [e] at h;cases h
 ·exact h
 ·rw [e'] at h;cases h
theorem Lv.some {ls:List L3}{p q:Prop}{s:List Sd->Prop}{c:List Sd}(h:Lv ls p q s)(e:Ql ls=true)(e':rf ls [] []=Option.some c):s c:=by
 rcases h with ⟨h,-⟩|⟨-,h,-⟩|⟨-,b,h,a⟩
 ·rw [e] at h;cases h
 ·rw [e'] at h;cases h
 ·rw [e'] at h;cases h;exact a
theorem Lv.imp {ls:List L3}{p q p' q':Prop}{s s':List Sd->Prop}(h:Lv ls p q s)(hp:p->p')(hq:q->q')(hs:∀c,rf ls [] []=Option.some c->s c->s' c):Lv ls p' q' s':=by
 rcases h with ⟨h,a⟩|⟨h,b,a⟩|⟨h,c,b,a⟩
 ·exact .inl ⟨h,hp a⟩
 ·exact .inr (.inl ⟨h,b,hq a⟩)
 ·exact .inr (.inr ⟨h,c,b,hs c b a⟩)
theorem AP {V:View}{p:OA}{n c:Nat}{A:List (Rat×Rat)}(h:dR 6 jI V p n A)(hn:A.length<=1000000){k:Nat}(hs:∀x∈A,Sz k x.1/\Sz k x.2)(hk:k<=1099511627776) :
  ae prog 20 #[.slice p n c] V fun r V'=>∃q m e,r=.slice q m e/\dR 6 pv V' q m A:=by
 obtain rfl:=h.len;refine yO p _ c V _ ⟨fun z V'=>∃j:Nat,z.2.2.2=(j:Int)/\j<=A.length/\GR 6 pv V' z.1 z.2.1 z.2.2.1 (A.take j),fun z=>A.length-z.2.2.2.toNat,⟨(0,0,[],0),by and_intros<;>rfl,0,rfl,Nat.zero_le _,GR.nil⟩,?_⟩;rintro ⟨u,P,Q,R⟩ S i ⟨j,l,T,d⟩;dsimp only at l d;subst l;have v:=d.len;rw [List.length_take] at v;refine ⟨rfl,fun b=>?_,fun b U y W B=>?_⟩
 ·have b:(j:Int)<A.length:=of_decide_eq_true b;have f:j<A.length:=by omega
  have w:i64.wrap ((j:Int)+1)=((j+1:Nat):Int):=by rw [aw (by omega)];rfl
  dsimp only;rw [Int.toNat_natCast,w];obtain ⟨C,b1,X,Y,Z,p2,n2,c2,b2,p3,n3,c3,p4,n4,c4,a,D,E,F,G,H,I,J,g⟩:=Fb jI.shape (h.le i fun _ _ g=>jI.le g i) f;obtain ⟨s1,s2⟩:=hs _ (List.getElem_mem f);refine ⟨C,⟨by omega,by omega⟩,_,_,_,_,_,_,_,_,_,_,_,_,_,_,a,D,E,F,G,H,I,J,fun V2 o=>(Cq (g.le o) s1 s2 hk).mono ?_⟩;rintro r s K L;have t:pv s r A[j]:=L;obtain ⟨_,_,_,_,_,_,_,_,_,_,_,_,_,_,rfl⟩:=t.shape;refine ⟨_,_,_,_,_,_,_,_,_,_,_,_,_,_,rfl,by omega,d.le,d.cap,rfl,Sk,fun sp M N O=>⟨(u+1,M,_,((j+1:Nat):Int)),by dsimp only;omega,by and_intros<;>rfl,j+1,rfl,f,?_⟩⟩;dsimp only;rw [List.take_add_one,List.getElem?_eq_getElem f];exact (d.mono (V':=s) fun _ _ g=>pv.le g (o.trans K)).snoc rfl t (by decide) N O
 ·have b:¬(j:Int)<A.length:=of_decide_eq_false b;obtain rfl:j=A.length:=by omega
  rw [List.take_length] at d;obtain rfl:=d.len;exact ⟨_,_,_,rfl,dR.eh B (d.row.le fun _ _ g=>pv.le g y) (by decide) d.le⟩
theorem dR.q {V:View}{p:OA}{n:Nat}{ls:List L3}(h:dR 6 B7 V p n ls):dR 6 Lr V p n ls:=⟨h.len,fun i a=>by
 obtain ⟨b,c,xs,d,e,f⟩:=h.at_ i a;exact ⟨b,c,xs,d,.inl e,f⟩⟩
theorem MV {l m:L3}{k:Nat}(sl:eG k l)(sm:eG k m):Sz (20*k+20) (Px l m)/\Sz (20*k+20) (Py l m):=by
 unfold Px Py crossL;obtain ⟨a,b,c⟩:=sl;obtain ⟨b1,b2,b3⟩:=sm;exact ⟨(Sz.mul ((b.mul b3).sub (c.mul b2)) (fE ((a.mul b2).sub (b.mul b1)))).mono (by omega),(Sz.mul ((c.mul b1).sub (a.mul b3)) (fE ((a.mul b2).sub (b.mul b1)))).mono (by omega)⟩
def Fj (p:Rat×Rat):Rat×Rat:=(-p.1,-p.2)
def SG (l:L3):List (Rat×Rat):=[pZ (bE.bJ l),Fj (pZ (bE.bJ l))]
def Kt (M:List L3):List (Rat×Rat):=M.flatMap SG
structure Nl (V:View) (n:Nat) (vs:List Value) (l:List (Rat×Rat)):Prop where
 row:Row 6 Lc V vs l
 len:n=l.length
 x_:l.length<50
theorem Nl.le {V V':View}{n:Nat}{vs:List Value}{l:List (Rat×Rat)}(h:Nl V n vs l)(e:V.Le V'):Nl V' n vs l:=⟨h.row.le fun _ _ g=>Lc.le g e,h.len,h.x_⟩
theorem Nl.get {V:View}{n:Nat}{vs:List Value}{l:List (Rat×Rat)}(h:Nl V n vs l){k:Nat}(hk:k<l.length):∃(x y:Int)(p:OA)(xb yb:Int)(pb:OA),
  ((0+k*6)+6<=vs.length/\(vs.drop (0+k*6)).take 6=[.int .i64 x,.int .i64 y,.pointer p,.int .i64 xb,.int .i64 yb,.pointer pb])/\Lc V (.agg #[.int .i64 x,.int .i64 y,.pointer p,.int .i64 xb,.int .i64 yb,.pointer pb]) (l.getD k OP):=by
 obtain ⟨xs,-,b,c,f⟩:=h.row.get (d:=OP) hk (by decide);have a:=b;obtain ⟨x,y,p,xb,yb,pb,e⟩:=b.shape;have e:=congrArg Array.toList (Value.agg.inj e);dsimp only at e;subst e;rw [Nat.zero_add];exact ⟨x,y,p,xb,yb,pb,⟨c,f⟩,a⟩
theorem Nl.swap {V:View}{n:Nat}{vs:List Value}{l:List (Rat×Rat)}(h:Nl V n vs l){i j:Nat}(hi:i<l.length)(hj:j<l.length){x y:Int}{p:OA}{xb yb:Int}{pb:OA}{x' y':Int}{p':OA}{K4 K6:Int}{pb':OA}
  (h1:Lc V (.agg #[.int .i64 x,.int .i64 y,.pointer p,.int .i64 xb,.int .i64 yb,.pointer pb]) (l.getD i OP))(h2:Lc V (.agg #[.int .i64 x',.int .i64 y',.pointer p',.int .i64 K4,.int .i64 K6,.pointer pb']) (l.getD j OP)) :
  (0+i*6)+6<=vs.length/\(0+j*6)+6<=(aU vs (0+i*6) [.int .i64 x',.int .i64 y',.pointer p',.int .i64 K4,.int .i64 K6,.pointer pb']).length /\
  Nl V n (aU (aU vs (0+i*6) [.int .i64 x',.int .i64 y',.pointer p',.int .i64 K4,.int .i64 K6,.pointer pb']) (0+j*6) [.int .i64 x,.int .i64 y,.pointer p,.int .i64 xb,.int .i64 yb,.pointer pb]) (pr OP l i j):=by
 obtain ⟨-,-,-,a,-⟩:=h.row.get (d:=OP) hi (by decide);obtain ⟨-,-,-,b,-⟩:=h.row.get (d:=OP) hj (by decide);rw [Nat.zero_add,Nat.zero_add];refine ⟨a,by rw [fN (by exact a)];exact b,h.row.swap hi hj (by decide) rfl rfl h1 h2,by rw [f_];exact h.len,by rw [f_];exact h.x_⟩
def PV (u w:Rat×Rat):Rat×Rat:=if bE.cr u w>0 then (u.1+w.1,u.2+w.2) else (-u.2,u.1)
def KE (D:List (Rat×Rat)):List (Rat×Rat):=if D=[] then [(1,0)] else bE.SL PV D
theorem Fh (n:Int){d:Nat}(h:d≠0):mkRat n d*((d:Nat):Rat)=(n:Rat):=by
 have a:((d:Nat):Rat)≠0:=by exact_mod_cast h
 rw [Rat.mkRat_eq_div,Rat.div_def];exact bE.inv_mul a _
theorem Jj {p:Rat×Rat}(h:bE.nz p):cQ p.1 p.2>0:=by
 have a:p.1.den*p.2.den≠0:=Nat.mul_ne_zero p.1.den_nz p.2.den_nz;have e:=Fh (Nat.gcd (p.1.num.natAbs*p.2.den) (p.2.num.natAbs*p.1.den):Nat) a
 have b:0<Nat.gcd (p.1.num.natAbs*p.2.den) (p.2.num.natAbs*p.1.den):=by
  apply Nat.pos_of_ne_zero;intro z;rw [Nat.gcd_eq_zero_iff] at z
  have c:p.1=0:=by
   rcases Nat.mul_eq_zero.1 z.1 with e|e
   ·exact Rat.num_eq_zero.1 (by omega)
   ·exact absurd e p.2.den_nz
  have d:p.2=0:=by
   rcases Nat.mul_eq_zero.1 z.2 with e|e
   ·exact Rat.num_eq_zero.1 (by omega)
   ·exact absurd e p.1.den_nz
  unfold bE.nz at h;rcases h with h|h
  ·exact h c
  ·exact h d
 have d0:((p.1.den*p.2.den:Nat):Rat)>0:=by exact_mod_cast Nat.pos_of_ne_zero a
 have g:(((Nat.gcd (p.1.num.natAbs*p.2.den) (p.2.num.natAbs*p.1.den):Nat):Int):Rat)>0:=by exact_mod_cast b
 show mkRat _ _>0;generalize mkRat ((Nat.gcd (p.1.num.natAbs*p.2.den) (p.2.num.natAbs*p.1.den):Nat):Int) (p.1.den*p.2.den)=q at *;by_cases f:q>0
 ·exact f
 ·have:=bE.mn (show -q≥0 by grind) (show ((p.1.den*p.2.den:Nat):Rat)≥0 by grind);grind
theorem Df {p:Rat×Rat}(h:bE.nz p):∃c:Rat,c>0/\pZ p=(c*p.1,c*p.2):=
 ⟨(cQ p.1 p.2)⁻¹,Rat.inv_pos.2 (Jj h),Prod.ext (Rat.mul_comm ..) (Rat.mul_comm ..)⟩
theorem GJ {l:L3}(h:¬(l.1=0/\l.2.1=0)):bE.nz (bE.bJ l):=by
 unfold bE.nz bE.bJ;by_cases e:l.2.1=0
 ·right;intro a;have:(l.1:Rat)=0:=by grind
  exact h ⟨by exact_mod_cast this,e⟩
 ·left;show (l.2.1:Rat)≠0
  exact_mod_cast e
def Uw (s a:Bool):Int:=if a then 2 else if s then 1 else 0
def F9 (t:Tr)(p:Rat×Rat)(c:Int):Prop:=∀D S,bE.Ni D->bE.Tj D S->bE.P2 D (bE.kq t p)->c=Uw (bE.anyS t p S) (bE.Ly t p S)
theorem Mo {q:L3->Prop}{t:Tr}(h:t.K9 q){p:Rat×Rat}:∀l∈bE.kq t p,q l:=fun l a=>A9 h l (bE.vR a).2
theorem MP {u w:Rat×Rat}(h:bE.cr u w≥0):bE.G9 u w (PV u w):=by
 unfold PV;by_cases g:bE.cr u w>0
 ·rw [if_pos g];exact .inl ⟨g,1,1,by decide,by decide,Prod.ext (by unfold bE.Ll;grind) (by unfold bE.Ll;grind)⟩
 ·rw [if_neg g];exact .inr ⟨by grind,1,by decide,Prod.ext (by unfold bE.Ll bE.SQ;grind) (by unfold bE.Ll bE.SQ;grind)⟩
theorem H4 {D:List (Rat×Rat)}(h:bE.Ni D):bE.Tj D (KE D):=by
 unfold KE;by_cases e:D=[]
 ·rw [if_pos e];exact .inl ⟨e,rfl⟩
 ·rw [if_neg e];exact bE.MN h (fun u _ w _ a=>MP a) e
theorem MB {M:List L3}(ho:∀l∈M,¬(l.1=0/\l.2.1=0)){m:List (Rat×Rat)}(pm:m.Perm (Kt M))(pw:m.Pairwise fun x y=>¬QR y x<0):bE.Ni (gT eP m)/\bE.P2 (gT eP m) M:=by
 have mem:∀r,r∈m↔∃l∈M,r=pZ (bE.bJ l)\/r=Fj (pZ (bE.bJ l)):=fun r=>by
  rw [pm.mem_iff];unfold Kt SG;simp only [List.mem_flatMap,List.mem_cons,List.not_mem_nil,or_false]
 have key:=bE.PK (m:=m) pw ?_ ?_
 ·obtain ⟨j,k⟩:=key;refine ⟨j,fun l a=>?_⟩;obtain ⟨y,n,c,o,e⟩:=k (pZ (bE.bJ l)) ((mem _).2 ⟨l,a,.inl rfl⟩);obtain ⟨d,d0,g⟩:=Df (GJ (ho l a));refine ⟨y,n,c*d,bE.mp o d0,?_⟩;rw [e,g];exact Prod.ext (by show c*(d*_)=_;grind) (by show c*(d*_)=_;grind)
 ·intro r i;obtain ⟨l,a,h⟩:=(mem r).1 i;have b:=GJ (ho l a);obtain ⟨d,d0,g⟩:=Df b
  have f:bE.nz (pZ (bE.bJ l)):=by
   rw [g];unfold bE.nz at b ⊢;rcases b with b|b
   ·exact .inl fun h=>by rcases Rat.mul_eq_zero.1 h with h|h;grind;exact b h
   ·exact .inr fun h=>by rcases Rat.mul_eq_zero.1 h with h|h;grind;exact b h
  rcases h with rfl|rfl
  ·exact f
  ·unfold bE.nz Fj at *;rcases f with f|f
   ·exact .inl (by show -(pZ (bE.bJ l)).1≠0;grind)
   ·exact .inr (by show -(pZ (bE.bJ l)).2≠0;grind)
 ·intro r i;obtain ⟨l,a,h⟩:=(mem r).1 i;rcases h with rfl|rfl
  ·exact ⟨_,(mem _).2 ⟨l,a,.inr rfl⟩,1,by decide,by unfold Fj;grind,by unfold Fj;grind⟩
  ·exact ⟨_,(mem _).2 ⟨l,a,.inl rfl⟩,1,by decide,by unfold Fj;grind,by unfold Fj;grind⟩
def K_ (V:View)(w:Value)(p:Rat×Rat):Prop:=(∃b q n c q' n' c' d r m e r' m' e',w=.agg #[.bool b,.slice q n c,.slice q' n' c',.bool d,.slice r m e,.slice r' m' e']) /\
 ∀V1,V.Le V1->ae prog 51 #[w] V1 fun r V'=>jY V' r p.1 p.2
theorem K_.le {V V':View}{w:Value}{p:Rat×Rat}(h:K_ V w p)(l:V.Le V'):K_ V' w p:=⟨h.1,fun a b=>h.2 a (l.trans b)⟩
theorem K_.of {V:View}{w:Value}{p:Rat×Rat}(h:As V w p.1 p.2){k:Nat}(s1:Sz k p.1)(s2:Sz k p.2)(hk:k<=1099511627776):K_ V w p:=by
 refine ⟨?_,fun f a=>gC (h.le a) s1 s2 hk⟩;obtain ⟨b,q,n,c,g,i,j,d,r,m,e,l,o,s,rfl,-⟩:=h;exact ⟨_,_,_,_,_,_,_,_,_,_,_,_,_,_,rfl⟩
theorem K_.raw {V:View}{b d:Bool}{q q' r r':OA}{n c n' c' m e m' e':Nat}{xs ys us vs:List Nat}(h1:RD V q n c xs)(h2:RD V q' n' c' ys)(h3:RD V r m e us)(h4:RD V r' m' e' vs)(k1:xs.length<=1000000)(k2:ys.length<=1000000)(k3:us.length<=1000000)(k4:vs.length<=1000000) :
  K_ V (.agg #[.bool b,.slice q n c,.slice q' n' c',.bool d,.slice r m e,.slice r' m' e']) (mkRat (aZ b xs) (val ys),mkRat (aZ d us) (val vs)):=by
 refine ⟨⟨_,_,_,_,_,_,_,_,_,_,_,_,_,_,rfl⟩,fun o a=>?_⟩;refine th b q n c q' n' c' d r m e r' m' e' o _ fun t f=>(kO b (h1.le (a.trans f)) (h2.le (a.trans f)) (by omega) (by omega)).mono ?_;rintro r V2 j g;have p:=g;obtain ⟨u,v,w,rfl⟩:=g.shape;refine ⟨_,_,_,rfl,fun x h=>(kO d (h3.le (a.trans (f.trans (j.trans h)))) (h4.le (a.trans (f.trans (j.trans h)))) (by omega) (by omega)).mono ?_⟩;rintro r y s k;have i:=k;obtain ⟨z,A,B,rfl⟩:=k.shape;exact ⟨_,_,_,rfl,fun C l=>⟨_,_,_,_,_,_,rfl,p.le (h.trans (s.trans l)),i.le l⟩⟩
theorem K_.zero {V:View}:K_ V (.agg #[.bool false,.slice none 0 0,.slice none 0 0,.bool false,.slice none 0 0,.slice none 0 0]) (0,0):=by
 have e:mkRat (aZ false []) (val [])=0:=by decide
 have:=@K_.raw V false false none none none none 0 0 0 0 0 0 0 0 [] [] [] [] RD.nil RD.nil RD.nil RD.nil (by decide) (by decide) (by decide) (by decide);rw [e] at this;exact this
def P3 (k:Nat)(V:View)(v:Value)(c:Rat×Rat):Prop:=RP V v c.1 c.2/\Sz k c.1/\Sz k c.2
theorem P3.le {k:Nat}{V V':View}{v:Value}{c:Rat×Rat}(h:P3 k V v c)(l:V.Le V'):P3 k V' v c:=⟨h.1.le l,h.2⟩
theorem P3.mono {k m:Nat}{V:View}{v:Value}{c:Rat×Rat}(h:P3 k V v c)(l:k<=m):P3 m V v c:=⟨h.1,h.2.1.mono l,h.2.2.mono l⟩
theorem AT.leaf {V:View}(i:Bool):AT V (.agg #[.int .i64 (rt 0 (.leaf i)),.slice none 0 0]) (rt 0 (.leaf i)) (wr 0 (.leaf i)):=⟨_,_,_,rfl,NS.nil⟩
def G_ (V:View)(vs:List Value)(i:Nat)(d:Nd):Prop:=∃(b1:Bool)(p1:OA)(n1 c1:Nat)(b2:Bool)(p2:OA)(n2 c2:Nat)(b3:Bool)(p3:OA)(n3 c3:Nat),
 (∀j v,([.bool b1,.slice p1 n1 c1,.bool b2,.slice p2 n2 c2,.bool b3,.slice p3 n3 c3,.int .i64 d.left,.int .i64 d.right]:List Value)[j]?=some v->vs[i*8+j]?=some v) /\
 Lr V (.agg #[.bool b1,.slice p1 n1 c1,.bool b2,.slice p2 n2 c2,.bool b3,.slice p3 n3 c3]) d.ln
theorem G_.le {V V':View}{vs:List Value}{i:Nat}{d:Nd}(h:G_ V vs i d)(hl:V.Le V'):G_ V' vs i d:=by
 obtain ⟨b1,a,b,c,b2,e,f,g,b3,j,k,l,m,n⟩:=h;exact ⟨b1,a,b,c,b2,e,f,g,b3,j,k,l,m,n.le hl⟩
theorem Kk {vs xs:List Value}{k i:Nat}(hx:xs.length=8)(h:k*8+8<=vs.length)(hi:i<k*8\/k*8+8<=i):(vs.take (k*8)++xs++vs.drop (k*8+8))[i]?=vs[i]?:=by
 have a:(vs.take (k*8)).length=k*8:=by rw [List.length_take];omega
 rcases hi with hi|hi
 ·rw [List.append_assoc,List.getElem?_append_left (by omega),List.getElem?_take,if_pos hi]
 ·rw [List.getElem?_append_right (by rw [List.length_append];omega),List.length_append,a,hx,List.getElem?_drop];congr 1;omega
theorem lt8 {a b c d e f g h v:Value}{j:Nat}(hv:([a,b,c,d,e,f,g,h]:List Value)[j]?=some v):j<8:=by
 rcases Nat.lt_or_ge j 8 with i|i
 ·exact i
 ·rw [List.getElem?_eq_none (by simpa using i)] at hv;cases hv
theorem G_.out {V:View}{vs xs:List Value}{k i:Nat}{d:Nd}(h:G_ V vs i d)(hx:xs.length=8)(hk:k*8+8<=vs.length)(hi:i≠k):G_ V (vs.take (k*8)++xs++vs.drop (k*8+8)) i d:=by
 obtain ⟨b1,b,c,e,b2,f,g,l,b3,m,n,o,p,q⟩:=h;refine ⟨b1,b,c,e,b2,f,g,l,b3,m,n,o,fun j v a=>?_,q⟩;have:=lt8 a;rw [Kk hx hk (by omega)];exact p j v a
theorem H6 (l:List (Rat×Rat)):∃m:List (Rat×Rat),m.Perm l/\m.Pairwise fun x y=>¬QR y x<0:=by
 refine ⟨l.mergeSort (fun x y=>decide (¬QR y x<0)),List.mergeSort_perm ..,?_⟩;refine (List.pairwise_mergeSort (le:=fun x y=>decide (¬QR y x<0)) (fun a b c d e=>?_) (fun a b=>?_) l).imp fun h=>of_decide_eq_true h
 ·exact decide_eq_true (bE.uI c b a (of_decide_eq_true e) (of_decide_eq_true d))
 ·by_cases h:QR b a<0
  ·have:=bE.Gb b a h;rw [Bool.or_eq_true];exact .inr (decide_eq_true this)
  ·rw [Bool.or_eq_true];exact .inl (decide_eq_true h)
theorem indep {t:Tr}{l:L3}(ho:(Tr.node l t t).K9 fun l=>¬(l.1=0/\l.2.1=0)){p:Rat×Rat}{a b:Int}(h1:F9 t p a)(h2:F9 (.node l t t) p b):a=b:=by
 obtain ⟨m,pm,g⟩:=H6 (Kt (bE.kq (.node l t t) p));obtain ⟨d,f⟩:=MB (Mo ho) pm g;have sm:=H4 d
 have sub:∀x∈bE.kq t p,x∈bE.kq (.node l t t) p:=fun x c=>by
  rw [bE.kq];by_cases e:aI l p.1 p.2≥0
  ·rw [if_pos e];exact List.mem_append_right _ (List.mem_append_left _ c)
  ·rw [if_pos (show aI l p.1 p.2<=0 by grind)];exact List.mem_append_right _ (List.mem_append_right _ c)
 have i:=h1 _ _ d sm fun l j=>f l (sub l j);have k:=h2 _ _ d sm f;generalize KE (gT eP m)=S at *
 have key:∀v∈S,bE.DG (.node l t t) p v=bE.DG t p v:=fun v o=>by
  have n:=f.gen (bE.MQ d sm v o);have:=(bE.wI n fun l _=>⟨id,id⟩).2;rw [bE.DG] at this ⊢;split
  ·rfl
  ·rename_i q;rw [if_neg q] at this;split
   ·rfl
   ·rename_i r;rw [if_neg r] at this;cases this
 have s:bE.anyS (.node l t t) p S=bE.anyS t p S:=by
  unfold bE.anyS;rw [Bool.eq_iff_iff,List.any_eq_true,List.any_eq_true];constructor
  ·rintro ⟨x,c,h⟩;exact ⟨x,c,by rw [←key x c];exact h⟩
  ·rintro ⟨x,c,h⟩;exact ⟨x,c,by rw [key x c];exact h⟩
 have u:bE.Ly (.node l t t) p S=bE.Ly t p S:=by
  unfold bE.Ly;rw [Bool.eq_iff_iff,List.all_eq_true,List.all_eq_true];constructor
  ·intro h x c;rw [←key x c];exact h x c
  ·intro h x c;rw [key x c];exact h x c
 rw [i,k,s,u]
end Go.Proofs.Tryz
namespace Go.Eng
def View.bare (V:View)(b:Nat):View:=⟨V.w,fun x=>V.H x/\x≠b,fun x=>V.X x/\x≠b,fun x h=>V.hH x h.1,fun x h=>⟨V.hX x h.1,h.2⟩⟩
theorem ae.bare {P:Program}{f:FuncId}{args:Array Value}{V:View}{b:Nat}{R:Value->View->Prop}(hs:b<V.w.heap.size)(h:ae P f args (V.bare b) R) :
  ae P f args V fun r V'=>V'.w.heap[b]?=V.w.heap[b]?/\R r (V'.bare b):=by
 refine ⟨h.1,h.2.mono fun _ g ⟨r,he,a,c⟩=>⟨r,he,⟨a.size,fun x d e=>a.bw x d fun h=>e h.1,a.os,a.tape,a.out⟩,a.bw b hs (fun h=>h.2 rfl),c⟩⟩
def Ng (V:View)(b:Nat):Prop:=∃(cs:Array Value)(ty:TypeId)(m:Nat×Nat),V.w.heap[b]?=some (.cells cs ty m)/\∀v∈cs,∀k z,v≠.int k z
theorem Ng.ne {V:View}{b:Nat}(h:Ng V b){a:Addr}{k:IntKind}{z:Int}(ha:(V.bare b).at a (.int k z)):a.block≠b:=by
 obtain ⟨cs,ty,m,f,g⟩:=h;intro e;have c:=ha.2;unfold World.cell? at c;rw [e] at c;have d:(V.bare b).w.heap[b]?=some (.cells cs ty m):=f;rw [d] at c;dsimp only at c;split at c
 ·cases c
 ·obtain ⟨i,j⟩:=Array.getElem?_eq_some_iff.1 c;exact g _ (j▸Array.getElem_mem i) k z rfl
end Go.Eng
namespace Go.Proofs.Tryz
open Go.Eng Go.Big
theorem MA {V:View}{v:Value}{L:L3}(h:RL V v L.1 L.2.1 L.2.2)(hz:Nz L)(hb:Bd L):ae prog 48 #[v] V fun r V'=>RP V' r (j_ L 0) (kH L 0):=by
 have sl:=hb.Qo;refine (pI h (Fw hz) sl.1 sl.2.1 sl.2.2 (by omega)).mono fun r V' _ g=>?_;have b:j_ L 0=_:=rfl;unfold j_ kH;unfold cF;have a:∀x y:Rat,x=y->∀z w:Rat,z=w->RP V' r x z->RP V' r y w:=by rintro x _ rfl z _ rfl h;exact h
 refine a _ _ ?_ _ _ ?_ g<;>grind
theorem KS {L:L3}(hb:Bd L):Sz 30000 (j_ L 0)/\Sz 30000 (kH L 0):=by
 have sl:=hb.Qo;exact ⟨Sz.mono (BC sl (SN 1000 (by omega))) (by omega),Sz.mono (BD sl (SN 1000 (by omega))) (by omega)⟩
theorem F_.Tz {V:View}{p:OA}{n:Nat}{ss:List Sp}(h:F_ V p n ss):dR 8 pz V p n ss:=by
 refine ⟨h.len,fun i c=>?_⟩;obtain ⟨d,f,xs,b,g⟩:=h.at_ i c;have a:=b;obtain ⟨_,_,_,_,_,_,_,_,_,_,_,_,_,_,e,-,-⟩:=qm b;exact ⟨d,f,xs,by rw [e];rfl,a,g⟩
theorem pW {V:View}{p:OA}{n:Nat}{ss:List Sp}(h:dR 8 pz V p n ss):F_ V p n ss:=
 ⟨h.len,fun i a=>by obtain ⟨b,c,xs,-,d,e⟩:=h.at_ i a;exact ⟨b,c,xs,d,e⟩⟩
theorem Dt {V:View}{vs:List Value}{ss:List Sp}(h:Row 8 pz V vs ss){m:Nat}(hm:m<ss.length*8){v:Value}(hv:vs[m]?=some v):v.oneCell'=true:=by
 have c:m / 8<ss.length:=by omega
 obtain ⟨xs,d,f,g⟩:=h.at_ (m / 8) c;obtain ⟨_,_,_,_,_,_,_,_,_,_,_,_,_,_,e,-,-⟩:=qm f;have b:m%8<xs.length:=by rw [d];exact Nat.mod_lt _ (by decide)
 have i:m=m / 8*8+m%8:=by omega
 have:=g (m%8) _ (List.getElem?_eq_getElem b);rw [←i,hv] at this;obtain rfl:=Option.some.inj this;have a:=List.getElem_mem b;generalize xs[m%8]=v at a;subst e;simp only [List.mem_cons,List.not_mem_nil,or_false] at a;rcases a with rfl|rfl|rfl|rfl|rfl|rfl|rfl|rfl<;>rfl
theorem PW {x:Rat}{k:Nat}(h:Sz k x):Sz (k+3) (x*((2:Int):Rat)⁻¹):=by
 have a:Sz 2 (((2:Int):Rat))⁻¹:=by unfold Sz;decide +kernel
 exact (h.mul a).mono (by omega)
theorem HP {c:List Rat}{k:Nat}(h:∀q∈c,Sz k q){q:Rat}(hq:q∈cw c):Sz (2*k+4) q:=by
 have g:∀i,i<c.length->Sz k (c.getD i 0):=fun i a=>by rw [fo a];exact h _ (List.getElem_mem a)
 have z:Sz (2*k+4) 0:=by
  have b:(1:Nat)<2^(2*k+4):=Nat.one_lt_two_pow (by omega);exact ⟨Nat.lt_of_le_of_lt (Nat.zero_le _) b,b⟩
 unfold cw at hq;by_cases d:c.length=0
 ·rw [if_pos d] at hq;obtain rfl:q=0:=by simpa using hq
  exact z
 ·rw [if_neg d] at hq;rcases List.mem_append.1 hq with hq|hq
  ·unfold yg at hq;rcases List.mem_cons.1 hq with rfl|hq
   ·exact ((g 0 (by omega)).sub nF).mono (by omega)
   ·obtain ⟨i,a,rfl⟩:=List.mem_map.1 hq;rw [List.mem_range] at a;exact (PW ((g i (by omega)).add (g (i+1) (by omega)))).mono (by omega)
  ·obtain rfl:q=_:=by simpa using hq
   exact ((g _ (by omega)).add nF).mono (by omega)
theorem lL {V:View}{op:Int}{ap bp:OA}{an ac bn bc:Nat}{la' lb':List Sp}(ha:F_ V ap an la')(hb:F_ V bp bn lb')(hl:la'.length+lb'.length<10000000){k:Nat}(sa:∀s∈la',s.sz k)(sb:∀s∈lb',s.sz k)(hk:4*k+8<274877906944) :
  ae prog 46 #[.int .i64 op,.slice ap an ac,.slice bp bn bc] V fun r V'=>∃p n c,r=.slice p n c/\F_ V' p n (combL op la' lb'):=by
 have la:=ha.len;have lb:=hb.len;obtain ⟨xs,x1,x2,x3⟩:=z_ ha.Tz (by decide);obtain ⟨ys,y1,y2,y3⟩:=z_ hb.Tz (by decide);refine rZ op ap an ac bp bn bc V _ ⟨xs,x1,by omega,by omega,Nat.le_refl _,Nat.zero_le _,by omega,?_,fun XG J5 B c3 h1 o=>⟨ys,y1,by omega,by omega,by omega,?_,by omega,?_,fun a3 a4 J c8 t u V1 l1 Ui K=>?_⟩⟩
 ·intro v w;obtain ⟨m,hm,rfl⟩:=List.getElem_of_mem w;exact Dt x3 (by omega) (List.getElem?_eq_getElem hm)
 ·rw [List.take_nil,List.nil_append,List.length_append];omega
 ·intro v w;obtain ⟨m,hm,rfl⟩:=List.getElem_of_mem w;exact Dt y3 (by omega) (List.getElem?_eq_getElem hm)
 have C:Row 8 pz V1 ((([]:List Value).take (0*8)++xs++B).take ((0+an)*8)++ys++J) (la'++lb'):=by
  have e:(([]:List Value).take (0*8)++xs++B).take ((0+an)*8)=xs.take (la'.length*8):=by
   rw [List.take_nil,List.nil_append,la,Nat.zero_add,List.take_append_of_le_length (by omega)]
  rw [e];exact (FB x3 y3 (by decide)).le fun _ _ h=>h.le l1
 have hL:F_ V1 (some ⟨Ui,0,none⟩) (0+an+bn) (la'++lb'):=by
  have:=pW (dR.oM K C)
  rwa [show (la'++lb').length=0+an+bn by rw [List.length_append];omega] at this
 have f:∀s∈la'++lb',s.sz k:=fun s f=>by
  rcases List.mem_append.1 f with f|f
  ·exact sa s f
  ·exact sb s f
 refine (AU hL (by rw [List.length_append];omega) f (by omega)).mono ?_;rintro r V2 l2 ⟨YT,L,M,rfl,N⟩;have cl:=zG (la'++lb');rw [List.length_append] at cl
 have cs:∀q∈endsL (la'++lb'),Sz k q:=fun q I=>by
  obtain ⟨s,D,e⟩:=zH I;rcases e with rfl|rfl
  ·exact (f s D).1
  ·exact (f s D).2
 have QU:combL op la' lb'=CF (endsL (la'++lb')) (i_ op la' lb' (endsL (la'++lb'))):=rfl;rw [QU];generalize endsL (la'++lb')=cuts at N cl cs;refine ⟨YT,L,M,rfl,fun a5 V3 E=>(uZ (N.le E fun _ _ h=>h.le E) (by omega) cs (by omega)).mono ?_⟩;rintro r V4 O ⟨P,l,Q,rfl,hp⟩;have R:=hp.len;rw [fD] at R;have ml:=rG op la' lb' cuts
 have S:∀i (A:i<(cw cuts).length),(i_ op la' lb' cuts).take (i+1)=(i_ op la' lb' cuts).take i++[opB op (lQ la' (cw cuts)[i]==2) (lQ lb' (cw cuts)[i]==2)]:=fun i A=>by
  rw [fD] at A;rw [List.take_add_one,List.getElem?_eq_getElem (by omega)];unfold i_;rw [List.getElem_map];rfl
 refine ⟨P,l,Q,rfl,fun z V'=>∃i:Nat,z.2.2.2=(i:Int)/\i<=cuts.length+1/\z.1=i/\z.1<=z.2.1/\z.2.1*1<=z.2.2.1.length/\Row 1 TW V' z.2.2.1 ((i_ op la' lb' cuts).take i),fun z=>cuts.length+1-z.2.2.2.toNat,
  ⟨(0,0,[],0),by and_intros<;>rfl,0,rfl,Nat.zero_le _,rfl,Nat.le_refl _,Nat.le_refl _,Row.nil⟩,?_⟩
 rintro ⟨g,z2,vs,z4⟩ V5 F ⟨i,e4,Rv,e1,ic,w,d⟩;dsimp only at e4 e1 ic w d;subst e4 e1;refine ⟨rfl,fun j=>?_,fun j ib cu ZY Q9=>?_⟩
 ·have j:(g:Int)<l:=of_decide_eq_true j;have A:g<(cw cuts).length:=by rw [fD];omega
  dsimp only;rw [Int.toNat_natCast];obtain ⟨ad,b,p1,n1,c1,p2,n2,c2,G,I,a0,a1,a2⟩:=wu (hp.le F fun _ _ h=>h.le F) A;have sq:=HP cs (List.getElem_mem A);have L5:V.Le V5:=l1.trans (l2.trans (E.trans (O.trans F)));have T:∀s∈la',s.sz (2*k+4):=fun s f=>⟨(sa s f).1.mono (by omega),(sa s f).2.mono (by omega)⟩;have U:∀s∈lb',s.sz (2*k+4):=fun s f=>⟨(sb s f).1.mono (by omega),(sb s f).2.mono (by omega)⟩;refine ⟨aY G,⟨by omega,by omega⟩,b,p1,n1,c1,p2,n2,c2,ad,G,a0,a1,a2,fun V6 H=>(u_ (ha.le (L5.trans H)) (I.le H) T sq (by omega) (by omega)).mono ?_⟩;rintro r V7 W rfl;refine ⟨_,rfl,fun V8 X=>(u_ (hb.le (L5.trans (H.trans (W.trans X)))) (I.le (H.trans (W.trans X))) U sq (by omega) (by omega)).mono ?_⟩;rintro r V9 l9 rfl;have L9:=H.trans (W.trans (X.trans l9));have hm:=S g A;generalize (lQ la' (cw cuts)[g]==2)=x at hm;generalize (lQ lb' (cw cuts)[g]==2)=y at hm;refine ⟨_,rfl,fun z V'=>V9.Le V'/\z=(x||y),⟨fun d=>⟨true,by and_intros<;>rfl,View.Le.refl _,by rw [d];rfl⟩,fun d=>⟨y,by and_intros<;>rfl,View.Le.refl _,by rw [d];rfl⟩⟩,?_⟩;rintro a6 gu a7 ⟨a8,rfl⟩;refine ⟨rfl,fun z V'=>gu.Le V'/\z=opB op x y,⟨fun o=>?_,fun o=>⟨fun t=>?_,fun t=>⟨fun u=>?_,fun u=>?_⟩⟩⟩,?_⟩
  ·obtain rfl:=eq_of_beq o;exact ⟨fun d=>⟨y,by and_intros<;>rfl,View.Le.refl _,by rw [d];rfl⟩,fun d=>⟨false,by and_intros<;>rfl,View.Le.refl _,by rw [d];rfl⟩⟩
  ·obtain rfl:=eq_of_beq t;exact ⟨fun d=>⟨!y,by and_intros<;>rfl,View.Le.refl _,by rw [d];rfl⟩,fun d=>⟨false,by and_intros<;>rfl,View.Le.refl _,by rw [d];rfl⟩⟩
  ·obtain rfl:=eq_of_beq u;exact ⟨_,by and_intros<;>rfl,View.Le.refl _,rfl⟩
  ·refine ⟨_,by and_intros<;>rfl,View.Le.refl _,?_⟩;have o:¬op=2:=fun e=>by subst e;cases o
   have t:¬op=3:=fun e=>by subst e;cases t
   have u:¬op=4:=fun e=>by subst e;cases u
   unfold opB;rw [if_neg o,if_neg t,if_neg u]
  ·rintro a9 fg bF ⟨b0,rfl⟩;refine ⟨rfl,by omega,ic,w,rfl,?_,fun sp c' h5 h6=>⟨(g+1,c',_,(g:Int)+1),by dsimp only;omega,by and_intros<;>first|rfl|exact aw (by omega),g+1,rfl,by omega,rfl,h5,?_,?_⟩⟩
   ·intro v hm;obtain rfl:v=_:=by simpa using hm
    rfl
   ·dsimp only;have ht:(vs.take (g*1)).length=g*1:=by rw [List.length_take];omega
    rw [List.length_append,List.length_append,ht];simp only [List.length_cons,List.length_nil];omega
   ·dsimp only;have hlen:((i_ op la' lb' cuts).take g).length=g:=by rw [List.length_take];omega
    rw [hm];have:=(d.le (V':=fg) fun _ _ h=>h).snoc (sp:=sp) (xs:=[.bool (opB op x y)]) (a:=opB op x y) rfl rfl (by decide);rw [hlen] at this;exact this
 ·have j:¬(g:Int)<l:=of_decide_eq_false j;obtain rfl:g=cuts.length+1:=by omega
  dsimp only at Q9 ⊢;rw [List.take_of_length_le (by omega)] at d;have hM:=dR.eh (c:=z2) Q9 (d.le (V':=ib) fun _ _ h=>h) (by decide) (by omega);rw [ml] at hM;refine (AQ (N.le (E.trans (O.trans (F.trans cu))) fun _ _ h=>h.le (E.trans (O.trans (F.trans cu)))) hM ml (by omega)).mono ?_;rintro r lG ck ⟨Y,Z,Z6,rfl,hr⟩;exact ⟨Y,Z,Z6,rfl,fun b5 j8 dF=>⟨_,_,_,rfl,pW (hr.le dF fun _ _ h=>h.le dF)⟩⟩
def sideL (m:L3)(k:Int):L3:=if k=1 then m else revL m
theorem Dw {q:Rat}{k:Int}(hk:k=1\/k=-1):(q.num.sign==k)=decide (0<(if k=1 then q else -q)):=by
 rcases uy q with ⟨h,e⟩|⟨h,e⟩|⟨h,e⟩<;>rcases hk with rfl|rfl<;>rw [e]<;>simp<;>grind
theorem DB (m:L3)(k:Int)(x y:Rat):aI (sideL m k) x y=if k=1 then aI m x y else -aI m x y:=by
 unfold sideL;split
 ·rfl
 ·exact val_rev ..
theorem DA (m l:L3)(k:Int):dotL (sideL m k) l=if k=1 then dotL m l else -dotL m l:=by
 unfold sideL;split
 ·rfl
 ·exact dot_rev ..
theorem side_cross (m l:L3)(k:Int):crossL l (sideL m k)=0↔crossL l m=0:=by
 rw [cross_dot,cross_dot,DA];split<;>grind
theorem KI {m l:L3}(k:Int)(h:dotL m l≠0):cutP (sideL m k) l=cutP m l:=by
 unfold sideL;split
 ·rfl
 ·exact cutP_rev h
def Qm (l m:L3):Bool:=decide (crossL l m=0/\aI m (j_ l 0) (kH l 0)=0)
theorem pK {V:View}{v w:Value}{l m:L3}{k:Int}(hk:k=1\/k=-1)(hl:B7 V v l)(hm:B7 V w m)(nz:Nz l)(bl:Bd l)(bm:Bd m) :
  ae prog 45 #[v,w,.int .i64 k] V fun r V'=>∃q n c,r=.tuple #[.slice q n c,.bool (Qm l m)]/\dR 8 pz V' q n (halfU l (sideL m k)):=by
 have d:=hl;have f:=hm;obtain ⟨_,_,_,_,_,_,_,_,_,_,_,_,rfl⟩:=rN hl;obtain ⟨_,_,_,_,_,_,_,_,_,_,_,_,rfl⟩:=rN hm;have sl:=bl.Qo;have sm:=bm.Qo;refine yT _ _ _ _ _ _ _ _ _ _ _ _ _ _ _ _ _ _ _ _ _ _ _ _ k V _ fun V1 y=>(PI (B7.le d y) (B7.le f y) sl sm (by omega)).mono ?_;rintro r V2 l2 ⟨u,rfl,q0,q1⟩;obtain ⟨s1,s2⟩:=MV sl sm;have p:=y.trans l2;by_cases b:crossL l m=0
 ·have H:=q0 b;unfold Nh at H;subst H;refine ⟨_,_,_,_,_,_,_,_,_,_,_,_,_,_,_,rfl,fun _ V3 I=>(MA (B7.le d (p.trans I)) nz bl).mono ?_,fun h=>by simp [b] at h⟩;rintro r V4 l4 J;have z:=J;obtain ⟨_,_,_,_,_,_,_,_,_,_,_,_,rfl,-⟩:=J;have L:=p.trans (I.trans l4);refine ⟨_,_,_,_,_,_,_,_,_,_,_,_,_,_,rfl,fun V5 A=>(Fv (B7.le f (L.trans A)) (z.le A) (sm.up (K:=30000) (by omega)) (KS bl).1 (KS bl).2 (by omega)).mono ?_⟩;rintro r V6 l6 rfl;have Iu:=L.trans (A.trans l6)
  have j:((aI m (j_ l 0) (kH l 0)).num.sign==(0:Int))=Qm l m:=by
   unfold Qm;rcases uy (aI m (j_ l 0) (kH l 0)) with ⟨h,e⟩|⟨h,e⟩|⟨h,e⟩<;>rw [e]<;>simp [b]<;>grind
  have o:halfU l (sideL m k)=if ((aI m (j_ l 0) (kH l 0)).num.sign==k)=true then [fullSp] else []:=by
   unfold halfU;rw [if_pos ((side_cross m l k).2 b),Dw hk,DB];by_cases g:0<(if k=1 then aI m (j_ l 0) (kH l 0) else -aI m (j_ l 0) (kH l 0))
   ·rw [if_pos g,if_pos (decide_eq_true g)]
   ·rw [if_neg g,if_neg (by rw [decide_eq_false g];exact Bool.false_ne_true)]
  refine ⟨_,rfl,fun h V7 l7=>pJ.mono ?_,fun h gu a0=>⟨_,_,_,by rw [j],?_⟩⟩
  ·rintro r V8 l8 M;have OW:=M;obtain ⟨_,_,_,_,_,_,_,_,_,_,_,_,_,_,rfl,-⟩:=M;refine ⟨_,_,_,_,_,_,_,_,_,_,_,_,_,_,_,_,rfl,fun V9 l9 N a=>⟨_,_,_,by rw [j],?_⟩⟩;rw [o,if_pos h];exact dR.oM (V:=V9) a (row_one rfl (OW.le l9))
  ·rw [o,if_neg (by rw [h];exact Bool.false_ne_true)];exact dR.nil
 have O:dotL m l≠0:=fun h=>b (by rw [cross_dot,h];grind);have P:=q1 b;have B:=P;obtain ⟨_,_,_,_,_,_,_,_,_,_,_,_,rfl,-⟩:=P;have j:Qm l m=false:=by unfold Qm;rw [decide_eq_false fun h=>b h.1]
 refine ⟨_,_,_,_,_,_,_,_,_,_,_,_,_,_,_,rfl,fun h=>by simp [b] at h,fun _ fg C=>(p_ (B7.le d (p.trans C)) (B.le C) nz (sl.up (K:=30000) (by omega)) (s1.mono (by omega)) (s2.mono (by omega)) (by omega)).mono ?_⟩;rintro r ib cu gt;have i:RQ ib r (Mv l m):=gt;rw [Kh nz b] at i;clear gt;have D:=i;obtain ⟨_,_,_,_,_,_,rfl⟩:=i.shape;have st:Sz 70000 (cutP m l):=(nt sl sm).mono (by omega);have tG:=p.trans (C.trans cu);refine ⟨_,_,_,_,_,_,_,rfl,fun lG ck=>(eM 1 (by omega) (by omega)).mono ?_⟩;rintro r j8 dF Q;have E:=Q;obtain ⟨_,_,_,_,_,_,rfl⟩:=Q.shape;have F:=ck.trans dF;refine ⟨_,_,_,_,_,_,_,rfl,fun kK s=>(cC (D.le (F.trans s)) (E.le s) st nF (by omega)).mono ?_⟩;rintro r mS R gs;have G:=gs;obtain ⟨_,_,_,_,_,_,rfl⟩:=gs.shape;have S:=tG.trans (F.trans (s.trans R));have ss:Sz 80000 (cutP m l+((1:Int):Rat)):=(st.add nF).mono (by omega);refine ⟨_,_,_,_,_,_,_,rfl,fun pk t=>(SE (B7.le d (S.trans t)) (G.le t) nz (sl.up (K:=80000) (by omega)) ss (by omega)).mono ?_⟩;rintro r uC T U;have Qb:=U;obtain ⟨_,_,_,_,_,_,_,_,_,_,_,_,rfl,-⟩:=U;have W:=S.trans (t.trans T);have sx:=BC (sl.up (K:=80000) (by omega)) ss;have sy:=BD (sl.up (K:=80000) (by omega)) ss;refine ⟨_,_,_,_,_,_,_,_,_,_,_,_,_,_,rfl,fun uD x=>(Fv (k:=10000000) (B7.le f (W.trans x)) (Qb.le x) (sm.up (by omega)) (sx.mono (by omega)) (sy.mono (by omega)) (by omega)).mono ?_⟩;rintro r Ei X rfl;have Y:=W.trans (x.trans X)
 have ev:aI m (j_ l (cutP m l+((1:Int):Rat))) (kH l (cutP m l+((1:Int):Rat)))=dotL m l:=by
  rw [KW];have hi:=Rat.mul_inv_cancel _ O;unfold cutP;have e1:((1:Int):Rat)=1:=rfl;rw [e1];grind
 rw [ev];have Z:=F.trans (s.trans (R.trans (t.trans (T.trans (x.trans X)))))
 have o:halfU l (sideL m k)=if ((dotL m l).num.sign==k)=true then [⟨cutP m l,0,false,true⟩] else [⟨0,cutP m l,true,false⟩]:=by
  unfold halfU;rw [if_neg (fun h=>b ((side_cross m l k).1 h)),Dw hk,DA,KI k O];by_cases g:0<(if k=1 then dotL m l else -dotL m l)
  ·rw [if_pos g,if_pos (decide_eq_true g)]
  ·rw [if_neg g,if_neg (by rw [decide_eq_false g];exact Bool.false_ne_true)]
 refine ⟨_,rfl,fun h y_ iy N a=>⟨_,_,_,by rw [j],?_⟩,fun h xF m_ N a=>⟨_,_,_,by rw [j],?_⟩⟩
 ·rw [o,if_pos h];exact dR.oM (V:=y_) a (row_one rfl ⟨_,_,_,_,_,_,_,_,_,_,_,_,_,_,rfl,D.le (Z.trans iy),Qn _⟩)
 ·rw [o,if_neg (by rw [h];exact Bool.false_ne_true)];exact dR.oM (V:=xF) a (row_one rfl ⟨_,_,_,_,_,_,_,_,_,_,_,_,_,_,rfl,Qn _,D.le (Z.trans m_)⟩)
def TY (V:View)(v:Value)(p:Rat×Rat):Prop:=RP V v p.1 p.2
theorem TY.le {V V':View}{v:Value}{p:Rat×Rat}(h:TY V v p)(l:V.Le V'):TY V' v p:=RP.le h l
theorem Bf {V:View}{bk:Nat}{xs:List Value}{ty:TypeId}{m:Nat×Nat}{s:Sp}(hb:V.bw bk (.cells xs.toArray ty m))(h:pz V (.agg xs.toArray) s):F_ V (some ⟨bk,0,none⟩) 1 [s]:=
 pW (dR.oM hb (row_one (by obtain ⟨_,_,_,_,_,_,_,_,_,_,_,_,_,_,e,-⟩:=qm h;rw [e];rfl) h))
def xr (V:View)(v:Value)(x:L3×Sp):Prop:=RF V v x.1 x.2
theorem xr.le {V V':View}{v:Value}{x:L3×Sp}(h:xr V v x)(l:V.Le V'):xr V' v x:=RF.le h l
theorem ur {l m:L3}(h:Qm l m=true)(k:Int):halfU l (sideL m k)=[]:=by
 have h:crossL l m=0/\aI m (j_ l 0) (kH l 0)=0:=of_decide_eq_true h;unfold halfU;rw [if_pos ((side_cross m l k).2 h.1),DB,h.2];split<;>rw [if_neg (by grind)]
theorem L8 {l m:L3}(bl:Bd l)(bm:Bd m)(k:Int):∀s∈halfU l (sideL m k),s.sz 100000:=by
 have b:Bd (sideL m k):=by unfold sideL;split;exact bm;exact bm.rev
 have st:Sz 100000 (cutP (sideL m k) l):=(nt bl.Qo b.Qo).mono (by omega);have z:=SN 100000 (by omega);intro s a;unfold halfU at a;split at a
 ·split at a
  ·rw [List.mem_singleton.1 a];exact ⟨z,z⟩
  ·cases a
 ·split at a
  ·rw [List.mem_singleton.1 a];exact ⟨st,z⟩
  ·rw [List.mem_singleton.1 a];exact ⟨z,st⟩
theorem xX {s:Sp}(hs:s.can)(l m:L3):(combL 2 [s] (halfU l m)).length<=1:=by
 rcases rA l m with h|⟨u,h,hu⟩
 ·rw [h,comb_nil];exact Nat.zero_le _
 ·rw [h,pL hs hu];split
  ·exact Nat.zero_le _
  ·exact Nat.le_refl _
theorem Jp (l m:L3):(halfU l m).length<=1:=by
 rcases rA l m with h|⟨u,h,hu⟩<;>rw [h]
 ·exact Nat.zero_le _
 ·exact Nat.le_refl _
theorem GA {V:View}{p:OA}{n:Nat}{al:List Sp}(h:dR 8 pz V p n al){i:Nat}(hi:i<al.length) :
  p.isSome=true/\∃(b:Bool)(p1:OA)(n1 c1:Nat)(p2:OA)(n2 c2:Nat)(d:Bool)(p3:OA)(n3 c3:Nat)(p4:OA)(n4 c4:Nat)(a:Addr),ah p (i*8)=some a/\V.at (a.add 0) (.bool b)/\V.at (a.add 1) (.slice p1 n1 c1)/\V.at (a.add 2) (.slice p2 n2 c2)/\V.at (a.add 3) (.bool d)/\V.at (a.add 4) (.slice p3 n3 c3)/\V.at (a.add 5) (.slice p4 n4 c4)/\V.at (a.add 6) (.bool al[i].a)/\V.at (a.add 7) (.bool al[i].b) /\
   pz V (.agg #[.bool b,.slice p1 n1 c1,.slice p2 n2 c2,.bool d,.slice p3 n3 c3,.slice p4 n4 c4,.bool al[i].a,.bool al[i].b]) al[i]:=by
 obtain ⟨j,f,xs,k,g,c⟩:=h.at_ i hi;have e:=g;obtain ⟨_,_,_,_,_,_,_,_,_,_,_,_,_,_,ex,-,-⟩:=g;have ex:=congrArg Array.toList (Value.agg.inj ex);dsimp only at ex;subst ex;refine ⟨?_,_,_,_,_,_,_,_,_,_,_,_,_,_,_,j,f,c 0 _ rfl,c 1 _ rfl,c 2 _ rfl,c 3 _ rfl,c 4 _ rfl,c 5 _ rfl,c 6 _ rfl,c 7 _ rfl,e⟩
 cases p with
 | none=>cases f
 | some a=>rfl
theorem GL {b1:Bool}{p1:OA}{n1 c1:Nat}{b2:Bool}{p2:OA}{n2 c2:Nat}{b3:Bool}{p3:OA}{n3 c3:Nat}{b:Bool}{q1:OA}{m1 e1:Nat}{q2:OA}{m2 e2:Nat}{d:Bool}{q3:OA}{m3 e3:Nat}{q4:OA}{m4 e4:Nat}{x y:Bool} :
  ∀v∈([.bool b1,.slice p1 n1 c1,.bool b2,.slice p2 n2 c2,.bool b3,.slice p3 n3 c3,.bool b,.slice q1 m1 e1,.slice q2 m2 e2,.bool d,.slice q3 m3 e3,.slice q4 m4 e4,.bool x,.bool y]:List Value),v.oneCell'=true:=by
 intro v a;simp only [List.mem_cons,List.not_mem_nil,or_false] at a;rcases a with rfl|rfl|rfl|rfl|rfl|rfl|rfl|rfl|rfl|rfl|rfl|rfl|rfl|rfl<;>rfl
def splS (l:L3)(s:Sp)(m:L3):List (L3×Sp):=(combL 2 [s] (halfU l m)).map fun u=>(l,u)
theorem xT {V:View}{v w:Value}{l m:L3}{s:Sp}(hf:RF V v l s)(hm:B7 V w m)(nz:Nz l)(bl:Bd l)(bm:Bd m)(hs:s.can)(ss:s.sz 1000000) :
  ae prog 15 #[v,w] V fun r V'=>∃p1 n1 c1 p2 n2 c2,r=.tuple #[.slice p1 n1 c1,.slice p2 n2 c2]/\dR 14 xr V' p1 n1 (splS l s m)/\dR 14 xr V' p2 n2 (splS l s (revL m)):=by
 have o:=hm;obtain ⟨_,_,_,_,_,_,_,_,_,_,_,_,_,_,_,_,_,_,_,_,_,_,_,_,_,_,rfl,y,hS⟩:=hf;obtain ⟨_,_,_,_,_,_,_,_,_,_,_,_,rfl⟩:=rN hm;have s1:sideL m 1=m:=rfl;have s2:sideL m (-1)=revL m:=rfl;have C:=L8 bl bm;have RW:=fun k=>xX hs l (sideL m k);have RX:=fun k=>Jp l (sideL m k);refine xj _ _ _ _ _ _ _ _ _ _ _ _ _ _ _ _ _ _ _ _ _ _ _ _ _ _ _ _ _ _ _ _ _ _ _ _ _ _ _ _ V _ ⟨fun _=>⟨by decide,fun V1 G=>(pK (l:=l) (.inl rfl) (RL.le y G) (B7.le o G) nz bl bm).mono ?_⟩,fun h=>by cases h⟩;rintro r V2 l2 ⟨q1,n1,c1,rfl,hH⟩;have xw:=G.trans l2;refine ⟨_,_,_,_,rfl,fun f V3 l3=>⟨_,_,_,_,_,_,rfl,?_,?_⟩,fun f V4 D a2 H=>(lL (op:=2) (la':=[s]) (lb':=halfU l (sideL m 1)) (Bf H (hS.le (xw.trans D))) (pW (hH.le D fun _ _ g=>pz.le g D)) (by have:=RX 1;rw [List.length_singleton];omega) (k:=1000000) (fun z c=>List.mem_singleton.1 c▸ss) (fun z c=>⟨(C 1 z c).1.mono (by omega),(C 1 z c).2.mono (by omega)⟩) (by omega)).mono ?_⟩
 ·unfold splS;rw [←s1,ur f,comb_nil];exact dR.nil
 ·unfold splS;rw [←s2,ur f,comb_nil];exact dR.nil
 rintro r V5 l5 ⟨p4,n4,c4,rfl,E⟩;have RB:=xw.trans (D.trans l5);have E:=E.Tz;have la:=RW 1;have YB:=E.len;generalize hA:combL 2 [s] (halfU l (sideL m 1))=A at *;refine ⟨_,_,_,rfl,fun _=>⟨fun z V'=>∃j:Nat,z.1=(j:Int)/\j<=A.length/\z.2.2.2.1=0/\z.2.2.2.2.1=0/\z.2.2.2.2.2.2=[]/\GR 14 xr V' z.2.1 z.2.2.1 z.2.2.2.2.2.1 ((A.take j).map fun u=>(l,u)),fun z=>A.length-z.1.toNat,⟨(0,0,0,0,0,[],[]),by and_intros<;>rfl,0,rfl,Nat.zero_le _,rfl,rfl,rfl,GR.nil⟩,?_⟩⟩;rintro ⟨zi,x1,x2,x3,x4,xs,ys⟩ V6 I ⟨j,p,B2,e3,e4,e5,i⟩;dsimp only at p e3 e4 e5 i ⊢;subst p e3 e4 e5;have q:=RB.trans I;refine ⟨by trivial,fun b=>?_,fun b=>⟨fun _=>⟨by decide,fun V7 J=>(pK (l:=l) (.inr rfl) (RL.le y (q.trans J)) (B7.le o (q.trans J)) nz bl bm).mono ?_⟩,fun h=>by cases h⟩⟩
 ·have b:(j:Int)<n4:=of_decide_eq_true b;have n:j<A.length:=by omega
  have wr:i64.wrap ((j:Int)+1)=((j+1:Nat):Int):=by rw [aw (by omega)];rfl
  rw [wr,Int.toNat_natCast];obtain ⟨is,_,_,_,_,_,_,_,_,_,_,_,_,_,_,K,L,M,b1,b2,b3,b4,N,O,P,gs⟩:=GA (E.le I fun _ _ g=>pz.le g I) n;have Q:A.take (j+1)=A.take j++[A[j]]:=(List.take_append_getElem n).symm;have R:=i.len;rw [List.length_map,List.length_take] at R;generalize A[j]=u at *;refine ⟨is,⟨by omega,by omega⟩,_,_,_,_,_,_,_,_,_,_,_,_,_,_,_,_,K,L,M,b1,b2,b3,b4,N,O,P,by decide,by omega,i.le,i.cap,rfl,GL,fun sp S T U=>⟨by decide,(((j+1:Nat):Int),x1+1,S,0,0,_,[]),by dsimp only;omega,by and_intros<;>rfl,j+1,rfl,n,rfl,rfl,rfl,?_⟩⟩;rw [Q,List.map_append];exact i.snoc (a:=(l,u)) rfl ⟨_,_,_,_,_,_,_,_,_,_,_,_,_,_,_,_,_,_,_,_,_,_,_,_,_,_,rfl,RL.le y q,gs⟩ (by decide) T U
 have b:¬(j:Int)<n4:=of_decide_eq_false b;obtain rfl:j=A.length:=by omega
 rw [List.take_length] at i;rintro r V8 l8 ⟨q2,n2,c2,rfl,W⟩;have NP:=J.trans l8;refine ⟨_,_,_,_,rfl,fun f V9 l9=>⟨_,_,_,_,_,_,rfl,?_,?_⟩,fun f gu d ZX Vc=>(lL (op:=2) (la':=[s]) (lb':=halfU l (sideL m (-1))) (Bf Vc (hS.le (q.trans (NP.trans d)))) (pW (W.le d fun _ _ g=>pz.le g d)) (by have:=RX (-1);rw [List.length_singleton];omega) (k:=1000000) (fun z c=>List.mem_singleton.1 c▸ss) (fun z c=>⟨(C (-1) z c).1.mono (by omega),(C (-1) z c).2.mono (by omega)⟩) (by omega)).mono ?_⟩
 ·unfold splS;rw [←s1,ur f,comb_nil];exact dR.nil
 ·unfold splS;rw [←s2,ur f,comb_nil];exact dR.nil
 rintro r fg bF ⟨a3,t,a4,rfl,F⟩;have F:=F.Tz;have lb:=RW (-1);have a1:=F.len;generalize hB:combL 2 [s] (halfU l (sideL m (-1)))=B at *;have RO:=NP.trans (d.trans bF);refine ⟨_,_,_,rfl,fun _=>⟨fun z V'=>∃j:Nat,z.1=(j:Int)/\j<=B.length/\GR 14 xr V' z.2.1 z.2.2.1 z.2.2.2.2.2.1 (A.map fun u=>(l,u))/\GR 14 xr V' z.2.2.2.1 z.2.2.2.2.1 z.2.2.2.2.2.2 ((B.take j).map fun u=>(l,u)),fun z=>B.length-z.1.toNat,⟨(0,x1,x2,0,0,xs,[]),by and_intros<;>rfl,0,rfl,Nat.zero_le _,i.mono fun _ _ g=>xr.le g RO,GR.nil⟩,?_⟩⟩;rintro ⟨zi,y1,y2,y3,y4,us,ws⟩ ib X ⟨j,p,B2,x,e⟩;dsimp only at p x e ⊢;subst p;have tG:=q.trans (RO.trans X);refine ⟨by trivial,fun b=>?_,fun b=>⟨(fun h=>by cases h),fun _=>⟨by decide,by decide,fun lG ck a5 a6 Y Z=>?_⟩⟩⟩
 ·have b:(j:Int)<t:=of_decide_eq_true b;have n:j<B.length:=by omega
  have wr:i64.wrap ((j:Int)+1)=((j+1:Nat):Int):=by rw [aw (by omega)];rfl
  rw [wr,Int.toNat_natCast];obtain ⟨is,_,_,_,_,_,_,_,_,_,_,_,_,_,_,K,L,M,b1,b2,b3,b4,N,O,P,gs⟩:=GA (F.le X fun _ _ g=>pz.le g X) n;have Q:B.take (j+1)=B.take j++[B[j]]:=(List.take_append_getElem n).symm;have R:=e.len;rw [List.length_map,List.length_take] at R;generalize B[j]=u at *;refine ⟨is,⟨by omega,by omega⟩,_,_,_,_,_,_,_,_,_,_,_,_,_,_,_,_,K,L,M,b1,b2,b3,b4,N,O,P,by decide,by omega,e.le,e.cap,rfl,GL,fun sp S T U=>⟨by decide,(((j+1:Nat):Int),y1,y2,y3+1,S,us,_),by dsimp only;omega,by and_intros<;>rfl,j+1,rfl,n,x,?_⟩⟩;rw [Q,List.map_append];exact e.snoc (a:=(l,u)) rfl ⟨_,_,_,_,_,_,_,_,_,_,_,_,_,_,_,_,_,_,_,_,_,_,_,_,_,_,rfl,RL.le y tG,gs⟩ (by decide) T U
 ·have b:¬(j:Int)<t:=of_decide_eq_false b;obtain rfl:j=B.length:=by omega
  rw [List.take_length] at e;have e1:=x.len;have e2:=e.len;have f1:=x.le;have f2:=e.le;have g1:splS l s m=A.map fun u=>(l,u):=by unfold splS;rw [←hA];rfl
  have g2:splS l s (revL m)=B.map fun u=>(l,u):=by unfold splS;rw [←hB];rfl
  rw [g1,g2];subst e1 e2;exact ⟨_,_,_,_,_,_,rfl,dR.eh Y (x.row.le fun _ _ g=>xr.le g ck) (by decide) f1,dR.eh Z (e.row.le fun _ _ g=>xr.le g ck) (by decide) f2⟩
theorem wk:∀{a b:List Rat},asc a->asc b->(∀x,x∈a↔x∈b)->a=b
 | [],[],_,_,_=>rfl
 | [],y::b,_,_,h=>by have:=(h y).2 (List.mem_cons_self ..);cases this
 | x::a,[],_,_,h=>by have:=(h x).1 (List.mem_cons_self ..);cases this
 | x::a,y::b,h1,h2,h=>by
  obtain ⟨g,j⟩:=List.pairwise_cons.1 h1;obtain ⟨i,l⟩:=List.pairwise_cons.1 h2
  have e:x=y:=by
   rcases List.mem_cons.1 ((h x).1 (List.mem_cons_self ..)) with e|e
   ·exact e
   ·rcases List.mem_cons.1 ((h y).2 (List.mem_cons_self ..)) with c|c
    ·exact c.symm
    ·have:=g y c;have:=i x e;grind
  subst e;rw [wk j l fun z=>?_];have d:=h z;rw [List.mem_cons,List.mem_cons] at d;refine ⟨fun k=>?_,fun k=>?_⟩
  ·rcases d.1 (.inr k) with rfl|f
   ·exact absurd (g z k) (by grind)
   ·exact f
  ·rcases d.2 (.inr k) with rfl|f
   ·exact absurd (i z k) (by grind)
   ·exact f
def eQ (a b:Rat):Bool:=decide (a=b)
theorem I_:∀{r:List Rat} {p:Rat},(p::r).Pairwise (fun x y=>¬y<x)->asc (ki eQ p r)/\(∀x∈ki eQ p r,p<x)/\∀x,x∈p::ki eQ p r↔x∈p::r
 | [],p,_=>⟨List.Pairwise.nil,(fun x h=>by cases h),fun x=>Iff.rfl⟩
 | a::r,p,h=>by
  obtain ⟨h1,h2⟩:=List.pairwise_cons.1 h;obtain ⟨i1,i2,i3⟩:=I_ h2;unfold ki;by_cases e:a=p
  ·subst e;rw [if_pos (by simp [eQ])];refine ⟨i1,i2,fun x=>?_⟩;rw [i3 x];simp
  ·rw [if_neg (by simp [eQ,e])];have b:p<a:=by have:=h1 a (by simp);grind
   refine ⟨List.pairwise_cons.2 ⟨i2,i1⟩,fun x c=>?_,fun x=>?_⟩
   ·rcases List.mem_cons.1 c with rfl|c
    ·exact b
    ·have:=i2 x c;grind
   ·have:=i3 x;show x∈p::a::ki eQ a r↔x∈p::a::r;rw [List.mem_cons,this,←List.mem_cons]
theorem OL {m:List Rat}(h:m.Pairwise (fun x y=>¬y<x)):asc (gT eQ m)/\∀x,x∈gT eQ m↔x∈m:=by
 cases m with
 | nil=>exact ⟨List.Pairwise.nil,fun x=>Iff.rfl⟩
 | cons p r=>
  obtain ⟨a,b,c⟩:=I_ h;exact ⟨List.pairwise_cons.2 ⟨b,a⟩,c⟩
def ascL (l:List Rat):List Rat:=l.foldl (fun o x=>cB x o) []
theorem ascL_spec (l:List Rat):asc (ascL l)/\∀x,x∈ascL l↔x∈l:=by
 have:∀(l o:List Rat),asc o->asc (l.foldl (fun o x=>cB x o) o)/\∀x,x∈l.foldl (fun o x=>cB x o) o↔x∈o\/x∈l:=by
  intro l
  induction l with
  | nil=>intro o h;exact ⟨h,fun x=>by simp⟩
  | cons y r ih=>
   intro o h;obtain ⟨a,b⟩:=ih (cB y o) (CT h);refine ⟨a,fun x=>?_⟩;rw [List.foldl_cons,b x,vC,List.mem_cons];constructor
   ·rintro ((h|h)|h)<;>simp [h]
   ·rintro (h|h|h)<;>simp [h]
 obtain ⟨a,b⟩:=this l [] List.Pairwise.nil;exact ⟨a,fun x=>by rw [ascL,b x];simp⟩
theorem Hf {l m:List Rat}(hp:m.Perm l)(h:m.Pairwise (fun x y=>¬y<x)):gT eQ m=ascL l:=by
 obtain ⟨a,b⟩:=OL h;obtain ⟨c,d⟩:=ascL_spec l;exact wk a c fun x=>by rw [b x,d x];exact hp.mem_iff
theorem LB {l m:List Rat}(h:∀x,x∈l↔x∈m):ascL l=ascL m:=by
 obtain ⟨a,b⟩:=ascL_spec l;obtain ⟨c,d⟩:=ascL_spec m;exact wk a c fun x=>by rw [b x,d x];exact h x
def chop:Sp->List Rat->List Sp
 | s,[]=>[s]
 | s,t::r=>⟨s.lo,t,s.a,false⟩::chop ⟨t,s.hi,false,s.b⟩ r
theorem HF {l m:L3}:∀u∈halfU l m,u.good:=fun u hu=>by
 unfold halfU at hu;split at hu
 ·split at hu
  ·rw [List.mem_singleton.1 hu];exact kj
  ·cases hu
 ·split at hu
  ·rw [List.mem_singleton.1 hu];exact ⟨⟨(fun h=>by cases h),fun _=>rfl⟩,rfl⟩
  ·rw [List.mem_singleton.1 hu];exact ⟨⟨fun _=>rfl,(fun h=>by cases h)⟩,rfl⟩
theorem J8 (l m:L3):combL 2 [fullSp] (halfU l m)=halfU l m:=by
 rcases rA l m with h|⟨u,h,-⟩
 ·rw [h,comb_nil]
 ·rw [h];exact vY (HF u (by rw [h];exact List.mem_singleton.2 rfl))
theorem spl_side {l m:L3}{s:Sp}(hs:s.good):splS l s m=sideF l s m:=by
 have h:=H7 (l:=l) (m:=m) hs;rw [J8] at h;unfold splS sideF;rw [h];split<;>rfl
def lS:Rat:=0
def Ld (a b:Rat):Int:=cmpQ a b
theorem Ev {a b:Rat}:Ld a b<0↔a<b:=cmpQ_neg
theorem NY:Ord Ld:=⟨fun a b h=>by rw [Ev] at *;grind,fun a b d c e=>by rw [Ev] at *;grind⟩
def uj (V:View)(v:Value)(c:Rat):Prop:=RR V v c/\Sz 1000000 c
theorem uj.le {V V':View}{v:Value}{c:Rat}(h:uj V v c)(l:V.Le V'):uj V' v c:=⟨h.1.le l,h.2⟩
theorem uj.shape {V:View}{v:Value}{c:Rat}(h:uj V v c):∃(x y:Int)(p:OA),v=.agg #[.int .i64 x,.int .i64 y,.pointer p]:=by
 obtain ⟨x,y,p,e⟩:=h.1.shape;exact ⟨_,_,_,e⟩
theorem Ey {V:View}{v w:Value}{a b:Rat}(h:uj V v a)(h':uj V w b):ae prog 111 #[v,w] V fun r V'=>r=.int .i64 (Ld a b):=
 jr h.1 h'.1 h.2 h'.2 (by omega)
def eR (a b:Rat):Bool:=eQ a b
theorem I5 {V:View}{v w:Value}{a b:Rat}(h:uj V v a)(h':uj V w b):ae prog 90 #[v,w] V fun r V'=>r=.bool (eR a b):=
 kc h.1 h'.1 h.2 h'.2 (by omega)
structure Au (V:View) (n:Nat) (vs:List Value) (l:List Rat):Prop where
 row:Row 3 uj V vs l
 len:n=l.length
 x_:l.length<50
theorem Au.le {V V':View}{n:Nat}{vs:List Value}{l:List Rat}(h:Au V n vs l)(e:V.Le V'):Au V' n vs l:=⟨h.row.le fun _ _ g=>uj.le g e,h.len,h.x_⟩
theorem Au.get {V:View}{n:Nat}{vs:List Value}{l:List Rat}(h:Au V n vs l){k:Nat}(hk:k<l.length):∃(x y:Int)(p:OA),
  ((0+k*3)+3<=vs.length/\(vs.drop (0+k*3)).take 3=[.int .i64 x,.int .i64 y,.pointer p])/\uj V (.agg #[.int .i64 x,.int .i64 y,.pointer p]) (l.getD k lS):=by
 obtain ⟨xs,-,b,c,f⟩:=h.row.get (d:=lS) hk (by decide);have a:=b;obtain ⟨x,y,p,e⟩:=b.shape;have e:=congrArg Array.toList (Value.agg.inj e);dsimp only at e;subst e;rw [Nat.zero_add];exact ⟨x,y,p,⟨c,f⟩,a⟩
theorem Au.swap {V:View}{n:Nat}{vs:List Value}{l:List Rat}(h:Au V n vs l){i j:Nat}(hi:i<l.length)(hj:j<l.length){x y:Int}{p:OA}{x' y':Int}{p':OA}
  (h1:uj V (.agg #[.int .i64 x,.int .i64 y,.pointer p]) (l.getD i lS))(h2:uj V (.agg #[.int .i64 x',.int .i64 y',.pointer p']) (l.getD j lS)) :
  (0+i*3)+3<=vs.length/\(0+j*3)+3<=(aU vs (0+i*3) [.int .i64 x',.int .i64 y',.pointer p']).length /\
  Au V n (aU (aU vs (0+i*3) [.int .i64 x',.int .i64 y',.pointer p']) (0+j*3) [.int .i64 x,.int .i64 y,.pointer p]) (pr lS l i j):=by
 obtain ⟨-,-,-,a,-⟩:=h.row.get (d:=lS) hi (by decide);obtain ⟨-,-,-,b,-⟩:=h.row.get (d:=lS) hj (by decide);rw [Nat.zero_add,Nat.zero_add];refine ⟨a,by rw [fN (by exact a)];exact b,h.row.swap hi hj (by decide) rfl rfl h1 h2,by rw [f_];exact h.len,by rw [f_];exact h.x_⟩
def IC (lb n:Nat)(l:List Rat)(a b:Nat)(V':View)(Q:List Rat->Prop):Prop:=∃vs' l',V'.w.heap[lb]?=some (.cells vs'.toArray 98 (0,0))/\Au V' n vs' l'/\pj lS l l' a b/\Q l'
theorem qX {V:View}{lb n c:Nat}{vs:List Value}{l:List Rat}(hw:V.w.heap[lb]?=some (.cells vs.toArray 98 (0,0)))(hx:V.X lb)(h:Au V n vs l){a b:Nat}(zR:a<=b)(hb:b<=l.length) :
  ae prog 206 #[.slice (some ⟨lb,0,none⟩) n c,.int .i64 a,.int .i64 b,.func (.func 111) #[] #[]] V fun r V'=>r=.tuple #[]/\IC lb n l a b V' fun l'=>ui Ld lS l' a b:=by
 have x_:=h.x_;have len:=h.len;have M:i64.wrap ((a:Int)+1)=((a+1:Nat):Int):=by rw [aw (by omega)];omega
 refine gk lb n c vs a b V _ hw hx ⟨fun z V'=>∃(i:Nat)(m:List Rat),z.1=(i:Int)/\a<i/\(i<=b\/i=a+1)/\Au V' n z.2 m/\pj lS l m a b/\ui Ld lS m a i,fun z=>(b-z.1).toNat,
  ⟨(_,vs),by and_intros<;>rfl,a+1,l,M,by omega,.inr rfl,h,.refl _ _ _,.short (by omega)⟩,?_⟩
 rintro ⟨z,us⟩ T U ⟨i,m,e,N,q,f,d,o⟩;dsimp only at e f;subst e;dsimp only;have W:m.length=l.length:=d.len;refine ⟨rfl,fun g=>?_,fun g Y O P=>⟨rfl,us,m,P,f.le O,d,?_⟩⟩
 ·have g:(i:Int)<b:=of_decide_eq_true g;have Q:i64.wrap ((i:Int)+1)=((i+1:Nat):Int):=by rw [aw (by omega)];omega
  rw [Q];refine ⟨fun z V'=>∃(j:Nat)(k:List Rat),z.1=(j:Int)/\a<=j/\j<=i/\Au V' n z.2 k/\pj lS l k a b/\Nc Ld lS k a i j,fun z=>z.1.toNat,⟨((i:Int),us),by and_intros<;>rfl,i,m,rfl,by omega,Nat.le_refl _,f,d,.start o⟩,?_⟩;rintro ⟨z,ws⟩ V2 Z ⟨j,k,e,R,u,f,d,p⟩;dsimp only at e f;subst e;dsimp only;have kl:k.length=l.length:=d.len;refine ⟨rfl,fun z V'=>V2.Le V'/\(z=true->a<j/\Ld (k.getD j lS) (k.getD (j-1) lS)<0)/\(z=false->j<=a\/¬Ld (k.getD j lS) (k.getD (j-1) lS)<0),⟨fun s=>?_,fun s=>?_⟩,?_⟩
  ·have s:(j:Int)>a:=of_decide_eq_true s;have y:i64.wrap ((j:Int)-1)=((j-1:Nat):Int):=by rw [aw (by omega)];omega
   rw [y,Int.toNat_natCast,Int.toNat_natCast];obtain ⟨A,B,C,D,E⟩:=f.get (k:=j) (by omega);obtain ⟨F,G,H,I,J⟩:=f.get (k:=j-1) (by omega);refine ⟨⟨by omega,by omega⟩,A,B,C,D,⟨by omega,by omega⟩,F,G,H,I,fun V3 K=>(Ey (E.le K) (J.le K)).mono ?_⟩;rintro r V4 S rfl;exact ⟨_,rfl,_,by and_intros<;>rfl,K.trans S,fun h=>⟨by omega,of_decide_eq_true h⟩,fun h=>.inr (of_decide_eq_false h)⟩
  ·have s:¬(j:Int)>a:=of_decide_eq_false s;exact ⟨false,by and_intros<;>rfl,View.Le.refl _,(fun h=>nomatch h),fun _=>.inl (by omega)⟩
  ·rintro t V5 x ⟨lv,t1,t2⟩;refine ⟨rfl,fun L=>?_,fun L=>⟨(((i+1:Nat):Int),ws),by dsimp only;omega,by and_intros<;>rfl,i+1,k,rfl,by omega,.inl (by omega),f.le x,d,p.done NY u (t2 L)⟩⟩;obtain ⟨s,v⟩:=t1 L;have y:i64.wrap ((j:Int)-1)=((j-1:Nat):Int):=by rw [aw (by omega)];omega
   rw [y,Int.toNat_natCast,Int.toNat_natCast];obtain ⟨A,B,C,D,E⟩:=(f.le x).get (k:=j) (by omega);obtain ⟨F,G,H,I,J⟩:=(f.le x).get (k:=j-1) (by omega);obtain ⟨s1,s2,s3⟩:=(f.le x).swap (i:=j) (j:=j-1) (by omega) (by omega) E J
   exact ⟨⟨by omega,by omega⟩,F,G,H,I,⟨by omega,by omega⟩,A,B,C,D,⟨by omega,by omega⟩,s1,⟨by omega,by omega⟩,s2,(((j-1:Nat):Int),_),by dsimp only;omega,by and_intros<;>rfl,j-1,_,rfl,by omega,by omega,s3,
    d.trans (pj.pr (by omega) (by omega) (by omega) (by omega) (by omega)),p.move NY s u (by omega) v⟩
 ·have g:¬(i:Int)<b:=of_decide_eq_false g;rcases q with q|q
  ·rw [show b=i by omega];exact o
  ·exact .short (by omega)
theorem tv {V:View}:ae prog 110 #[.slice none 0 0,.func (.func 111) #[] #[]] V fun r V'=>r=.tuple #[]:=by
 have ins:∀{W:View},ae prog 206 #[.slice none 0 0,.int .i64 0,.int .i64 0,.func (.func 111) #[] #[]] W fun r V'=>r=.tuple #[]:=by
  intro W;refine eK 0 0 W _ ⟨fun z _=>z=1,fun _=>0,⟨1,by and_intros<;>first|rfl|exact aw (by omega),rfl⟩,?_⟩;rintro z e f rfl;exact ⟨rfl,fun h=>absurd (of_decide_eq_true h) (by omega),fun _ V2 g=>rfl⟩
 refine jX V _ fun e f=>(uS 0 (by omega)).mono ?_;rintro r V2 g rfl;refine ⟨_,rfl,fun b m=>?_⟩
 have a:ae prog 167 #[.slice none 0 0,.int .i64 0,.int .i64 0,.int .i64 (bG 0:Int),.func (.func 111) #[] #[]] b fun r V'=>r=.tuple #[]:=by
  refine gK 0 0 _ b _ ⟨fun z _=>z.1=0/\z.2.1=0,fun _=>0,⟨(0,0,_,true,true),by and_intros<;>rfl,rfl,rfl⟩,?_⟩;rintro ⟨n,o,p,q,s⟩ t u ⟨c,d⟩;dsimp only at c d;subst c d;dsimp only;refine ⟨rfl,fun _ v w=>ins.mono ?_,fun h=>absurd (of_decide_eq_false h) (by decide)⟩;rintro r i j rfl;exact ⟨rfl,fun k l=>rfl⟩
 refine a.mono ?_;rintro r i j rfl;exact ⟨rfl,fun k l=>rfl⟩
set_option maxHeartbeats 1000000 in
theorem uP {V:View}{lb n c:Nat}{vs:List Value}{l:List Rat}(hw:V.w.heap[lb]?=some (.cells vs.toArray 98 (0,0)))(hx:V.X lb)(h:Au V n vs l)(hc:n<=c) :
  ae prog 112 #[.slice (some ⟨lb,0,none⟩) n c,.func (.func 90) #[] #[]] V fun r V'=>∃vs',r=.slice (some ⟨lb,0,none⟩) (gT eR l).length c/\V'.w.heap[lb]?=some (.cells vs'.toArray 98 (0,0))/\Row 3 uj V' vs' (gT eR l)/\vs'.length=vs.length:=by
 have x_:=h.x_;have len:=h.len;have a0:=h.row.gF (by decide);refine kF lb n c vs V _ hw hx ⟨fun x V1 l1 I=>?_,fun x=>⟨fun z V'=>∃k:Nat,z=((k+1:Nat):Int)/\k+1<=n/\gT eR (l.take (k+1))=l.take (k+1),fun z=>n-z.toNat,⟨1,by and_intros<;>rfl,0,rfl,by have:=of_decide_eq_false x;omega,Cu (by rw [List.length_take];omega)⟩,?_⟩⟩
 ·have x:(n:Int)<2:=of_decide_eq_true x;have e:=Cu (e:=eR) (l:=l) (by omega);rw [e,←len];exact ⟨vs,rfl,I,h.row.le fun _ _ g=>uj.le g l1,rfl⟩
 have x:¬(n:Int)<2:=of_decide_eq_false x;rintro z V2 J ⟨k,rfl,hk,j⟩;have E:=h.le J;refine ⟨rfl,fun b=>?_,fun b V9 l9 K=>?_⟩;rotate_left
 ·have b:¬((k+1:Nat):Int)<n:=of_decide_eq_false b;have e:l.take (k+1)=l:=List.take_of_length_le (by omega);rw [e] at j;rw [j,←len];exact ⟨vs,rfl,K,h.row.le fun _ _ g=>uj.le g (J.trans l9),rfl⟩
 have b:((k+1:Nat):Int)<n:=of_decide_eq_true b;have w1:i64.wrap (((k+1:Nat):Int)-1)=(k:Int):=by rw [aw (by omega)];omega
 have w2:i64.wrap (((k+1:Nat):Int)+1)=((k+1+1:Nat):Int):=by rw [aw (by omega)];rfl
 rw [w1,w2,Int.toNat_natCast,Int.toNat_natCast];obtain ⟨y,A,B,G,F⟩:=E.get (k:=k+1) (by omega);obtain ⟨L,M,N,O,H⟩:=E.get (k:=k) (by omega);refine ⟨⟨by omega,b⟩,y,A,B,G,⟨by omega,by omega⟩,L,M,N,O,fun V3 P=>(I5 (F.le P) (H.le P)).mono ?_⟩;rintro r V4 l4 rfl;have step:=mW (e:=eR) (d:=lS) (l:=l) (k:=k) (by omega);refine ⟨_,rfl,fun he=>⟨⟨by omega,by omega⟩,?_⟩,fun he=>⟨((k+1+1:Nat):Int),by dsimp only;omega,by and_intros<;>rfl,k+1,rfl,by omega,?_⟩⟩;rotate_left
 ·have p:eR (l.getD (k+1) lS) (l.getD k lS)=false:=he;rw [step,j,p];show l.take (k+1)++[_]=_;have C:k+1<l.length:=by omega
  rw [show l.getD (k+1) lS=l[k+1] by rw [List.getD_eq_getElem?_getD,List.getElem?_eq_getElem C];rfl,List.take_append_getElem C]
 have p:eR (l.getD (k+1) lS) (l.getD k lS)=true:=he;have Ek:=P.trans l4;have W:∀{m:Nat},m<c->Bz 0 c m 3=m*3:=fun hm=>by unfold Bz;rw [if_neg (by omega),Nat.zero_add]
 refine ⟨fun z V'=>∃(q t:Nat)(m:List Rat),z.1=(q:Int)/\z.2.1=((t+1:Nat):Int)/\q<=k+1+t/\k+1+t+1<=n/\Au V' n z.2.2 m/\z.2.2.length=vs.length/\(∀i,k+1+t<=i->m.getD i lS=l.getD i lS)/\m.take q=gT eR (l.take (k+1+t+1)),fun z=>n-z.2.1.toNat,
  ⟨(((k+1:Nat):Int),1,vs),by and_intros<;>rfl,k+1,0,l,rfl,rfl,by omega,by omega,h.le (J.trans Ek),rfl,fun i _=>rfl,?_⟩,?_⟩
 ·rw [Nat.add_zero,step,p,if_pos rfl,List.append_nil,j]
 rintro ⟨zq,zt,us⟩ V5 l5 ⟨q,t,m,Y,Z,hq,ht,s,Q,hm,D⟩;dsimp only at Y Z s Q;subst Y Z;dsimp only;have ml:=s.len;have a3:=s.row.gF (by decide);refine ⟨rfl,fun a=>?_,fun a=>?_⟩
 ·have a:((t+1:Nat):Int)<((n-(k+1):Nat):Int):=of_decide_eq_true a;have w3:i64.wrap (((t+1:Nat):Int)-1)=(t:Int):=by rw [aw (by omega)];omega
  have w4:i64.wrap (((t+1:Nat):Int)+1)=((t+1+1:Nat):Int):=by rw [aw (by omega)];rfl
  have w5:i64.wrap ((q:Int)+1)=((q+1:Nat):Int):=by rw [aw (by omega)];rfl
  rw [w3,w4,w5,Int.toNat_natCast,Int.toNat_natCast,Int.toNat_natCast,W (by omega)];obtain ⟨y,A,B,G,F⟩:=s.get (k:=k+1+(t+1)) (by omega);obtain ⟨L,M,N,O,H⟩:=s.get (k:=k+1+t) (by omega);have a1:(k+1)*3+(t+1)*3=0+(k+1+(t+1))*3:=by omega
  have a2:(k+1)*3+t*3=0+(k+1+t)*3:=by omega
  rw [a1,a2];rw [hm _ (by omega)] at F;rw [hm _ (by omega)] at H;refine ⟨⟨by omega,a⟩,y,A,B,G,⟨by omega,by omega⟩,L,M,N,O,fun V6 R=>(I5 (F.le R) (H.le R)).mono ?_⟩;rintro r V7 l7 rfl;have S:=R.trans l7;have f:=mW (e:=eR) (d:=lS) (l:=l) (k:=k+1+t) (by omega);refine ⟨_,rfl,fun T=>⟨⟨by omega,a⟩,y,A,B,G,⟨by omega,by omega⟩,by omega,(((q+1:Nat):Int),((t+1+1:Nat):Int),_),by dsimp only;omega,by and_intros<;>rfl,q+1,t+1,m.set q (l.getD (k+1+(t+1)) lS),rfl,rfl,by omega,by omega,?_,?_,fun i C=>?_,?_⟩,fun T=>⟨(((q:Nat):Int),((t+1+1:Nat):Int),us),by dsimp only;omega,by and_intros<;>rfl,q,t+1,m,rfl,rfl,by omega,by omega,s.le S,Q,fun i C=>hm i (by omega),?_⟩⟩
  ·refine ⟨?_,by rw [List.length_set];exact ml,by rw [List.length_set];exact s.x_⟩;have:=(s.le S).row.put (i:=q) (by omega) (by decide) (xs:=[.int .i64 y,.int .i64 A,.pointer B]) rfl (F.le S);dsimp only;rw [Nat.zero_add];exact this
  ·exact (fN (vs:=us) (xs:=[.int .i64 y,.int .i64 A,.pointer B]) (o:=0+q*3) (by show 0+q*3+3<=_;omega)).trans Q
  ·rw [List.getD_eq_getElem?_getD,List.getElem?_set_ne (by omega),←List.getD_eq_getElem?_getD];exact hm i (by omega)
  ·have u:eR (l.getD (k+1+(t+1)) lS) (l.getD (k+1+t) lS)=false:=by simpa using T
   have v:eR (l.getD (k+1+t+1) lS) (l.getD (k+1+t) lS)=false:=u;have C:q<m.length:=by omega
   rw [show k+1+(t+1)+1=k+1+t+2 from rfl,f,v,←D,if_neg (by decide)];rw [List.take_set,List.take_add_one,List.getElem?_eq_getElem C,show (some m[q]).toList=[m[q]] from rfl];rw [List.set_append_right _ _ (by rw [List.length_take];omega),List.length_take,Nat.min_eq_left (by omega),Nat.sub_self];rfl
  ·have u:eR (l.getD (k+1+(t+1)) lS) (l.getD (k+1+t) lS)=true:=by simpa using T
   have v:eR (l.getD (k+1+t+1) lS) (l.getD (k+1+t) lS)=true:=u;rw [show k+1+(t+1)+1=k+1+t+2 from rfl,f,v,if_pos rfl,List.append_nil,D]
 ·have a:¬((t+1:Nat):Int)<((n-(k+1):Nat):Int):=of_decide_eq_false a;have hl:l.take (k+1+t+1)=l:=List.take_of_length_le (by omega);rw [hl] at D
  have a4:q<n:=by
   have:=LQ (e:=eR) (d:=lS) (l:=l) (k:=k) (by omega) p;rw [←D,List.length_take] at this;omega
  rw [Int.toNat_natCast,W (by omega)];have hz:q*3+(n-q)*3=n*3:=by rw [←Nat.add_mul];congr 1;omega
  rw [hz];refine ⟨⟨by omega,by omega⟩,by omega,⟨by omega,by omega⟩,fun V8 l8 U=>⟨_,?_,U,?_,?_⟩⟩
  ·rw [←D,List.length_take,Nat.min_eq_left (by omega)]
  ·rw [←D,List.append_assoc];exact (s.row.le fun _ _ g=>uj.le g l8).LN (by omega) (by decide)
  ·simp only [List.length_append,List.length_take,List.length_drop,nH,List.length_flatten,List.map_replicate,List.sum_replicate_nat,List.length_cons,List.length_nil];omega
theorem oA {V:View}:ae prog 112 #[.slice none 0 0,.func (.func 90) #[] #[]] V fun r V'=>r=.slice none 0 0:=
 iE V _ ⟨fun _ a b=>rfl,fun h=>absurd (of_decide_eq_false h) (by decide)⟩
theorem AF {V:View}{lb n c:Nat}{vs:List Value}{l:List Rat}(h12:l.length<=12)(hw:V.w.heap[lb]?=some (.cells vs.toArray 98 (0,0)))(hx:V.X lb)(h:Au V n vs l) :
  ae prog 110 #[.slice (some ⟨lb,0,none⟩) n c,.func (.func 111) #[] #[]] V fun r V'=>r=.tuple #[]/\∃vs' l',V'.w.heap[lb]?=some (.cells vs'.toArray 98 (0,0))/\Au V' n vs' l'/\l'.Perm l/\l'.Pairwise fun x y=>¬Ld y x<0:=by
 have x_:=h.x_;have len:=h.len;have w:u64.wrap (n:Int)=n:=aN (by omega);refine mR lb n c vs V _ hw hx ?_;rw [w];refine fun E t=>(uS n (by omega)).mono ?_;rintro r V2 f rfl
 have g:∀{W:View} {d:Nat},W.w.heap[d]?=some (.cells vs.toArray 98 (0,0))->W.X d->Au W n vs l->ae prog 167 #[.slice (some ⟨d,0,none⟩) n c,.int .i64 0,.int .i64 (n:Int),.int .i64 (bG n:Int),.func (.func 111) #[] #[]] W fun r V'=>r=.tuple #[]/\IC d n l 0 n V' fun l'=>ui Ld lS l' 0 n:=by
  intro W d hw hx h;refine jm d n c vs 0 n (bG n:Int) W _ hw hx ⟨fun z V'=>z.1=0/\z.2.1=(n:Int)/\Au V' n z.2.2.2.2.2 l,fun _=>0,⟨(0,(n:Int),(bG n:Int),true,true,vs),by and_intros<;>rfl,rfl,rfl,h⟩,?_⟩;rintro ⟨S,T,F,U,wp,us⟩ E t ⟨u,e,v⟩;dsimp only at u e v;subst u e;dsimp only;have G:i64.wrap ((n:Int)-0)=(n:Int):=by rw [aw (by omega)];omega
  rw [G];refine ⟨rfl,fun _ V2 f d e H=>(qX (V:=V2.aF [d]) e ⟨by simp,H⟩ (v.le f) (a:=0) (b:=n) (by omega) (by omega)).mono ?_,fun h12=>by have:=of_decide_eq_false h12;omega⟩;rintro r A B ⟨rfl,ws,I,k,m,p,J⟩;exact ⟨rfl,ws,k,fun K C q=>⟨rfl,ws,I,q,m.le fun b o h=>C b o h,p,J⟩⟩
 refine ⟨_,rfl,fun A B d k L=>(g (W:=A.aF [d]) k ⟨by simp,L⟩ (h.le fun b o h=>B b o (f b o (t b o h)))).mono ?_⟩;rintro r K C ⟨rfl,vs',l',M,s,D,asc⟩;refine ⟨rfl,vs',M,fun Y N O=>⟨rfl,vs',l',O,s.le fun b o h=>N b o h,D.perm,?_⟩⟩;have sl:=D.len;refine List.pairwise_iff_getElem.2 fun i j P Q R=>?_;have:=asc i j (by omega) R (by omega);rw [List.getD_eq_getElem?_getD,List.getD_eq_getElem?_getD,List.getElem?_eq_getElem P,List.getElem?_eq_getElem Q] at this;simp only [Option.getD_some] at this;exact this
end Go.Proofs.Tryz
namespace Go.Proofs.Tryz
open Go.Eng
set_option maxRecDepth 100000
end Go.Proofs.Tryz
namespace Go.Proofs.Tryz
open Go.Eng Go.Big
def Lq (V:View)(v:Value)(x:L3×Sp):Prop:=xE V v x.1 x.2
theorem Ds {V:View}{xs:List Value}{x:L3×Sp}(h:Lq V (.agg xs.toArray) x):∀v∈xs,v.oneCell'=true:=by
 obtain ⟨_,_,_,_,_,_,_,_,_,_,_,_,_,_,_,ex,-,-⟩:=h;have ex:=congrArg Array.toList (Value.agg.inj ex);dsimp only at ex;subst ex;intro v a;simp only [List.mem_cons,List.not_mem_nil,or_false] at a;rcases a with rfl|rfl|rfl|rfl|rfl|rfl|rfl|rfl|rfl|rfl|rfl|rfl|rfl|rfl|rfl|rfl|rfl<;>rfl
def Lt (V:View)(v:Value)(c:Rat×Rat):Prop:=jY V v c.1 c.2
def cutsG (l:L3)(s:Sp)(ps:List (Rat×Rat)):List Rat:=(ps.filter fun p=>decide (aI l p.1 p.2=0)&&s.ins (dz l p.1 p.2)).map fun p=>dz l p.1 p.2
theorem vg (l:L3)(s:Sp)(ps:List (Rat×Rat))(p:Rat×Rat):cutsG l s (ps++[p])=cutsG l s ps++if (decide (aI l p.1 p.2=0)&&s.ins (dz l p.1 p.2))=true then [dz l p.1 p.2] else []:=by
 unfold cutsG;rw [List.filter_append,List.map_append];congr 1;by_cases h:(decide (aI l p.1 p.2=0)&&s.ins (dz l p.1 p.2))=true
 ·rw [if_pos h];simp only [List.filter_cons,List.filter_nil];rw [if_pos h];rfl
 ·rw [if_neg h];simp only [List.filter_cons,List.filter_nil];rw [if_neg h];rfl
theorem mX (l:L3)(s:Sp)(ps:List (Rat×Rat)):(cutsG l s ps).length<=ps.length:=by
 unfold cutsG;rw [List.length_map];exact List.length_filter_le ..
theorem chop_len:∀(s:Sp)(l:List Rat),(chop s l).length=l.length+1
 | _,[]=>rfl
 | s,t::r=>by show (chop _ r).length+1=_;rw [chop_len];rfl
set_option maxHeartbeats 1000000 in
theorem I2 {V:View}{v:Value}{p:OA}{n c:Nat}{L:L3}{s:Sp}{ps:List (Rat×Rat)}(h:xE V v L s)(hp:dR 6 Lt V p n ps){k:Nat}(sl:eG k L)(ss:s.sz k)(sp:∀q∈ps,Sz k q.1/\Sz k q.2)(hn:ps.length<=12)(hk:8*k+7<=1000000) :
  ae prog 52 #[v,.slice p n c] V fun r V'=>∃q m e,r=.slice q m e/\dR 17 Lq V' q m ((chop s (ascL (cutsG L s ps))).map fun t=>(L,t)):=by
 obtain rfl:=hp.len;obtain ⟨f0,f1,f2,f3,f4,f5,f6,f7,f8,f9,f10,f11,f12,f13,f14,rfl,h1,h2⟩:=h;refine yu _ _ _ _ _ _ _ _ _ _ _ _ _ _ _ _ _ p _ c V _ ⟨fun z V'=>∃j:Nat,z.2.2.2=(j:Int)/\j<=ps.length/\GR 3 uj V' z.1 z.2.1 z.2.2.1 (cutsG L s (ps.take j))/\(z.2.2.1≠[]->z.1≠0),fun z=>ps.length-z.2.2.2.toNat,⟨(0,0,[],0),by and_intros<;>rfl,0,rfl,Nat.zero_le _,GR.nil,fun h=>absurd rfl h⟩,?_⟩;rintro ⟨O,D,vs,z4⟩ V1 Q ⟨j,R,B2,E,F⟩;dsimp only at R E F;subst R;have zl:=E.len;refine ⟨rfl,fun f=>?_,fun f=>?_⟩
 ·have f:(j:Int)<ps.length:=of_decide_eq_true f;have hi:j<ps.length:=by omega
  have w:i64.wrap ((j:Int)+1)=((j+1:Nat):Int):=by rw [aw (by omega)];rfl
  dsimp only;rw [Int.toNat_natCast,w];obtain ⟨ad,h0,xs,-,T,A⟩:=(hp.le Q fun _ _ g=>jY.le g Q).at_ j hi;have Ru:jY V1 (.agg xs.toArray) ps[j].1 ps[j].2:=T;obtain ⟨_,_,_,_,_,_,ex,-,-⟩:=T;have ex:=congrArg Array.toList (Value.agg.inj ex);dsimp only at ex;subst ex;obtain ⟨s1,s2⟩:=sp _ (List.getElem_mem hi);have tk:ps.take (j+1)=ps.take j++[ps[j]]:=(List.take_append_getElem hi).symm;have cl:=mX L s (ps.take j);rw [List.length_take] at cl;refine ⟨aY h0,⟨by omega,by omega⟩,_,_,_,_,_,_,ad,h0,A 0 _ rfl,A 1 _ rfl,A 2 _ rfl,A 3 _ rfl,A 4 _ rfl,A 5 _ rfl,fun V2 U=>(A6 (h1.le (Q.trans U)) (Ru.le U) sl s1 s2 (by omega)).mono ?_⟩;rintro r V3 l3 g3;have jZ:RR V3 r (dz L ps[j].1 ps[j].2):=g3;obtain ⟨_,_,_,rfl⟩:=g3.shape;have Oi:=Q.trans (U.trans l3);refine ⟨_,_,_,rfl,fun b V'=>V3.Le V'/\b=(decide (aI L ps[j].1 ps[j].2=0)&&s.ins (dz L ps[j].1 ps[j].2)),fun V4 S=>(Pl (h1.le (Oi.trans S)) (Ru.le (U.trans (l3.trans S))) sl s1 s2 (by omega)).mono ?_,?_⟩
  ·rintro r V5 l5 rfl;have Lo:=iz (aI L ps[j].1 ps[j].2);refine ⟨_,rfl,fun u V6 l6=>(Ck (h2.le (Oi.trans (S.trans (l5.trans l6)))) (jZ.le (S.trans (l5.trans l6))) (k:=8*k+7) ⟨ss.1.mono (by omega),ss.2.mono (by omega)⟩ (lD sl s1 s2) (by omega)).mono ?_,fun u=>⟨_,by and_intros<;>rfl,S.trans l5,?_⟩⟩
   ·rintro r V7 l7 rfl;have u:=Lo.1 (beq_iff_eq.1 u);exact ⟨_,rfl,_,by and_intros<;>rfl,S.trans (l5.trans (l6.trans l7)),by rw [decide_eq_true u,Bool.true_and]⟩
   ·have u:¬aI L ps[j].1 ps[j].2=0:=fun e=>by rw [Lo.2 e] at u;cases u
    rw [decide_eq_false u,Bool.false_and]
  rintro b V8 l8 ⟨-,rfl⟩;have d_:=U.trans (l3.trans l8);have K:=vg L s (ps.take j) ps[j];rw [←tk] at K;refine ⟨rfl,fun X=>⟨by omega,E.le,E.cap,rfl,?_,fun c1 c' Y Z=>⟨(O+1,c',_,((j+1:Nat):Int)),by dsimp only;omega,by and_intros<;>rfl,j+1,rfl,hi,?_⟩⟩,fun X=>⟨(O,D,vs,((j+1:Nat):Int)),by dsimp only;omega,by and_intros<;>rfl,j+1,rfl,hi,?_⟩⟩
  ·intro x hx;simp only [List.mem_cons,List.not_mem_nil,or_false] at hx;rcases hx with rfl|rfl|rfl<;>rfl
  ·rw [K,if_pos X];exact ⟨(E.mono (V':=V8) fun _ _ g=>uj.le g d_).snoc rfl ⟨jZ.le l8,(lD sl s1 s2).mono (by omega)⟩ (by decide) Y Z,fun _=>Nat.succ_ne_zero _⟩
  ·rw [K,if_neg (by rw [X];decide),List.append_nil];exact ⟨E.mono fun _ _ g=>uj.le g d_,F⟩
 have f:¬(j:Int)<ps.length:=of_decide_eq_false f;obtain rfl:j=ps.length:=by omega
 rw [List.take_length] at E zl;have cl:=mX L s ps;have hle:=E.le;have b0:=E.cap;refine ⟨fun ws V'=>V1.Le V'/\∃m:List Rat,m.Perm (cutsG L s ps)/\(m.Pairwise fun x y=>¬y<x)/\(ws=[]->D=0/\O=0/\m=[])/\(ws≠[]->D≠0/\Au V' O ws m),⟨fun u=>?_,fun u fg bF B e1 e2=>?_⟩,?_⟩
 ·subst u;have c0:D=0:=by simp at b0;omega
  subst c0;have n0:O=0:=by omega
  subst n0;have b5:cutsG L s ps=[]:=List.length_eq_zero_iff.1 zl.symm;refine ⟨rfl,fun V9 l9=>tv.mono ?_⟩;rintro r gu b9 rfl;exact ⟨rfl,[],by and_intros<;>rfl,l9.trans b9,[],by rw [b5],List.Pairwise.nil,fun _=>⟨rfl,rfl,rfl⟩,fun h=>absurd rfl h⟩
 ·have G:D≠0:=by have:=F u;omega
  have Li:∀b,mA b D=some ⟨b,0,none⟩:=fun b=>by unfold mA;rw [if_neg G]
  dsimp only;rw [Li];refine (AF (by omega) (V:=fg.aF [vb vs fg.w.heap.size B]) (lb:=B) (vs:=vs) (l:=cutsG L s ps) (e1 u) ⟨by simp [N_ u],e2 u⟩ ⟨E.row.le fun _ _ g=>uj.le g fun b o h=>bF b o h,zl,by omega⟩).mono ?_;rintro r ib cu ⟨rfl,ws,m,e3,sr,pm,pw⟩;have R3:=pm.length_eq
  have hw:ws≠[]:=fun e=>by
   have:=sr.row.gF (by decide);rw [e,R3,←zl] at this;simp at this;exact F u (by omega)
  exact ⟨rfl,u,ws,hw,e3,ws,by and_intros<;>rfl,fun b o h=>cu b o (bF b o h),m,pm,pw.imp fun h e=>h (Ev.2 e),fun e=>absurd e hw,fun _=>⟨G,sr.le fun b o h=>h⟩⟩
 rintro ws lG-⟨ck,m,pm,pw,m0,m1⟩;refine ⟨rfl,fun j8 dF B q1 q2=>?_⟩;dsimp only;have ec:gT eR m=ascL (cutsG L s ps):=Hf pm pw;have acl:(ascL (cutsG L s ps)).length<=m.length:=by rw [←ec];exact Ct
 have R3:=pm.length_eq;generalize ascL (cutsG L s ps)=cs at ec acl ⊢
 have hC:ae prog 112 #[.slice (mA B D) O D,.func (.func 90) #[] #[]] (j8.aF [vb ws j8.w.heap.size B]) fun r J=>∃(H:Nat)(us:List Value),(us≠[]->J.w.heap[H]?=some (.cells us.toArray 98 (0,0)))/\(us≠[]->j8.w.heap.size<=H\/(ws≠[]/\H=B)) /\
   ∃e,r=.slice (mA H e) cs.length e/\cs.length<=e/\Row 3 uj (J.shut.gX (us≠[]) H) us cs/\V1.Le (J.shut.gX (us≠[]) H):=by
  by_cases hw:ws=[]
  ·obtain ⟨rfl,rfl,rfl⟩:=m0 hw;subst ec;refine oA.mono ?_;rintro r J dw rfl;exact ⟨0,[],fun h=>absurd rfl h,fun h=>absurd rfl h,0,rfl,Nat.le_refl _,Row.nil,fun b o h=>CY (fun h=>absurd rfl h) b o (dw b o (dF b o (ck b o h)))⟩
  ·obtain ⟨G,sr⟩:=m1 hw;have Li:mA B D=some ⟨B,0,none⟩:=by unfold mA;rw [if_neg G]
   rw [Li];refine ae.R5 (uP (V:=j8.aF [vb ws j8.w.heap.size B]) (lb:=B) (vs:=ws) (l:=m) (q1 hw) ⟨by simp [N_ hw],q2 hw⟩ (sr.le fun b o h=>dF b o h) hle) ?_;rintro r J dw hH ⟨us,rfl,R,row,wl⟩;rw [ec] at row ⊢;have lh:=CY (V:=J) (P:=us≠[]) (b:=B) fun _=>hH B (q2 hw);exact ⟨B,us,fun _=>R,fun _=>.inr ⟨hw,rfl⟩,D,by rw [Li],by omega,row.le fun _ _ g=>uj.le g lh,fun b o h=>lh b o (dw b o (dF b o (ck b o h)))⟩
 refine hC.mono ?_;clear hC m0 m1 q1 q2;rintro r J-⟨H,us,u1,u2,e,rfl,b6,C,lW⟩;have hlen:=C.gF (by decide);refine ⟨H,us,u1,u2,none,cs.length,e,rfl,?_⟩;generalize J.shut.gX (us≠[]) H=W at C lW ⊢;clear u1 u2;obtain ⟨_,_,_,_,_,_,e2,h3,h4⟩:=h2.le (Q.trans lW);simp only [Value.agg.injEq,Array.mk.injEq,List.cons.injEq,Value.int.injEq,Value.pointer.injEq,true_and,and_true] at e2;obtain ⟨rfl,rfl,rfl,rfl,rfl,rfl⟩:=e2
 refine ⟨fun (n,c,vs,i,a0,a1,a2,a3,a4,a5,a6,a7,a8,a9,Ov,Ow,I,P8,P9,Ox,b7) V'=>∃(j:Nat)(o:List (L3×Sp))(r:Sp),i=(j:Int)/\j<=cs.length/\GR 17 Lq V' n c vs o/\o.length=j /\
   uk V' (.agg #[.int .i64 a0,.int .i64 a1,.pointer a2,.int .i64 a3,.int .i64 a4,.pointer a5,.int .i64 a6,.int .i64 a7,.pointer a8]) L/\RR V' (.agg #[.int .i64 a9,.int .i64 Ov,.pointer Ow]) r.lo/\RR V' (.agg #[.int .i64 I,.int .i64 P8,.pointer P9]) r.hi/\Ox=r.a/\b7=r.b /\
   o++(chop r (cs.drop j)).map (fun t=>(L,t))=(chop s cs).map fun t=>(L,t),fun z=>cs.length-z.2.2.2.1.toNat,
  ⟨(0,0,[],0,f0,f1,f2,f3,f4,f5,f6,f7,f8,f9,f10,f11,f12,f13,f14,s.a,s.b),by and_intros<;>rfl,0,[],s,rfl,Nat.zero_le _,GR.nil,rfl,h1.le (Q.trans lW),h3,h4,rfl,rfl,rfl⟩,?_⟩
 rintro ⟨n,c',os,i,a0,a1,a2,a3,a4,a5,a6,a7,a8,a9,Ov,Ow,I,P8,P9,Ox,b7⟩ mS dh ⟨j,o,r,R,B2,M,ol,r1,r2,r3,e5,e6,N⟩;subst R e5 e6;have c3:=M.len;refine ⟨rfl,fun f=>?_,fun f=>?_⟩
 ·have f:(j:Int)<(cs.length:Nat):=of_decide_eq_true f;have hi:j<cs.length:=by omega
  have w:i64.wrap ((j:Int)+1)=((j+1:Nat):Int):=by rw [aw (by omega)];rfl
  dsimp only;rw [Int.toNat_natCast,w];obtain ⟨ys,-,y2,y3,y4⟩:=C.get (d:=0) hi (by decide);rw [List.getD_eq_getElem?_getD,List.getElem?_eq_getElem hi] at y2;have b8:RR W (.agg ys.toArray) cs[j]:=y2.1;obtain ⟨x,y,q,ex⟩:=y2.shape;have ex:=congrArg Array.toList (Value.agg.inj ex);dsimp only at ex;subst ex;have he:xE mS (.agg #[.int .i64 a0,.int .i64 a1,.pointer a2,.int .i64 a3,.int .i64 a4,.pointer a5,.int .i64 a6,.int .i64 a7,.pointer a8,.int .i64 a9,.int .i64 Ov,.pointer Ow,.int .i64 x,.int .i64 y,.pointer q,.bool r.a,.bool false]) L ⟨r.lo,cs[j],r.a,false⟩:=⟨_,_,_,_,_,_,_,_,_,_,_,_,_,_,_,rfl,r1,_,_,_,_,_,_,rfl,r2,b8.le dh⟩;refine ⟨⟨by omega,f⟩,b6,_,_,_,⟨y3,y4⟩,by omega,M.le,M.cap,rfl,Ds (V:=mS) (x:=(L,_)) he,fun sp c2 Y Z=>⟨(n+1,c2,_,((j+1:Nat):Int),a0,a1,a2,a3,a4,a5,a6,a7,a8,x,y,q,I,P8,P9,false,r.b),by dsimp only;omega,by and_intros<;>rfl,j+1,o++[(L,⟨r.lo,cs[j],r.a,false⟩)],⟨cs[j],r.hi,false,r.b⟩,rfl,hi,M.snoc (a:=(L,_)) rfl he (by decide) Y Z,by rw [List.length_append,ol];rfl,r1,b8.le dh,r3,rfl,rfl,?_⟩⟩;rw [←N,List.drop_eq_getElem_cons hi,List.append_assoc];rfl
 ·have f:¬(j:Int)<(cs.length:Nat):=of_decide_eq_false f;obtain rfl:j=cs.length:=by omega
  rw [List.drop_length] at N;have he:xE mS (.agg #[.int .i64 a0,.int .i64 a1,.pointer a2,.int .i64 a3,.int .i64 a4,.pointer a5,.int .i64 a6,.int .i64 a7,.pointer a8,.int .i64 a9,.int .i64 Ov,.pointer Ow,.int .i64 I,.int .i64 P8,.pointer P9,.bool r.a,.bool r.b]) L r:=⟨_,_,_,_,_,_,_,_,_,_,_,_,_,_,_,rfl,r1,_,_,_,_,_,_,rfl,r2,r3⟩;refine ⟨by omega,M.le,M.cap,rfl,Ds (V:=mS) (x:=(L,_)) he,fun sp c2 Y Z pk cZ c4 X=>⟨_,_,_,rfl,?_⟩⟩;have g:=M.snoc (a:=(L,r)) rfl he (by decide) Y Z;rw [show o++[(L,r)]=(chop s cs).map fun t=>(L,t) from N] at g;have:=dR.eh X (g.row.le fun _ _ g=>xE.le g cZ) (by decide) (by rw [←g.len];exact g.le);rw [←g.len] at this;exact this
end Go.Proofs.Tryz
namespace Go.Proofs.Tryz
open Go.Eng
set_option maxRecDepth 100000
end Go.Proofs.Tryz
namespace Go.Proofs.Tryz
open Go.Eng Go.Big
def ON:L3×Sp:=((0,0,0),⟨0,0,false,false⟩)
def La (V:View)(v:Value)(c:L3×Sp):Prop:=xE V v c.1 c.2/\eG 10000 c.1
theorem La.le {V V':View}{v:Value}{c:L3×Sp}(h:La V v c)(l:V.Le V'):La V' v c:=⟨h.1.le l,h.2⟩
theorem La.shape {V:View}{v:Value}{c:L3×Sp}(h:La V v c):∃(x y:Int)(p:OA)(xb yb:Int)(pb:OA)(xc yc:Int)(pc:OA)(xd yd:Int)(pd:OA)(xe ye:Int)(pe:OA)(fa fb:Bool),v=.agg #[.int .i64 x,.int .i64 y,.pointer p,.int .i64 xb,.int .i64 yb,.pointer pb,.int .i64 xc,.int .i64 yc,.pointer pc,.int .i64 xd,.int .i64 yd,.pointer pd,.int .i64 xe,.int .i64 ye,.pointer pe,.bool fa,.bool fb]:=by
 obtain ⟨⟨_,_,_,_,_,_,_,_,_,_,_,_,_,_,_,e,-⟩,-⟩:=h;exact ⟨_,_,_,_,_,_,_,_,_,_,_,_,_,_,_,_,_,e⟩
end Go.Proofs.Tryz
