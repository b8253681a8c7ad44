import Derived.Test.YtdhlkpfmlimjfaaGreatDoorC16
import Derived.Test.YtdhlkpfmlimjfaaGreatDoorC15
import Derived.Test.YtdhlkpfmlimjfaaGreatDoorC8
import Derived.Test.YtdhlkpfmlimjfaaGreatDoorC10
import Derived.Test.YtdhlkpfmlimjfaaGreatDoorC9
import Derived.Laws.IdiomCopy
import Derived.Lib.Overlaps
import Derived.Lib.JoinLaws
import Derived.Lib.AppendZerosOnto
import Derived.Test.YtdhlkpfmlimjfaaGreatDoorC6
import Derived.Shelf.RegionOpenPlain
import Derived.Lib.Walk
import Derived.Lib.SliceRun
import Derived.Laws.NewBlocks
import Derived.Test.YtdhlkpfmlimjfaaGreatDoorC14
import Derived.Test.YtdhlkpfmlimjfaaGreatDoorC13
set_option linter.unusedVariables false
open Go.IntKind (i64 u64 u32)
namespace Go.Proofs.Tryz
open Go.Eng Go.Big
section
variable {M:List L3} {c:List Sd} (h:CanC M c) (hk:∀m ∈ M,okL m=true) (hb:∀s ∈ c,s.2.a=false/\s.2.b=false)
include h hk hb
end
end Go.Proofs.Tryz
namespace Go.Proofs.Tryz
open Go.Eng Go.Big
section
variable {M:List L3} {c:List Sd} (h:CanC M c) (hk:∀m ∈ M,okL m=true)
include h hk
theorem pF:∀m∈c.map Prod.fst,okL m=true:=fun m hm=>by
 obtain ⟨s,a,rfl⟩:=List.mem_map.1 hm;exact hk _ (h.mem s a).1
theorem JF {l:L3}(hl:l∈c.map Prod.fst):Sec.Es (c.map Prod.fst) l:=by
 obtain ⟨s,b,rfl⟩:=List.mem_map.1 hl;obtain ⟨d,e⟩:=je h hk b
 exact ⟨(f_ s.1 s.2.bX,gy s.1 s.2.bX),d,fun m hm a=>by
  obtain ⟨u,hu,rfl⟩:=List.mem_map.1 hm;exact e _ (h.mem u hu).1 a⟩
theorem DZ:∃c',dA (c.map Prod.fst) [] []=some c'/\CanC (c.map Prod.fst).reverse c'/\c'.map Prod.fst=c.map Prod.fst:=by
 have ok:=pF h hk;obtain ⟨d,f⟩:=oG ok;obtain ⟨q,g⟩:=h.pos
 cases e:dA (c.map Prod.fst) [] [] with
 | none=>exact absurd ⟨q,(zi h hk q).2 g⟩ (f e).2.2
 | some c'=>
  obtain ⟨l,a,-⟩:=d c' e;refine ⟨c',rfl,a,oz (List.pairwise_map.2 a.asc) (List.pairwise_map.2 h.asc) fun x=>?_⟩;constructor
  ·intro b;obtain ⟨s,i,rfl⟩:=List.mem_map.1 b;exact List.mem_reverse.1 (a.mem s i).1
  ·intro b;obtain ⟨v,j⟩:=a.all x (List.mem_reverse.2 b) (Es.of (fun y k=>List.mem_reverse.1 k) (JF h hk b));exact List.mem_map.2 ⟨_,j,rfl⟩
end
end Go.Proofs.Tryz
namespace Go.Proofs.Tryz
open Go.Eng Go.Big
theorem kX.up {k K:Nat}{l:L3}(h:kX k l)(hk:k<=K):kX K l:=⟨h.1.mono hk,h.2.1.mono hk,h.2.2.mono hk⟩
theorem AJ {L M:L3}{s:Sp}{k K:Nat}(sl:kX k L)(sm:kX k M)(hs:s.sz K)(hk:60*k+60<=K):(cN L s M).sz K:=by
 have z:=MB K (by omega);have c:=(tz sl sm).mono hk;unfold cN;split
 ·exact hs
 ·split
  ·exact Sp.Ah hs ⟨c,z⟩
  ·exact Sp.Ah hs ⟨z,c⟩
theorem Fx {k:Nat}(hk:0<k):fullSp.sz k:=⟨MB k hk,MB k hk⟩
def R3 (s:Sd):Prop:=Bd s.1/\s.2.sz 100000
theorem FA {x:Sd}:∀{r:List Sd} {i:Nat},i<=r.length->(∀k (h:k<r.length),k<i->Sec.ang (Sec.dirL r[k].1) (Sec.dirL x.1)<0)->(∀h:i<r.length,¬Sec.ang (Sec.dirL r[i].1) (Sec.dirL x.1)<0)->lG x r=r.take i++x::r.drop i
 | [],i,hi,_,_=>by simp [lG]
 | s::r,0,_,_,h=>by
  have:¬Sec.ang (Sec.dirL s.1) (Sec.dirL x.1)<0:=h (Nat.zero_lt_succ _);unfold lG;rw [if_neg this];rfl
 | s::r,i+1,hi,h1,h2=>by
  have:Sec.ang (Sec.dirL s.1) (Sec.dirL x.1)<0:=h1 0 (Nat.zero_lt_succ _) (Nat.zero_lt_succ _);unfold lG;rw [if_pos this,FA (r:=r) (i:=i) (by simpa using hi) (fun k hk a=>h1 (k+1) (by simpa using hk) (by omega)) fun h=>h2 (by simpa using h)];rfl
structure Bs (r:List Sd) (l:L3) (i j:Nat):Prop where
 le:i<=j
 len:j<=r.length
 lo:∀k (h:k<r.length),k<i->Sec.ang (Sec.dirL r[k].1) (Sec.dirL l)<0
 hi:∀h:j<r.length,¬Sec.ang (Sec.dirL r[j].1) (Sec.dirL l)<0
theorem Bs.start (r:List Sd)(l:L3):Bs r l 0 r.length:=⟨Nat.zero_le _,Nat.le_refl _,fun k h hk=>absurd hk (Nat.not_lt_zero _),fun h=>absurd h (Nat.lt_irrefl _)⟩
theorem Bs.up {r:List Sd}{l:L3}{i j h:Nat}(b:Bs r l i j)(asc:r.Pairwise fun s u=>Sec.ang (Sec.dirL s.1) (Sec.dirL u.1)<0)(h2:h<j)(hl:h<r.length)(hc:Sec.ang (Sec.dirL r[h].1) (Sec.dirL l)<0):Bs r l (h+1) j:=
 ⟨h2,b.len,fun k hk a=>by
  by_cases e:k=h
  ·subst e;exact hc
  ·exact zw (List.pairwise_iff_getElem.1 asc k h hk hl (by omega)) hc,b.hi⟩
theorem Bs.down {r:List Sd}{l:L3}{i j h:Nat}(b:Bs r l i j)(h1:i<=h)(hl:h<r.length)(hc:¬Sec.ang (Sec.dirL r[h].1) (Sec.dirL l)<0):Bs r l i h:=
 ⟨h1,by omega,b.lo,fun _=>hc⟩
theorem Bs.done {r:List Sd}{l:L3}{i:Nat}(b:Bs r l i i)(v:Sp):lG (l,v) r=r.take i++(l,v)::r.drop i:=FA b.len b.lo b.hi
theorem RR.half (V:View):RR V (.agg #[.int .i64 1,.int .i64 1,.pointer none]) (((2:Int):Rat)⁻¹):=by
 have a:(((2:Int):Rat)⁻¹).num=1:=by decide +kernel
 have b:(((2:Int):Rat)⁻¹).den=2:=by decide +kernel
 refine .inl ⟨by rw [a,b];rfl,?_⟩;unfold Wd;rw [a,b];decide
theorem HU {V:View}{v:Value}{x:Rat}(hx:RR V v x){k:Nat}(hk:Sz k x)(hkm:k+2<1099511627776) :
  Acts prog 235 #[v] V fun r V'=>RR V' r (x*((2:Int):Rat)⁻¹):=by
 have d:=hx;obtain ⟨a,b,c,rfl⟩:=hx.shape;refine vI a b c V _ fun e f=>(iP (d.le f) (RR.half e) hk (dJ AL) hkm).mono ?_;rintro r V2 j g;have h:=g;obtain ⟨u,v,w,rfl⟩:=g.shape;exact ⟨_,_,_,rfl,fun l i=>h.le i⟩
theorem Bu {V:View}{v:Value}{s:Sp}(h:Fh V v s){k:Nat}(hs:s.sz k)(hk:4*k+8<1099511627776) :
  Acts prog 211 #[v] V fun r V'=>RR V' r s.bX:=by
 obtain ⟨D,E,p,F,G,q,rfl,n,o⟩:=h;have H:s.a=true->s.b=true->s.bX=0:=fun x y=>by simp [Sp.bX,x,y]
 have I:s.a=true->s.b=false->s.bX=s.hi-((1:Int):Rat):=fun x y=>by simp [Sp.bX,x,y]
 have J:s.a=false->s.b=true->s.bX=s.lo+((1:Int):Rat):=fun x y=>by simp [Sp.bX,x,y]
 have K:s.a=false->s.b=false->s.bX=(s.lo+s.hi)*((2:Int):Rat)⁻¹:=fun x y=>by simp [Sp.bX,x,y]
 have no:∀{P:Prop},s.a=true->s.a=false->P:=fun x y=>by rw [x] at y;cases y
 have L:∀{P:Prop},s.b=true->s.b=false->P:=fun x y=>by rw [x] at y;cases y
 refine qV D E p F G q s.a s.b V _ ⟨fun c=>⟨fun hb O Q=>?_,fun hb=>⟨fun _ V2 M=>(ig 1 (by decide) (by decide)).mono ?_,fun e=>no c e⟩⟩,fun c=>⟨fun e=>no e c,fun _=>⟨fun hb R N=>(ig 1 (by decide) (by decide)).mono ?_,fun hb S i=>(ke (n.le i) (o.le i) hs.1 hs.2 (by omega)).mono ?_⟩⟩⟩
 ·rw [H c hb];exact RR.zero _
 ·rintro r t m g;have j:=g;obtain ⟨u,v,w,rfl⟩:=g.shape;refine ⟨_,_,_,rfl,fun z d=>(zI (o.le (M.trans (m.trans d))) (j.le d) hs.2 mK (by omega)).mono ?_⟩;rintro r A B f;have f0:=f;obtain ⟨u,v,w,rfl⟩:=f.shape;exact ⟨_,_,_,rfl,fun C l=>by rw [I c hb];exact f0.le l⟩
 ·rintro r t m g;have j:=g;obtain ⟨u,v,w,rfl⟩:=g.shape;refine ⟨_,_,_,rfl,fun z d=>(ke (n.le (N.trans (m.trans d))) (j.le d) hs.1 mK (by omega)).mono ?_⟩;rintro r A B f;have f0:=f;obtain ⟨u,v,w,rfl⟩:=f.shape;exact ⟨_,_,_,rfl,fun C l=>by rw [J c hb];exact f0.le l⟩
 ·rintro r t m g;have j:=g;obtain ⟨u,v,w,rfl⟩:=g.shape;refine ⟨_,_,_,rfl,fun z d=>(HU (j.le d) (hs.1.add hs.2) (by omega)).mono ?_⟩;rintro r A B f;have f0:=f;obtain ⟨u,v,w,rfl⟩:=f.shape;exact ⟨_,_,_,rfl,fun C l=>by rw [K c hb];exact f0.le l⟩
theorem O7 {V:View}:Acts prog 209 #[] V fun r V'=>r=.agg #[.int .i64 0,.int .i64 0,.pointer none,.int .i64 0,.int .i64 0,.pointer none,.bool true,.bool true]:=
 EW V _ fun a b=>rfl
def RSd (V:View)(v:Value)(s:Sd):Prop:=MN V v s.1 s.2/\R3 s
theorem RSd.le {V V':View}{v:Value}{s:Sd}(h:RSd V v s)(l:V.Le V'):RSd V' v s:=⟨h.1.le l,h.2⟩
theorem RSd.shape {V:View}{v:Value}{s:Sd}(h:RSd V v s):∃(x1:Int)(x2:Int)(p:OA)(y1:Int)(y2:Int)(q:OA)(z1:Int)(z2:Int)(r:OA)(u1:Int)(u2:Int)(t:OA)(w1:Int)(w2:Int)(o:OA),v=.agg #[.int .i64 x1,.int .i64 x2,.pointer p,.int .i64 y1,.int .i64 y2,.pointer q,.int .i64 z1,.int .i64 z2,.pointer r,.int .i64 u1,.int .i64 u2,.pointer t,.int .i64 w1,.int .i64 w2,.pointer o,.bool s.2.a,.bool s.2.b]:=by
 obtain ⟨x1,x2,p,y1,y2,q,z1,z2,r,u1,u2,t,w1,w2,o,e,-⟩:=h.1;exact ⟨x1,x2,p,y1,y2,q,z1,z2,r,u1,u2,t,w1,w2,o,e⟩
theorem I_ {x1:Int}{x2:Int}{p:OA}{y1:Int}{y2:Int}{q:OA}{z1:Int}{z2:Int}{r:OA}{u1:Int}{u2:Int}{t:OA}{w1:Int}{w2:Int}{o:OA}{c d:Bool}:∀v∈([.int .i64 x1,.int .i64 x2,.pointer p,.int .i64 y1,.int .i64 y2,.pointer q,.int .i64 z1,.int .i64 z2,.pointer r,.int .i64 u1,.int .i64 u2,.pointer t,.int .i64 w1,.int .i64 w2,.pointer o,.bool c,.bool d]:List Value),v.oneCell'=true:=by
 intro v hm;simp only [List.mem_cons,List.not_mem_nil,or_false] at hm;rcases hm with rfl|rfl|rfl|rfl|rfl|rfl|rfl|rfl|rfl|rfl|rfl|rfl|rfl|rfl|rfl|rfl|rfl<;>rfl
theorem Lr {V:View}{s:Sd}:∀xs,RSd V (.agg (List.toArray xs)) s->∀v∈xs,v.oneCell'=true:=by
 intro xs h;obtain ⟨a,b,p,c,d,q,f,g,r,i,j,t,k,l,o,e⟩:=h.shape;have e:=congrArg Array.toList (Value.agg.inj e);dsimp only at e;subst e;exact I_
theorem lst_rsd {V:View}{c:OA}{n:Nat}{al:List Sd}(h:Lst 17 RSd V c n al){i:Nat}(hi:i<al.length) :
  c.isSome=true/\∃(x1:Int)(x2:Int)(p:OA)(y1:Int)(y2:Int)(q:OA)(z1:Int)(z2:Int)(r:OA)(u1:Int)(u2:Int)(t:OA)(w1:Int)(w2:Int)(o:OA)(a:Addr),addrAdd c (i*17)=some a/\V.at (a.add 0) (.int .i64 x1)/\V.at (a.add 1) (.int .i64 x2)/\V.at (a.add 2) (.pointer p)/\V.at (a.add 3) (.int .i64 y1)/\V.at (a.add 4) (.int .i64 y2)/\V.at (a.add 5) (.pointer q)/\V.at (a.add 6) (.int .i64 z1)/\V.at (a.add 7) (.int .i64 z2)/\V.at (a.add 8) (.pointer r)/\V.at (a.add 9) (.int .i64 u1)/\V.at (a.add 10) (.int .i64 u2)/\V.at (a.add 11) (.pointer t)/\V.at (a.add 12) (.int .i64 w1)/\V.at (a.add 13) (.int .i64 w2)/\V.at (a.add 14) (.pointer o)/\V.at (a.add 15) (.bool al[i].2.a)/\V.at (a.add 16) (.bool al[i].2.b) /\
   RSd V (.agg #[.int .i64 x1,.int .i64 x2,.pointer p,.int .i64 y1,.int .i64 y2,.pointer q,.int .i64 z1,.int .i64 z2,.pointer r,.int .i64 u1,.int .i64 u2,.pointer t,.int .i64 w1,.int .i64 w2,.pointer o,.bool al[i].2.a,.bool al[i].2.b]) al[i]:=by
 obtain ⟨k,g,xs,l,j,d⟩:=h.at_ i hi;have f:=j;obtain ⟨x1,x2,p,y1,y2,q,z1,z2,r,u1,u2,t,w1,w2,o,e⟩:=j.shape;have e:=congrArg Array.toList (Value.agg.inj e);dsimp only at e;subst e;refine ⟨?_,x1,x2,p,y1,y2,q,z1,z2,r,u1,u2,t,w1,w2,o,k,g,d 0 _ rfl,d 1 _ rfl,d 2 _ rfl,d 3 _ rfl,d 4 _ rfl,d 5 _ rfl,d 6 _ rfl,d 7 _ rfl,d 8 _ rfl,d 9 _ rfl,d 10 _ rfl,d 11 _ rfl,d 12 _ rfl,d 13 _ rfl,d 14 _ rfl,d 15 _ rfl,d 16 _ rfl,f⟩
 cases c with
 | none=>cases g
 | some a=>rfl
theorem FT {V:View}{vs:List Value}{al:List Sd}(h:Row 17 RSd V vs al){i:Nat}(hi:i<al.length):∃(x1:Int)(x2:Int)(p:OA)(y1:Int)(y2:Int)(q:OA)(z1:Int)(z2:Int)(r:OA)(u1:Int)(u2:Int)(t:OA)(w1:Int)(w2:Int)(o:OA),i*17+17<=vs.length/\(vs.drop (i*17)).take 17=[.int .i64 x1,.int .i64 x2,.pointer p,.int .i64 y1,.int .i64 y2,.pointer q,.int .i64 z1,.int .i64 z2,.pointer r,.int .i64 u1,.int .i64 u2,.pointer t,.int .i64 w1,.int .i64 w2,.pointer o,.bool al[i].2.a,.bool al[i].2.b] /\
  RSd V (.agg #[.int .i64 x1,.int .i64 x2,.pointer p,.int .i64 y1,.int .i64 y2,.pointer q,.int .i64 z1,.int .i64 z2,.pointer r,.int .i64 u1,.int .i64 u2,.pointer t,.int .i64 w1,.int .i64 w2,.pointer o,.bool al[i].2.a,.bool al[i].2.b]) al[i]:=by
 obtain ⟨xs,k,d,f⟩:=h.at_ i hi;have l:=h.jn (by decide);have c:=d;obtain ⟨x1,x2,p,y1,y2,q,z1,z2,r,u1,u2,t,w1,w2,o,e⟩:=d.shape;have e:=congrArg Array.toList (Value.agg.inj e);dsimp only at e;subst e;refine ⟨x1,x2,p,y1,y2,q,z1,z2,r,u1,u2,t,w1,w2,o,by omega,?_,c⟩;apply List.ext_getElem?;intro j;rw [List.getElem?_take];split
 ·rename_i g;rw [List.getElem?_drop];exact f j _ (List.getElem?_eq_getElem (by show j<17;omega))▸(List.getElem?_eq_getElem (by show j<17;omega)).symm
 ·rename_i g;rw [List.getElem?_eq_none (by show 17<=j;omega)]
theorem RSd.both {V:View}{s:Sd}{x1:Int}{x2:Int}{p:OA}{y1:Int}{y2:Int}{q:OA}{z1:Int}{z2:Int}{r:OA}{u1:Int}{u2:Int}{t:OA}{w1:Int}{w2:Int}{o:OA}{c d:Bool}(h:RSd V (.agg #[.int .i64 x1,.int .i64 x2,.pointer p,.int .i64 y1,.int .i64 y2,.pointer q,.int .i64 z1,.int .i64 z2,.pointer r,.int .i64 u1,.int .i64 u2,.pointer t,.int .i64 w1,.int .i64 w2,.pointer o,.bool c,.bool d]) s) :
  RLi V (.agg #[.int .i64 x1,.int .i64 x2,.pointer p,.int .i64 y1,.int .i64 y2,.pointer q,.int .i64 z1,.int .i64 z2,.pointer r]) s.1/\Fh V (.agg #[.int .i64 u1,.int .i64 u2,.pointer t,.int .i64 w1,.int .i64 w2,.pointer o,.bool s.2.a,.bool s.2.b]) s.2/\c=s.2.a/\d=s.2.b:=by
 obtain ⟨f,g,y,i,j,z,k,l,A,m,n,B,u,v,C,e,w,x⟩:=h.1;have e:=congrArg Array.toList (Value.agg.inj e);simp only [List.cons.injEq,Value.bool.injEq,Value.int.injEq,Value.pointer.injEq,true_and,and_true] at e;obtain ⟨rfl,rfl,rfl,rfl,rfl,rfl,rfl,rfl,rfl,rfl,rfl,rfl,rfl,rfl,rfl,rfl,rfl⟩:=e;exact ⟨w,x,rfl,rfl⟩
theorem kH:∀{c d:List Sd} {l:L3} {v:Sp},bG (c++d) l v=(bG c l v).bind (bG d l)
 | [],_,_,_=>rfl
 | s::c,d,l,v=>by
  rw [List.cons_append];unfold bG;split
  ·exact kH
  ·rfl
theorem rm {V:View}{cp:OA}{cn cc:Nat}{c:List Sd}{lv:Value}{l:L3}(h:Lst 17 RSd V cp cn c)(hl:RLi V lv l)(hb:Bd l)(hn:c.length<=1000000) :
  Acts prog 165 #[.slice cp cn cc,lv] V fun r V'=>∃w,r=.tuple #[w,.bool (bG c l fullSp).isSome]/\Fh V' w ((bG c l fullSp).getD Sp.zero)/\((bG c l fullSp).getD Sp.zero).sz 100000:=by
 have n:=hl;obtain rfl:=h.len;obtain ⟨_,_,_,_,_,_,_,_,_,rfl,-,-,-⟩:=hl
 have K:∀{i:Nat} (o:i<c.length) {s:Sp},bG (c.take i) l fullSp=some s->bG (c.take (i+1)) l fullSp=if dq l s c[i].1=true then some (cN l s c[i].1) else none:=fun {i} o {s} e=>by
  rw [List.take_add_one,List.getElem?_eq_getElem o,kH,e];show bG [c[i]] l s=_;unfold bG;rfl
 refine qU cp _ cc _ _ _ _ _ _ _ _ _ V _ fun V1 L=>O7.mono ?_;rintro r V2 M rfl;have N:=L.trans M
 refine ⟨_,_,_,_,_,_,_,_,rfl,fun z V'=>∃(i:Nat)(s:Sp),z.1=(i:Int)/\i<=c.length/\bG (c.take i) l fullSp=some s/\s.sz 100000/\z.2.2.2.2.2.2.2.1=s.a/\z.2.2.2.2.2.2.2.2=s.b/\Fh V' (.agg #[.int .i64 z.2.1,.int .i64 z.2.2.1,.pointer z.2.2.2.1,.int .i64 z.2.2.2.2.1,.int .i64 z.2.2.2.2.2.1,.pointer z.2.2.2.2.2.2.1,.bool s.a,.bool s.b]) s,
  fun z=>c.length-z.1.toNat,⟨(0,0,0,none,0,0,none,true,true),by and_intros<;>rfl,0,fullSp,rfl,Nat.zero_le _,rfl,Fx (by omega),rfl,rfl,⟨_,_,_,_,_,_,rfl,RR.zero _,RR.zero _⟩⟩,?_⟩
 rintro ⟨z1,x1,x2,p,y1,y2,q,ba,bb⟩ V3 O ⟨i,s,E,o,t,u,F,G,x⟩;dsimp only at E F G x ⊢;subst E F G;have L3:=N.trans O;refine ⟨rfl,fun f=>?_,fun f V7 P=>?_⟩
 ·have f:(i:Int)<c.length:=of_decide_eq_true f;have j:i<c.length:=by omega
  have w:i64.wrap ((i:Int)+1)=((i+1:Nat):Int):=by rw [i64w (by omega)];rfl
  rw [Int.toNat_natCast,w];obtain ⟨Q,a1,a2,a3,a4,a5,a6,a7,a8,a9,b1,b2,b3,b4,b5,b6,a,R,S,T,U,W,X,Y,Z,h7,h8,h9,y,A,B,L_,Hr,Ma,C,H⟩:=lst_rsd (h.le L3 fun _ _ g=>RSd.le g L3) j;obtain ⟨rl,ri,-,-⟩:=H.both;have I:=K j t;have J:=H.2;refine ⟨Q,⟨by omega,by omega⟩,_,_,_,_,_,_,_,_,_,_,_,_,_,_,_,_,_,a,R,S,T,U,W,X,Y,Z,h7,h8,h9,y,A,B,L_,Hr,Ma,C,fun V4 D=>(Bv (n.le (L3.trans D)) (x.le D) (rl.le D) (k:=100000) (hb.szl.up (by omega)) u (J.1.szl.up (by omega)) (by omega)).mono ?_⟩;rintro r V5 l5 ⟨w5,rfl,g⟩;have g0:=g;obtain ⟨_,_,_,_,_,_,rfl,-,-⟩:=g;refine ⟨_,_,_,_,_,_,_,_,_,rfl,fun m V6 l6=>?_,fun m=>⟨(((i+1:Nat):Int),_,_,_,_,_,_,_,_),by dsimp only;omega,by and_intros<;>rfl,i+1,cN l s c[i].1,rfl,j,?_,AJ hb.szl J.1.szl u (by omega),rfl,rfl,g0⟩⟩
  ·have m:dq l s c[i].1=false:=by simpa using m
   have e:bG c l fullSp=none:=by
    have:=kH (c:=c.take (i+1)) (d:=c.drop (i+1)) (l:=l) (v:=fullSp);rw [List.take_append_drop,I,m] at this;exact this
   rw [e];exact ⟨_,rfl,⟨_,_,_,_,_,_,rfl,RR.zero _,RR.zero _⟩,MB _ (by omega),MB _ (by omega)⟩
  ·have m:dq l s c[i].1=true:=by simpa using m
   rw [I,if_pos m]
 ·have f:¬(i:Int)<c.length:=of_decide_eq_false f;obtain rfl:i=c.length:=by omega
  rw [List.take_length] at t;rw [t];exact ⟨_,rfl,x.le P,u⟩
def OB (c:List Sd)(l:L3):Int:=if (bG c l fullSp).isSome=true then 0 else cK c l
theorem zG {V:View}{cp:OA}{cn cc:Nat}{c:List Sd}{lv:Value}{l:L3}(h:Lst 17 RSd V cp cn c)(hl:RLi V lv l)(hb:Bd l)(hn:c.length<=1000000) :
  Acts prog 166 #[.slice cp cn cc,lv] V fun r V'=>r=.int .i64 (OB c l):=by
 have e:=hl;obtain rfl:=h.len;obtain ⟨_,_,_,_,_,_,_,_,_,rfl,-,-,-⟩:=hl;refine pR cp _ cc _ _ _ _ _ _ _ _ _ V _ fun V1 s=>(rm (h.le s fun _ _ g=>RSd.le g s) (e.le s) hb hn).mono ?_;rintro r V2 J ⟨w,rfl,g,-⟩;obtain ⟨_,_,_,_,_,_,rfl,-,-⟩:=g;have K:=s.trans J;refine ⟨_,_,_,_,_,_,_,_,_,rfl,fun m V3 l3=>by unfold OB;rw [if_pos m],fun m=>?_⟩;have m:(bG c l fullSp).isSome=false:=m;have L:OB c l=cK c l:=by unfold OB;rw [if_neg (by rw [m];exact Bool.false_ne_true)]
 rw [L];refine ⟨fun z V'=>∃i:Nat,z=(i:Int)/\i<=c.length/\cK c l=cK (c.drop i) l,fun z=>c.length-z.toNat,⟨0,by and_intros<;>rfl,0,rfl,Nat.zero_le _,rfl⟩,?_⟩;rintro z V4 M ⟨i,rfl,hi,b⟩;have t:=K.trans M;refine ⟨rfl,fun d=>?_,fun d N dh=>?_⟩
 ·have d:(i:Int)<c.length:=of_decide_eq_true d;have f:i<c.length:=by omega
  have w:i64.wrap ((i:Int)+1)=((i+1:Nat):Int):=by rw [i64w (by omega)];rfl
  rw [Int.toNat_natCast,w];obtain ⟨O,a1,a2,a3,a4,a5,a6,a7,a8,a9,b1,b2,b3,b4,b5,b6,a,P,Q,R,T,U,W,X,Y,Z,h8,h9,x,y,A,L_,Hr,Ma,B,G⟩:=lst_rsd (h.le t fun _ _ g=>RSd.le g t) f;obtain ⟨H,ri,-,-⟩:=G.both;have j:=G.2;have ed:c.drop i=c[i]::c.drop (i+1):=List.drop_eq_getElem_cons f;rw [ed] at b;have b:cK c l=if (ai l (f_ c[i].1 c[i].2.bX) (gy c[i].1 c[i].2.bX)).num.sign≠0 then (ai l (f_ c[i].1 c[i].2.bX) (gy c[i].1 c[i].2.bX)).num.sign else if c[i].1=l then 1 else cK (c.drop (i+1)) l:=b.trans (by rfl);generalize c[i]=S at *;have C:=F7 j.2;refine ⟨O,⟨by omega,by omega⟩,_,_,_,_,_,_,_,_,_,_,_,_,_,_,_,_,_,a,P,Q,R,T,U,W,X,Y,Z,h8,h9,x,y,A,L_,Hr,Ma,B,fun V5 n=>(Bu (ri.le n) j.2 (by omega)).mono ?_⟩;rintro r V6 u g;have g0:=g;obtain ⟨_,_,_,rfl⟩:=g.shape;refine ⟨_,_,_,rfl,fun V7 o=>(TC (H.le (n.trans (u.trans o))) (g0.le o) (k:=300000) (j.1.szl.up (by omega)) (C.mono (by omega)) (by omega)).mono ?_⟩;rintro r V8 D I;have E:=I;obtain ⟨_,_,_,_,_,_,rfl,-,-⟩:=I;have sx:=AG (j.1.szl.up (show 1000<=300000 by omega)) (C.mono (show 2*100000+10<=300000 by omega));have sy:=AH (j.1.szl.up (show 1000<=300000 by omega)) (C.mono (show 2*100000+10<=300000 by omega));refine ⟨_,_,_,_,_,_,rfl,fun V9 v=>(En (e.le (t.trans (n.trans (u.trans (o.trans (D.trans v)))))) (E.le v) (hb.szl.up (by omega)) sx sy (by omega)).mono ?_⟩;rintro r a0 p rfl;refine ⟨_,rfl,fun F b0 b7=>?_,fun F b8 q=>(KT (H.le (n.trans (u.trans (o.trans (D.trans (v.trans (p.trans q))))))) (e.le (t.trans (n.trans (u.trans (o.trans (D.trans (v.trans (p.trans q)))))))) (k:=1000) j.1.szl hb.szl (by omega)).mono ?_⟩
  ·rw [b,if_pos (by simpa using F)]
  ·rintro r b9 c0 rfl;rw [if_neg (by simpa using F)] at b;refine ⟨_,rfl,fun he c1 cO=>?_,fun he=>⟨((i+1:Nat):Int),by dsimp only;omega,by and_intros<;>rfl,i+1,rfl,f,?_⟩⟩
   ·rw [b,if_pos (of_decide_eq_true he)]
   ·rw [b,if_neg (of_decide_eq_false he)]
 ·have d:¬(i:Int)<c.length:=of_decide_eq_false d;obtain rfl:i=c.length:=by omega
  rw [b,List.drop_length];rfl
end Go.Proofs.Tryz
namespace Go.Eng
open Go.Lib
variable {P:Program}
theorem jc (w:World)(dT sT ty elem:TypeId)(sz b o dLen dCap:Nat)(a:Addr)(sLen sCap:Nat)(cs:List Value)
  (hu:P.underlying dT=some (.slice elem))(hs:(P.info? elem).map (·.size)=some sz)(hn:cs.length=Nat.min sLen dLen*sz)
  (hsrc:∀j v,cs[j]?=some v->w.cell? (a.add j)=some v)(hc:∀j,j<cs.length->(w.cell? ⟨b,o+j,none⟩).isSome=true)(hf:∀j,j<cs.length->w.frozen? ⟨b,o+j,none⟩=false)(h1:∀v∈cs,v.oneCell'=true) :
  (Builtin.copy_ #[dT,sT] ty #[.slice (some ⟨b,o,none⟩) dLen dCap,.slice (some a) sLen sCap]).run P w=.ok (goInt (Nat.min sLen dLen)) (w.setCells b o cs):=by
 have d:=run_loadCells_list (P:=P) w a cs hsrc;have c:=run_storeCells_cells (P:=P) b o cs 0 w (by simpa using hc) (by simpa using hf) h1
 cases hq:P.info? elem with
 | none=>simp [hq] at hs
 | some i=>
  have e:i.size=sz:=by simpa [hq] using hs
  simp [Builtin.copy_,run_underlying hu,Builtin.lenOf,Builtin.firstCells,sizeOf,typeInfo,hq,e,←hn,d,c]
theorem Bh (w:World){o:Oper}{a:Act}{K:Act->World->Prop}{Q:Exit->Act->World->Prop}(d s:Operand)(t t':TypeId)
  (ho:o.op=.call { callee:=.builtin .copy,args:=#[d,s],argTypes:=#[t,t'] })(v u:Value)(hd:a.eval d=v)(hs:a.eval s=u){v':Value}{w':World}
  (hr:(Builtin.copy_ #[t,t'] o.type #[v,u]).run P w=.ok v' w')(h:K (a.put o.dst v') w'):o.wp P a w K Q:=by
 unfold Oper.wp execOp;simp only [ho,resolve,invoke,builtin,Sem.run_bind,Sem.run_pure,Result.andThen_ok,List.map_toArray,List.map_cons,List.map_nil,hd,hs,hr];exact h
theorem j7 (w:World){ops:Array Oper}{rest:List Oper}{o:Oper}{a:Act}{Q:Exit->Act->World->Prop}(hgd:o.guard=none)(d s:Operand)(t t':TypeId)
  (ho:o.op=.call { callee:=.builtin .copy,args:=#[d,s],argTypes:=#[t,t'] })(v u:Value)(hd:a.eval d=v)(hs:a.eval s=u){v':Value}{w':World}
  (hr:(Builtin.copy_ #[t,t'] o.type #[v,u]).run P w=.ok v' w')(h:wpList P ops Q rest (a.put o.dst v') w'):wpList P ops Q (o::rest) a w:=
 wpList_plain hgd fun _ b=>Bh w d s t t' ho v u hd hs hr (b _ _ h)
theorem lT {ops:Array Oper}{o:Oper}{a:Act}{w:World}{K:Act->World->Prop}{Q:Exit->Act->World->Prop}{E:Prop}
  (hg:o.guard=none)(d x:Operand)(dT sT:TypeId)(hop:o.op=Op.call { callee:=Callee.builtin Builtin.copy,args:=#[d,x],argTypes:=#[dT,sT] })
  (v u:Value)(hd:a.eval d=v)(hx:a.eval x=u){v':Value}{w':World}(hr:(Builtin.copy_ #[dT,sT] o.type #[v,u]).run P w=.ok v' w')(hK:K (a.put o.dst v') w') :
  if Region.wanted o (yielded ops a.tmps)=true then Oper.wp P o a w K Q else E:=by
 have hw:Region.wanted o (yielded ops a.tmps)=true:=by simp [Region.wanted,hg]
 rw [if_pos hw];unfold Oper.wp;simp [execOp,hop,resolve,invoke,builtin,hd,hx,hr,Result.andThen];exact hK
theorem e_ {w:World}{b o:Nat}{vs:List Value}{ty:TypeId}(h:w.heap[b]?=some (.cells vs.toArray ty (0,0))):w.frozen? ⟨b,o,none⟩=false:=by simp [World.frozen?,h]
theorem zd {w:World}{b:Nat}{vs:List Value}{ty:TypeId}(h:w.heap[b]?=some (.cells vs.toArray ty (0,0))):w.shape? b=some (ty,vs.length):=by simp [World.shape?,h]
theorem bK {w:World}{b o:Nat}{vs:List Value}{ty:TypeId}(h:w.heap[b]?=some (.cells vs.toArray ty (0,0))):w.cell? ⟨b,o,none⟩=vs[o]?:=cell_of_row h
theorem uw (X:Nat->Prop)(w:World):ew X w w.drew:=⟨Nat.le_refl _,fun _ _ _=>rfl,rfl,rfl,rfl⟩
theorem qA (X:Nat->Prop)(w:World)(o:Obj):ew X w (w.alloc o):=⟨by rw [show (w.alloc o).heap.size=w.heap.size+1 from Array.size_push ..];omega,fun b hb _=>bN w o hb,rfl,rfl,rfl⟩
theorem D9 {w:World}{g:Nat}{old cs:Array Value}{ty:TypeId}(h:w.heap[g]?=some (.cells old ty (0,0))):ew (·=g) w (w.setRow g cs):=by
 refine ⟨?_,fun b hb a=>?_,?_,?_,?_⟩
 ·rw [dG h,Array.size_setIfInBounds];exact Nat.le_refl _
 ·rw [dG h,Array.getElem?_setIfInBounds_ne (fun e=>a e.symm)]
 all_goals simp [World.setRow,h]
theorem cu {b:Nat}{ty:TypeId}:∀(xs:List Value)(o:Nat)(vs:List Value)(w:World),w.heap[b]?=some (.cells vs.toArray ty (0,0))->o+xs.length<=vs.length ->
  (w.setCells b o xs).heap[b]?=some (.cells (vs.take o++xs++vs.drop (o+xs.length)).toArray ty (0,0))/\ew (·=b) w (w.setCells b o xs)
 | [],o,vs,w,h,hl=>⟨by rw [World.setCells,List.append_nil,List.length_nil,Nat.add_zero,List.take_append_drop];exact h,ew.refl _ _⟩
 | x::xs,o,vs,w,h,hl=>by
  rw [List.length_cons] at hl;have e1:w.setCell ⟨b,o,none⟩ x=w.setRow b (vs.toArray.setIfInBounds o x):=setCell_eq_setRow w b o vs.toArray ty (0,0) x h;have a:vs.toArray.setIfInBounds o x=(vs.set o x).toArray:=by simp
  rw [World.setCells,e1,a];have c:(w.setRow b (vs.set o x).toArray).heap[b]?=some (.cells (vs.set o x).toArray ty (0,0)):=setRow_heap w b vs.toArray _ ty (0,0) h;obtain ⟨d,e⟩:=cu xs (o+1) (vs.set o x) _ c (by rw [List.length_set];omega);refine ⟨?_,(D9 h).trans e⟩;rw [d];congr 3;rw [List.take_set,List.take_add_one,List.getElem?_eq_getElem (by omega),List.drop_set_of_lt (by omega),List.length_cons,show o+1+xs.length=o+(xs.length+1) by omega];rw [List.set_append_right _ _ (by rw [List.length_take];omega),List.length_take,Nat.min_eq_left (by omega),Nat.sub_self];simp
end Go.Eng
namespace Go.Proofs.Tryz
open Go.Eng Go.RowKit Go.Lib
theorem oR:∃i z,prog.info? 193=some i/\i.zero=some z/\i.size=17/\i.bytes=128/\z.cells.size=17:=by
 have h:=eu 193 _ rfl;unfold jS at h;split at h
 ·rename_i i d a c;split at h
  ·rename_i z b;have h:=Option.some.inj h;injection h with h1 h2 h3 h4;refine ⟨i,z,a,b,h2,h3,?_⟩;have:=congrArg List.length h4;rw [List.length_map,Array.length_toList] at this;rw [this];rfl
  ·cases h
 ·cases h
theorem dv (b o j:Nat):(⟨b,o,none⟩:Addr).add j=⟨b,o+j,none⟩:=by
 unfold Addr.add;split
 ·rename_i h;subst h;rfl
 ·rfl
theorem MA (w:World){t:TypeId}{i:TypeInfo}(h:prog.info? t=some i):(Go.sizeOf t).run prog w=.ok i.size w:=by
 simp [sizeOf,typeInfo,h]
set_option maxHeartbeats 4000000 in
set_option maxRecDepth 100000 in
theorem GS (b n c i vb:Nat)(cs vs:List Value)(w:World)(hi:i<n)(hroom:n+1<=c)(hn63:n<=1000000)(hvb:vb≠b)(hcl:c*17<=cs.length)(hvl:vs.length=17)
  (hb:w.heap[b]?=some (.cells cs.toArray 193 (0,0)))(hv:w.heap[vb]?=some (.cells vs.toArray 193 (0,0)))
  (h1c:∀v∈(cs.take (n*17)).drop (i*17),v.oneCell'=true)(h1v:∀v∈vs,v.oneCell'=true) :
  Calls prog 172 #[.slice (some ⟨b,0,none⟩) n c,.int .i64 i,.slice (some ⟨vb,0,none⟩) 1 1] w fun e w'=>
   e=.returned (.slice (some ⟨b,0,none⟩) (n+1) c)/\w'=(w.drew.setCells b ((i+1)*17) ((cs.take (n*17)).drop (i*17))).setCells b (i*17) vs:=by
 obtain ⟨X,z,G,Y,H,Z,e5⟩:=oR;have K:¬((i:Int)=(n:Int)):=by omega
 have q:(prog.info? 193).map (·.size)=some 17:=by rw [G];simp [H]
 have y:=underlying112;have I:=underlying111;have L:∀w,(Go.sizeOf 193).run prog w=.ok 17 w:=fun w=>by rw [MA w G,H]
 have ru:=run_underlying y;have rv:=run_underlying I
 have A:∀lb B,(callFunc 217 #[.slice (some ⟨vb,0,none⟩) 1 1,.slice (some ⟨b,(i+1)*17,none⟩) lb B]).run prog w=.ok (.value (.bool false)) w:=fun lb B=>by
  rw [run_callFunc_extern func217 (by kernel_rfl) (by kernel_rfl) (by kernel_rfl) (e:=Extern.SlicesOverlaps.overlaps #[111,111] #[4]) (by kernel_rfl),
   Lib.run_overlaps_apart w 111 4 193 I 17 L ⟨vb,0,none⟩ ⟨b,(i+1)*17,none⟩ 1 1 lb B hvb _ _ _ _ (zd hv) (zd hb) (by omega) (e_ hv) (e_ hv)]
  rfl
 obtain ⟨a,d⟩:∃a,a=(cs.take (n*17)).drop (i*17):=⟨_,rfl⟩;rw [←d] at h1c ⊢;have g:a.length=(n-i)*17:=by rw [d,List.length_drop,List.length_take];omega
 have l:∀(W:World)(o:Nat),W.heap[b]?=some (.cells cs.toArray 193 (0,0))->o<cs.length->(W.cell? ⟨b,o,none⟩).isSome=true:=fun W o M N=>by rw [bK M,List.getElem?_eq_getElem N];rfl
 have h:(w.drew).heap[b]?=some (.cells cs.toArray 193 (0,0)):=hb;have r:∀x:Nat,Nat.min (n+1-i) (n+1-(i+1))=n-i:=fun _=>by simp only [Nat.min_def];split<;>omega
 have k:∀ty m C,(Builtin.copy_ #[112,112] ty #[.slice (some ⟨b,(i+1)*17,none⟩) (n+1-(i+1)) m,.slice (some ⟨b,i*17,none⟩) (n+1-i) C]).run prog w.drew=  .ok (goInt ((n-i:Nat):Int)) (w.drew.setCells b ((i+1)*17) a):=fun ty m C=>by
  have:=jc (P:=prog) w.drew 112 112 ty 193 17 b ((i+1)*17) (n+1-(i+1)) m ⟨b,i*17,none⟩ (n+1-i) C a y q (by rw [r 0,g])
   (fun j v f=>by
    rw [dv b,bK h];rw [d,List.getElem?_drop,List.getElem?_take] at f;split at f
    ·exact f
    ·cases f)
   (fun j f=>l _ _ h (by rw [g] at f;omega)) (fun j f=>e_ h) h1c
  rw [r 0] at this;exact this
 obtain ⟨u,D⟩:=cu a ((i+1)*17) cs w.drew h (by rw [g];omega);obtain ⟨p,s⟩:∃p,p=w.drew.setCells b ((i+1)*17) a:=⟨_,rfl⟩;rw [←s] at k u D ⊢;have J:Nat.min 1 (n+1-i)=1:=by simp only [Nat.min_def];split<;>omega
 have E:vb<w.heap.size:=(Array.getElem?_eq_some_iff.1 hv).1;have F:p.heap[vb]?=some (.cells vs.toArray 193 (0,0)):=by rw [D.bg vb E hvb];exact hv
 have t:∀ty m,(Builtin.copy_ #[112,111] ty #[.slice (some ⟨b,i*17,none⟩) (n+1-i) m,.slice (some ⟨vb,0,none⟩) 1 1]).run prog p=.ok (goInt 1) (p.setCells b (i*17) vs):=fun ty m=>by
  have:=jc (P:=prog) p 112 111 ty 193 17 b (i*17) (n+1-i) m ⟨vb,0,none⟩ 1 1 vs y q (by rw [J,hvl])
   (fun j v f=>by rw [dv vb,Nat.zero_add,bK F];exact f)
   (fun j f=>by rw [bK u,List.getElem?_eq_getElem (by rw [hvl] at f;simp only [List.length_append,List.length_take,List.length_drop,g];omega)];rfl) (fun j f=>e_ u) h1v
  rw [J] at this;exact this
 clear u D d h1c s;have mixed:=mixed;have O:i64.wrap ((i:Int)+1)=(i:Int)+1:=by rw [IntKind.wrap_i64];omega
 have Q:(0:Int)<=(i:Int)+1:=by omega
 have R:i<=n:=by omega
 have S:((i:Int)+1).toNat=i+1:=by omega
 have T:¬(c=i+1):=by omega
 have U:(i:Int)<=(n:Int)+1:=by omega
 have V:¬(c=i):=by omega
 go_enter func172,ntmps172
 go_wp2_with (simp only [A])
 go_region_law_o (refine lT rfl _ _ 112 112 rfl (.slice (some ⟨b,(i+1)*17,none⟩) (n+1-(i+1)) (c-(i+1))) (.slice (some ⟨b,i*17,none⟩) (n+1-i) (c-i)) (by simp [Act.eval,Act.put]) (by simp [Act.eval,Act.put]) (k 3 _ _) ?_)
 go_wp2_with (at_builtin;refine j7 _ rfl _ _ 112 111 rfl _ _ rfl rfl (t _ _) ?_)
 go_ret
 exact ⟨rfl,rfl⟩
set_option maxHeartbeats 4000000 in
set_option maxRecDepth 100000 in
theorem KR (b n c vb:Nat)(cs vs:List Value)(w:World)(hroom:n+1<=c)(hn63:n<=1000000)(hcl:c*17<=cs.length)(hvl:vs.length=17)
  (hb:w.heap[b]?=some (.cells cs.toArray 193 (0,0)))(hv:w.heap[vb]?=some (.cells vs.toArray 193 (0,0)))(h1v:∀v∈vs,v.oneCell'=true) :
  Calls prog 172 #[.slice (some ⟨b,0,none⟩) n c,.int .i64 n,.slice (some ⟨vb,0,none⟩) 1 1] w fun e w'=>
   e=.returned (.slice (some ⟨b,0,none⟩) (n+1) c)/\w'=w.setCells b (0+n*17) vs:=by
 obtain ⟨d,z,k,o,g,p,q⟩:=oR;have h:=underlying112;have i:=underlying111;have r:=run_underlying h;have s:=run_underlying i;have mixed:=mixed;have a:Src prog d.size 111 (.slice (some ⟨vb,0,none⟩) 1 1) 1 vs w:=Src.ofSlice w i ⟨vb,0,none⟩ 1 1 vs (by rw [g,hvl]) (fun j u f=>by rw [dv vb,Nat.zero_add,bK hv];exact f) h1v;have l:∀j,j<vs.length->(w.cell? ⟨b,0+n*d.size+j,none⟩).isSome=true:=fun j f=>by rw [bK hb,g,List.getElem?_eq_getElem (by rw [hvl] at f;omega)];rfl
 have m:∀j,j<vs.length->w.frozen? ⟨b,0+n*d.size+j,none⟩=false:=fun j f=>e_ hb
 go_enter func172,ntmps172
 go_wp2_with (at_builtin;refine wpList_append_room_src _ rfl _ _ 112 111 rfl 193 d h k b 0 n c rfl _ rfl 1 vs a hroom l m ?_)
 go_ret
 exact ⟨rfl,by rw [Nat.zero_add]⟩
set_option maxHeartbeats 4000000 in
set_option maxRecDepth 100000 in
theorem Ad (b n c vb:Nat)(cs vs:List Value)(w:World)(hnc:n<=c)(hroom:c<n+1)(hn63:n<=1000000)(hcl:c*17<=cs.length)(hvl:vs.length=17)
  (hb:w.heap[b]?=some (.cells cs.toArray 193 (0,0)))(hv:w.heap[vb]?=some (.cells vs.toArray 193 (0,0)))(h1v:∀v∈vs,v.oneCell'=true) :
  ∃z:Array Value,z.size=17/\Calls prog 172 #[.slice (some ⟨b,0,none⟩) n c,.int .i64 n,.slice (some ⟨vb,0,none⟩) 1 1] w fun e w'=>
   e=.returned (.slice (some ⟨w.heap.size,0,none⟩) (n+1) (grownCap w (n+1) c 193)) /\
   w'=w.drew.alloc (.cells ((cs.take (n*17)++vs).toArray++Builtin.zeroCells z (grownCap w (n+1) c 193-(n+1))) 193):=by
 obtain ⟨k,z,s,t,o,x,p⟩:=oR;refine ⟨z.cells,p,?_⟩;have q:=underlying112;have r:=underlying111;have y:=run_underlying q;have A:=run_underlying r;have mixed:=mixed;have g:Src prog k.size 111 (.slice (some ⟨vb,0,none⟩) 1 1) 1 vs w:=Src.ofSlice w r ⟨vb,0,none⟩ 1 1 vs (by rw [o,hvl]) (fun j u f=>by rw [dv vb,Nat.zero_add,bK hv];exact f) h1v;have l:(w.drew).heap[b]?=some (.cells cs.toArray 193 (0,0)):=hb
 have hold:(Builtin.firstCells k.size n (.slice (some ⟨b,0,none⟩) n c)).run prog w.drew=.ok (cs.take (n*17)).toArray w.drew:=by
  rw [o]
  exact run_firstCells_some w.drew 17 n ⟨b,0,none⟩ n c (cs.take (n*17)) (by rw [List.length_take];omega) (fun j v f=>by
   rw [dv b,Nat.zero_add,bK l];rw [List.getElem?_take] at f;split at f
   ·exact f
   ·cases f)
 have a:∀ty,(Builtin.append_ #[112,111] ty #[.slice (some ⟨b,0,none⟩) n c,.slice (some ⟨vb,0,none⟩) 1 1]).run prog w=_:=fun ty=>
  run_append_grow_src w 112 111 ty 193 k z q s t (some ⟨b,0,none⟩) n c (cs.take (n*17)) hold _ 1 vs g hroom (by omega) (by rw [x];exact growslice_fits hroom (by omega))
 obtain ⟨m,h⟩:∃m,m=z.cells:=⟨_,rfl⟩;rw [←h] at a ⊢;obtain ⟨i,d⟩:∃i:Array Value,i=(cs.take (n*17)++vs).toArray++Builtin.zeroCells m (grownCap w (n+1) c 193-(n+1)):=⟨_,rfl⟩;rw [←d] at a ⊢;clear h p hold d
 go_enter func172,ntmps172
 go_wp2_with (at_builtin;refine Lib.wpList_append_run _ rfl _ _ _ _ rfl _ _ rfl rfl _ _ (a _) ?_)
 all_goals (go_ret;exact ⟨rfl,rfl⟩)
set_option maxHeartbeats 4000000 in
set_option maxRecDepth 100000 in
theorem IB (b n c i vb:Nat)(cs vs:List Value)(w:World)(hi:i<n)(hnc:n<=c)(hroom:c<n+1)(hn63:n<=1000000)(hvb:vb≠b)(hcl:c*17<=cs.length)(hvl:vs.length=17)
  (hb:w.heap[b]?=some (.cells cs.toArray 193 (0,0)))(hv:w.heap[vb]?=some (.cells vs.toArray 193 (0,0)))
  (h1c:∀v∈(cs.take (n*17)).drop (i*17),v.oneCell'=true)(h1v:∀v∈vs,v.oneCell'=true) :
  ∃z:Array Value,z.size=17/\Calls prog 172 #[.slice (some ⟨b,0,none⟩) n c,.int .i64 i,.slice (some ⟨vb,0,none⟩) 1 1] w fun e w'=>
   e=.returned (.slice (some ⟨w.heap.size,0,none⟩) (n+1) (grownCap w (n+1) c 193)) /\
   w'=(((w.alloc (.cells ((cs.take (i*17)).toArray++Builtin.zeroCells z (n+1-i)++Builtin.zeroCells z (grownCap w (n+1) c 193-(n+1))) 193)).drew.setCells w.heap.size (i*17) vs).drew).setCells w.heap.size ((i+1)*17) ((cs.take (n*17)).drop (i*17)):=by
 obtain ⟨X,z,I,e2,J,Y,D⟩:=oR;refine ⟨z.cells,D,?_⟩;have E:=underlying112;have uV:=underlying111;have uI:=underlying3;have ru:=run_underlying E;have rv:=run_underlying uV;have rz:∀w,(Go.sizeOf 193).run prog w=.ok 17 w:=fun w=>by rw [MA w I,J]
 have mixed:=mixed;have a2:¬((i:Int)=(n:Int)):=by omega
 have a3:(c:Int)<(n:Int)+1:=by omega
 have A:(prog.info? 193).map (·.size)=some 17:=by rw [I];simp [J]
 have K:b<w.heap.size:=(Array.getElem?_eq_some_iff.1 hb).1;have L:vb<w.heap.size:=(Array.getElem?_eq_some_iff.1 hv).1;have B:(n:Int)+1-(i:Int)=((n+1-i:Nat):Int):=by omega
 have s:i+(n+1-i)=n+1:=by omega
 have M:(w.drew).heap[b]?=some (.cells cs.toArray 193 (0,0)):=hb
 have hold:(Builtin.firstCells X.size i (.slice (some ⟨b,0,none⟩) i c)).run prog w.drew=.ok (cs.take (i*17)).toArray w.drew:=by
  rw [J]
  exact run_firstCells_some w.drew 17 i ⟨b,0,none⟩ i c (cs.take (i*17)) (by rw [List.length_take];omega) (fun j v d=>by
   rw [dv b,Nat.zero_add,bK M];rw [List.getElem?_take] at d;split at d
   ·exact d
   ·cases d)
 obtain ⟨p,t⟩:∃p,p=z.cells:=⟨_,rfl⟩;rw [←t] at D ⊢
 have o:∀ty,(Builtin.append_ #[112,3] ty #[.slice (some ⟨b,0,none⟩) i c,.int .i64 ((n:Int)+1-(i:Int))]).run prog w =
   .ok (.slice (some ⟨w.heap.size,0,none⟩) (n+1) (grownCap w (n+1) c 193)) (w.drew.alloc (.cells ((cs.take (i*17)).toArray++Builtin.zeroCells p (n+1-i)++Builtin.zeroCells p (grownCap w (n+1) c 193-(n+1))) 193)):=fun ty=>by
  have h:=Lib.run_append_grow_zeros w 112 3 ty 193 X z .i64 .i64 E uI I e2 (some ⟨b,0,none⟩) i c (cs.take (i*17)) hold (n+1-i) (by omega) (by omega) (by omega) (by omega) (by rw [Y];omega) (by rw [Y,s];exact growslice_fits hroom (by omega));rw [s,←t] at h;rw [B];exact h
 obtain ⟨G,F⟩:∃G,G=grownCap w (n+1) c 193:=⟨_,rfl⟩;obtain ⟨a,k⟩:∃a:List Value,a.toArray=(cs.take (i*17)).toArray++Builtin.zeroCells p (n+1-i)++Builtin.zeroCells p (G-(n+1)):=⟨((cs.take (i*17)).toArray++Builtin.zeroCells p (n+1-i)++Builtin.zeroCells p (G-(n+1))).toList,by simp⟩;rw [←F] at o ⊢;rw [←k] at o ⊢
 have N:(n+1)*17<=a.length:=by
  have:=congrArg Array.size k;simp [Builtin.zeroCells,D] at this;omega
 obtain ⟨l,g⟩:∃l,l=(cs.take (n*17)).drop (i*17):=⟨_,rfl⟩;rw [←g] at h1c ⊢;have u:l.length=(n-i)*17:=by rw [g,List.length_drop,List.length_take];omega
 obtain ⟨q,f⟩:∃q,q=w.drew.alloc (.cells a.toArray 193):=⟨_,rfl⟩;rw [←f] at o;have H:q.heap[w.heap.size]?=some (.cells a.toArray 193 (0,0)):=by rw [f];exact Array.getElem?_push_size
 have O:q.heap[b]?=some (.cells cs.toArray 193 (0,0)):=by rw [f];exact (bN w.drew _ K).trans hb
 have Z:q.heap[vb]?=some (.cells vs.toArray 193 (0,0)):=by rw [f];exact (bN w.drew _ L).trans hv
 have Q:Nat.min 1 (n+1-i)=1:=by simp only [Nat.min_def];split<;>omega
 have m:∀(W:World),W.heap=q.heap->∀ty x,(Builtin.copy_ #[112,111] ty #[.slice (some ⟨w.heap.size,i*17,none⟩) (n+1-i) x,.slice (some ⟨vb,0,none⟩) 1 1]).run prog W=.ok (goInt 1) (W.setCells w.heap.size (i*17) vs):=fun W y ty x=>by
  have:=jc (P:=prog) W 112 111 ty 193 17 w.heap.size (i*17) (n+1-i) x ⟨vb,0,none⟩ 1 1 vs E A (by rw [Q,hvl])
   (fun j v d=>by rw [dv vb,Nat.zero_add,bK (by rw [y];exact Z)];exact d)
   (fun j d=>by rw [bK (by rw [y];exact H),List.getElem?_eq_getElem (by omega)];rfl) (fun j d=>e_ (by rw [y];exact H)) h1v
  rw [Q] at this;exact this
 have R:b≠w.heap.size:=by omega
 have S:Nat.min (n-i) (n+1-(i+1))=n-i:=by simp only [Nat.min_def];split<;>omega
 have r:∀(W:World),W.heap=q.heap->∀ty x T,(Builtin.copy_ #[112,112] ty #[.slice (some ⟨w.heap.size,(i+1)*17,none⟩) (n+1-(i+1)) x,.slice (some ⟨b,i*17,none⟩) (n-i) T]).run prog (W.setCells w.heap.size (i*17) vs).drew=.ok (goInt ((n-i:Nat):Int)) ((W.setCells w.heap.size (i*17) vs).drew.setCells w.heap.size ((i+1)*17) l):=fun W y ty x T=>by
  obtain ⟨g1,g2⟩:=cu vs (i*17) a W (by rw [y];exact H) (by omega)
  have U:(W.setCells w.heap.size (i*17) vs).drew.heap[b]?=some (.cells cs.toArray 193 (0,0)):=by
   have:=g2.bg b (by rw [y];exact (Array.getElem?_eq_some_iff.1 O).1) R;rw [y,O] at this;exact this
  have C:(W.setCells w.heap.size (i*17) vs).drew.heap[w.heap.size]?=_:=g1
  have:=jc (P:=prog) (W.setCells w.heap.size (i*17) vs).drew 112 112 ty 193 17 w.heap.size ((i+1)*17) (n+1-(i+1)) x ⟨b,i*17,none⟩ (n-i) T l E A (by rw [S,u])
   (fun j v d=>by
    rw [dv b,bK U];rw [g,List.getElem?_drop,List.getElem?_take] at d;split at d
    ·exact d
    ·cases d)
   (fun j d=>by rw [bK C,List.getElem?_eq_getElem (by rw [u] at d;simp only [List.length_append,List.length_take,List.length_drop,hvl];omega)];rfl) (fun j d=>e_ C) h1c
  rw [S] at this;exact this
 have a4:n+1<=G:=by rw [F];exact grownCap_ge w _ _ _
 have a0:G<=9223372036854775807:=by
  have:=grownCap_le_maxLen w (n+1) c 193 (by unfold maxLen;omega);rw [←F] at this;unfold maxLen at this;omega
 have a5:¬(G=i):=by omega
 have a1:¬(G=i+1):=by omega
 have a6:¬(c=i):=by omega
 have hA:=m ((w.alloc (.cells a.toArray 193)).drew) (by rw [f];rfl);have a7:=m q rfl;have V:=r ((w.alloc (.cells a.toArray 193)).drew) (by rw [f];rfl);subst f;have a8:i64.wrap ((i:Int)+1)=(i:Int)+1:=by rw [IntKind.wrap_i64];omega
 have a9:i64.wrap ((n:Int)+1)=(n:Int)+1:=by rw [IntKind.wrap_i64];omega
 have b0:(0:Int)<=(i:Int)+1:=by omega
 have b5:i<=n:=by omega
 have b6:((i:Int)+1).toNat=i+1:=by omega
 have b7:(i:Int)<=(n:Int):=by omega
 clear B s hold k F N m r H O Z t D g h1c Q S u
 go_enter func172,ntmps172
 go_wp2_with (first
  | (at_builtin;refine Lib.wpList_append_run _ rfl _ _ _ _ rfl _ _ rfl rfl _ _ (o _) ?_)
  | (at_builtin;refine j7 _ rfl _ _ 112 111 rfl _ _ rfl rfl (hA _ _) ?_))
 go_region_law_o (refine lT rfl _ _ 112 112 rfl (.slice (some ⟨w.heap.size,(i+1)*17,none⟩) (n+1-(i+1)) (G-(i+1))) (.slice (some ⟨b,i*17,none⟩) (n-i) (c-i)) (by simp [Act.eval,Act.put]) (by simp [Act.eval,Act.put]) (V 3 (G-(i+1)) (c-i)) ?_)
 go_wp2
 go_ret
 exact ⟨rfl,rfl⟩
end Go.Proofs.Tryz
namespace Go.Proofs.Tryz
open Go.Eng
theorem N9 {α:Type}{A B:List α}{k:Nat}(h:k<=A.length):(A.take k++B).drop k=B:=by
 rw [List.drop_append_of_le_length (by rw [List.length_take];omega),List.drop_eq_nil_of_le (by rw [List.length_take];omega),List.nil_append]
theorem QW {α:Type}{A B:List α}{j k:Nat}(hj:j<=k)(h:k<=A.length):(A.take k++B).take j=A.take j:=by
 rw [List.take_append_of_le_length (by rw [List.length_take];omega),List.take_take,Nat.min_eq_left hj]
theorem HT {V:View}{ob vb n c i:Nat}{vs xs:List Value}(hs:V.w.heap[ob]?=some (.cells vs.toArray 193 (0,0)))(hx:V.X ob)(hv:V.w.heap[vb]?=some (.cells xs.toArray 193 (0,0)))
  (hne:ob≠vb)(hi:i<=n)(hnc:n<=c)(hc:n<=1000000)(hcl:c*17<=vs.length)(hl:xs.length=17)(h1c:∀v∈(vs.take (n*17)).drop (i*17),v.oneCell'=true)(h1v:∀v∈xs,v.oneCell'=true) :
  Acts prog 172 #[.slice (some ⟨ob,0,none⟩) n c,.int .i64 i,.slice (some ⟨vb,0,none⟩) 1 1] V fun r V'=>∃(q c':Nat)(sp:List Value),r=.slice (some ⟨q,0,none⟩) (n+1) c' /\
   V'.w.heap[q]?=some (.cells (vs.take (i*17)++(xs++(vs.take (n*17)).drop (i*17))++sp).toArray 193 (0,0))/\(V.w.heap.size<=q\/q=ob)/\n+1<=c'/\c'*17<=(n+1)*17+sp.length /\
   V'.w.heap[vb]?=some (.cells xs.toArray 193 (0,0)):=by
 refine ⟨⟨f172,func172,rfl,by kernel_rfl⟩,?_⟩;have L:ob<V.w.heap.size:=(Array.getElem?_eq_some_iff.1 hs).1;have g:vb<V.w.heap.size:=(Array.getElem?_eq_some_iff.1 hv).1;have d:((vs.take (n*17)).drop (i*17)).length=(n-i)*17:=by rw [List.length_drop,List.length_take];omega
 by_cases t:n+1<=c
 ·by_cases l:i<n
  ·refine (GS ob n c i vb vs xs V.w l t hc (fun e=>hne e.symm) hcl hl hs hv h1c h1v).mono ?_;rintro e y ⟨m,rfl⟩;obtain ⟨A,h⟩:=cu ((vs.take (n*17)).drop (i*17)) ((i+1)*17) vs V.w.drew hs (by rw [d];omega);have M:(vs.take ((i+1)*17)).length=(i+1)*17:=by rw [List.length_take];omega
   obtain ⟨s,f⟩:=cu xs (i*17) _ _ A (by simp only [List.length_append,M,d];omega);have ex:=((uw (·=ob) V.w).trans h).trans f;refine ⟨_,m,ex.mono fun b e=>e▸hx,ob,c,vs.drop ((i+1)*17+((vs.take (n*17)).drop (i*17)).length),rfl,?_,.inr rfl,t,?_,?_⟩
   ·refine s.trans ?_;congr 3;rw [List.append_assoc,hl,List.append_assoc (vs.take ((i+1)*17)),QW (by omega) (by omega),show i*17+17=(i+1)*17 by omega,N9 (by omega)];simp only [List.append_assoc]
   ·rw [List.length_drop,d];omega
   ·exact (ex.bg vb g fun e=>hne e.symm).trans hv
  ·obtain rfl:i=n:=by omega
   refine (KR ob i c vb vs xs V.w t hc hcl hl hs hv h1v).mono ?_;rintro e y ⟨m,rfl⟩;obtain ⟨s,f⟩:=cu xs (0+i*17) vs V.w hs (by omega);refine ⟨_,m,f.mono fun b e=>e▸hx,ob,c,vs.drop (0+i*17+xs.length),rfl,?_,.inr rfl,t,?_,?_⟩
   ·refine s.trans ?_;congr 3;rw [show (vs.take (i*17)).drop (i*17)=[] from List.drop_eq_nil_of_le (by rw [List.length_take];omega),Nat.zero_add,List.append_nil]
   ·rw [List.length_drop];omega
   ·exact (f.bg vb g fun e=>hne e.symm).trans hv
 ·by_cases l:i<n
  ·obtain ⟨z,B,C⟩:=IB ob n c i vb vs xs V.w l hnc (by omega) hc (fun e=>hne e.symm) hcl hl hs hv h1c h1v;refine C.mono ?_;rintro e y ⟨m,rfl⟩;have D:=Go.grownCap_ge V.w (n+1) c 193;generalize Go.grownCap V.w (n+1) c 193=G at *;obtain ⟨a,j⟩:∃a:List Value,a.toArray=(vs.take (i*17)).toArray++Builtin.zeroCells z (n+1-i)++Builtin.zeroCells z (G-(n+1)):=⟨((vs.take (i*17)).toArray++Builtin.zeroCells z (n+1-i)++Builtin.zeroCells z (G-(n+1))).toList,by simp⟩
   have I:a=vs.take (i*17)++((Builtin.zeroCells z (n+1-i)).toList++(Builtin.zeroCells z (G-(n+1))).toList):=by
    have:=congrArg Array.toList j;simpa using this
   have p:∀k,(Builtin.zeroCells z k).toList.length=k*17:=fun k=>by simp [Builtin.zeroCells,B]
   have u:(vs.take (i*17)).length=i*17:=by rw [List.length_take];omega
   have E:a.length=i*17+(n+1-i)*17+(G-(n+1))*17:=by rw [I];simp only [List.length_append,p,u];omega
   rw [←j];have N:(V.w.alloc (.cells a.toArray 193)).drew.heap[V.w.heap.size]?=some (.cells a.toArray 193 (0,0)):=Array.getElem?_push_size;have x:ew (·=ob) V.w (V.w.alloc (.cells a.toArray 193)).drew:=(qA _ _ _).trans (uw _ _);obtain ⟨A,h⟩:=cu xs (i*17) a _ N (by omega);obtain ⟨s,f⟩:=cu ((vs.take (n*17)).drop (i*17)) ((i+1)*17) _ (World.drew _) A (by simp only [List.length_append,List.length_take,List.length_drop,d];omega);have F:V.w.heap.size<=_:=x.size
   have J:∀{X:Nat->Prop},ew X V.w _:=fun {X}=>by
    refine ⟨Nat.le_trans F (Nat.le_trans h.size f.size),fun b hb _=>?_,?_,?_,?_⟩
    ·exact (f.bg b (Nat.lt_of_lt_of_le hb (Nat.le_trans F h.size)) (by omega)).trans ((h.bg b (Nat.lt_of_lt_of_le hb F) (by omega)).trans ((qA (fun _=>False) V.w (.cells a.toArray 193)).bg b hb id))
    ·exact f.os.trans (h.os.trans x.os)
    ·exact f.tape.trans (h.tape.trans x.tape)
    ·exact f.out.trans (h.out.trans x.out)
   refine ⟨_,m,J,V.w.heap.size,G,(a.drop ((n+1)*17)),rfl,?_,.inl (Nat.le_refl _),D,?_,?_⟩
   ·refine s.trans ?_;have K:a.take (i*17)=vs.take (i*17):=by rw [I,List.take_append_of_le_length (by rw [u];exact Nat.le_refl _),List.take_of_length_le (by rw [u];exact Nat.le_refl _)]
    have H:(a.take (i*17)++xs).length=(i+1)*17:=by rw [List.length_append,K,u,hl];omega
    have O:(a.take (i*17)++xs++a.drop (i*17+xs.length)).take ((i+1)*17)=a.take (i*17)++xs:=by rw [←H,List.take_left'];rfl
    have P:(a.take (i*17)++xs++a.drop (i*17+xs.length)).drop ((i+1)*17+((vs.take (n*17)).drop (i*17)).length)=a.drop ((n+1)*17):=by
     rw [List.drop_append,List.drop_eq_nil_of_le (by rw [H];omega),List.nil_append,List.drop_drop,H,d,hl];congr 1;omega
    rw [O,P,K];simp only [List.append_assoc]
   ·rw [List.length_drop,E];omega
   ·exact (@J fun _=>False).bg vb g id |>.trans hv
  ·obtain rfl:i=n:=by omega
   obtain ⟨z,B,C⟩:=Ad ob i c vb vs xs V.w hnc (by omega) hc hcl hl hs hv h1v;refine C.mono ?_;rintro e y ⟨m,rfl⟩;have D:=Go.grownCap_ge V.w (i+1) c 193;generalize Go.grownCap V.w (i+1) c 193=G at *;have p:∀k,(Builtin.zeroCells z k).toList.length=k*17:=fun k=>by simp [Builtin.zeroCells,B]
   have ex:∀{X:Nat->Prop} {o:Obj},ew X V.w (V.w.drew.alloc o):=(uw _ _).trans (qA _ _ _);refine ⟨_,m,ex,V.w.heap.size,G,(Builtin.zeroCells z (G-(i+1))).toList,rfl,?_,.inl (Nat.le_refl _),D,?_,?_⟩
   ·refine (Array.getElem?_push_size (xs:=V.w.heap)).trans ?_;congr 2;rw [show (vs.take (i*17)).drop (i*17)=[] from List.drop_eq_nil_of_le (by rw [List.length_take];omega),List.append_nil];apply Array.ext';simp
   ·rw [p];omega
   ·exact ((ex (X:=fun _=>False)).bg vb g id).trans hv
end Go.Proofs.Tryz
namespace Go.Proofs.Tryz
open Go.Eng Go.Big
theorem yj {V:View}{v:Value}{p:Rat×Rat}(h:RPt V v p.1 p.2){k:Nat}(s1:Sz k p.1)(s2:Sz k p.2)(hk:k<=1099511627776) :
  Acts prog 215 #[v] V fun r V'=>r=.int .i64 (Sec.half p):=by
 obtain ⟨n,o,q,s,t,u,rfl,f,w⟩:=h;refine vO n o q s t u V _ fun G j=>(fD (w.le j) s2 hk).mono ?_;rintro r V2 x rfl;have d:=j.trans x;refine ⟨_,rfl,fun b H I=>?_,fun b=>⟨fun c J l=>(fD (f.le (d.trans l)) s1 hk).mono ?_,fun c=>⟨fun a y K=>?_,fun a z g=>(fD (f.le (d.trans g)) s1 hk).mono ?_⟩⟩⟩
 ·have b:p.2.num.sign>0:=of_decide_eq_true b;unfold Sec.half;rw [if_pos (.inl b)]
 ·have b:¬p.2.num.sign>0:=of_decide_eq_false b;have c:p.2.num.sign=0:=by simpa using c
  rintro r L A rfl;refine ⟨_,rfl,fun a M N=>?_,fun a=>⟨fun i O P=>?_,fun i Q B=>(fD (f.le (d.trans (l.trans (A.trans B)))) s1 hk).mono ?_⟩⟩
  ·have a:p.1.num.sign>0:=of_decide_eq_true a;unfold Sec.half;rw [if_pos (.inr ⟨c,a⟩)]
  ·have i:p.2.num.sign<0:=of_decide_eq_true i;omega
  ·have a:¬p.1.num.sign>0:=of_decide_eq_false a;have m:¬(p.2.num.sign>0\/p.2.num.sign=0/\p.1.num.sign>0):=by omega
   rintro r R S rfl;refine ⟨_,rfl,fun e C D=>?_,fun e E F=>?_⟩
   ·have e:p.1.num.sign<0:=of_decide_eq_true e;unfold Sec.half;rw [if_neg m,if_pos (.inr e)]
   ·have e:¬p.1.num.sign<0:=of_decide_eq_false e;unfold Sec.half;rw [if_neg m,if_neg (by omega)]
 ·have b:¬p.2.num.sign>0:=of_decide_eq_false b;have c:¬p.2.num.sign=0:=by simpa using c
  have a:p.2.num.sign<0:=of_decide_eq_true a;unfold Sec.half;rw [if_neg (by omega),if_pos (.inl a)]
 ·have b:¬p.2.num.sign>0:=of_decide_eq_false b;have c:¬p.2.num.sign=0:=by simpa using c
  have a:¬p.2.num.sign<0:=of_decide_eq_false a;omega
theorem Lu (q:Rat):-1<=q.num.sign/\q.num.sign<=1:=by
 rcases Int.lt_trichotomy q.num 0 with h|h|h
 ·rw [Int.sign_eq_neg_one_of_neg h];omega
 ·rw [h];decide
 ·rw [Int.sign_eq_one_of_pos h];omega
theorem Bx {V:View}{v w:Value}{a b:Rat×Rat}(h:RPt V v a.1 a.2)(h':RPt V w b.1 b.2){k:Nat}(s1:Sz k a.1)(s2:Sz k a.2)(s3:Sz k b.1)(s4:Sz k b.2)(hk:4*k+3<274877906944) :
  Acts prog 170 #[v,w] V fun r V'=>r=.int .i64 (Sec.ang a b):=by
 have f:=h;have c:=h';obtain ⟨n,o,q,p,s,u,rfl,-⟩:=h;obtain ⟨x,y,t,z,A,B,rfl,-⟩:=h';refine AR n o q p s u x y t z A B V _ fun J d=>(yj (f.le d) s1 s2 (by omega)).mono ?_;rintro r V2 i rfl;refine ⟨_,rfl,fun K j=>(yj (c.le (d.trans (i.trans j))) s3 s4 (by omega)).mono ?_⟩;rintro r L C rfl;have l:=d.trans (i.trans (j.trans C));refine ⟨_,rfl,fun g M N=>?_,fun g=>⟨fun e O P=>?_,fun e Q m=>(tT (f.le (l.trans m)) (c.le (l.trans m)) s1 s2 s3 s4 hk).mono ?_⟩⟩
 ·unfold Sec.ang;rw [if_pos (of_decide_eq_true g)]
 ·unfold Sec.ang;rw [if_neg (of_decide_eq_false g),if_pos (of_decide_eq_true e)]
 ·rintro r R S gc;have D:=gc;obtain ⟨T,U,W,rfl⟩:=gc.shape;refine ⟨_,_,_,rfl,fun X E=>(fD (D.le E) (q_ s1 s2 s3 s4) (by omega)).mono ?_⟩;rintro r F G rfl;refine ⟨_,rfl,fun H I=>?_⟩;have Y:=Lu (a.1*b.2-a.2*b.1);rw [i64w (by omega)];unfold Sec.ang;rw [if_neg (of_decide_eq_false g),if_neg (of_decide_eq_false e)];show _=Value.int .i64 (-(a.1*b.2-a.2*b.1).num.sign);congr 1;omega
def M3:Rat×Rat:=(0,0)
def O6 (a b:Rat×Rat):Int:=Sec.ang a b
def J7 (V:View)(v:Value)(c:Rat×Rat):Prop:=RPt V v c.1 c.2/\Sz 100000 c.1/\Sz 100000 c.2
theorem J7.le {V V':View}{v:Value}{c:Rat×Rat}(h:J7 V v c)(l:V.Le V'):J7 V' v c:=⟨h.1.le l,h.2⟩
theorem J7.shape {V:View}{v:Value}{c:Rat×Rat}(h:J7 V v c):∃(x y:Int)(p:OA)(xb yb:Int)(pb:OA),v=.agg #[.int .i64 x,.int .i64 y,.pointer p,.int .i64 xb,.int .i64 yb,.pointer pb]:=by
 obtain ⟨⟨a,b,p,d,f,q,e,-⟩,-⟩:=h;exact ⟨_,_,_,_,_,_,e⟩
def eP (a b:Rat×Rat):Bool:=Sec.eP a b
def oY (p:Rat×Rat):Rat×Rat:=(p.1*(gN p.1 p.2)⁻¹,p.2*(gN p.1 p.2)⁻¹)
theorem Mm {V:View}{v:Value}{l:L3}(h:RLi V v l)(hb:Bd l):Acts prog 171 #[v] V fun r V'=>RPt V' r (Sec.dirL l).1 (Sec.dirL l).2:=ki h hb.szl.1 hb.szl.2.1 hb.szl.2.2 (by omega)
theorem kR {l:L3}(hb:Bd l):Sz 1000 (Sec.dirL l).1/\Sz 1000 (Sec.dirL l).2:=⟨hb.szl.2.1,hb.szl.1.neg⟩
theorem Fm {V:View}{v lv:Value}{s:Sd}{l:L3}(h:RSd V v s)(hl:RLi V lv l)(hb:Bd l):Acts prog 169 #[v,lv] V fun r V'=>r=.int .i64 (Sec.ang (Sec.dirL s.1) (Sec.dirL l)):=by
 have a:=hl;obtain ⟨_,_,_,_,_,_,_,_,_,_,_,_,_,_,_,rfl⟩:=h.shape;obtain ⟨j,o,-,-⟩:=h.both;have b:=h.2.1;obtain ⟨_,_,_,_,_,_,_,_,_,rfl,-,-,-⟩:=hl;refine nU _ _ _ _ _ _ _ _ _ _ _ _ _ _ _ _ _ _ _ _ _ _ _ _ _ _ V _ fun p d=>(Mm (j.le d) b).mono ?_;rintro r V2 k g;have m:=g;obtain ⟨_,_,_,_,_,_,rfl,-,-⟩:=g;refine ⟨_,_,_,_,_,_,rfl,fun q e=>(Mm (a.le (d.trans (k.trans e))) hb).mono ?_⟩;rintro r t n f;have c:=f;obtain ⟨_,_,_,_,_,_,rfl,-,-⟩:=f;refine ⟨_,_,_,_,_,_,rfl,fun u i=>(Bx (m.le (e.trans (n.trans i))) (c.le i) (kR b).1 (kR b).2 (kR hb).1 (kR hb).2 (by omega)).mono ?_⟩;rintro r w x rfl;exact ⟨_,rfl,fun y z=>rfl⟩
theorem GM {i j:Nat}(hi:i<=1000000)(hj:j<=1000000):i64.wrap ((u64.wrap (i64.wrap ((i:Int)+(j:Int)))).fdiv (2^1))=(((i+j) / 2:Nat):Int):=by
 have a:i64.wrap ((i:Int)+(j:Int))=(i:Int)+(j:Int):=i64w (by omega);have b:u64.wrap ((i:Int)+(j:Int))=(i:Int)+(j:Int):=aG (by omega)
 have:((i:Int)+(j:Int)).fdiv (2^1)=(((i+j) / 2:Nat):Int):=by
  rw [Int.fdiv_eq_ediv_of_nonneg _ (by decide)];omega
 rw [a,b,this,i64w (by omega)]
theorem Gl {V:View}{lb n c:Nat}{vs:List Value}{r:List Sd}{lv:Value}{l:L3}(hw:V.w.heap[lb]?=some (.cells vs.toArray 193 (0,0)))(hx:V.X lb)(hr:Row 17 RSd V vs r)(hn:n=r.length)(hs:n<=1000000)(hl:RLi V lv l)(hb:Bd l)
  (asc:r.Pairwise fun s u=>Sec.ang (Sec.dirL s.1) (Sec.dirL u.1)<0) :
  Acts prog 168 #[.slice (some ⟨lb,0,none⟩) n c,lv,.func (.func 169) #[] #[]] V fun q V'=>∃(i:Nat)(b:Bool),q=.tuple #[.int .i64 i,.bool b]/\i<=n/\(∀v:Sp,lG (l,v) r=r.take i++(l,v)::r.drop i) /\
   V'.w.heap[lb]?=some (.cells vs.toArray 193 (0,0)):=by
 have k:=hl;subst hn;obtain ⟨_,_,_,_,_,_,_,_,_,rfl,-,-,-⟩:=hl;refine iH lb _ c vs _ _ _ _ _ _ _ _ _ V _ hw hx ⟨fun z V'=>∃i j:Nat,z.1=(i:Int)/\z.2=(j:Int)/\Bs r l i j,fun z=>z.2.toNat-z.1.toNat,⟨(0,(r.length:Int)),by and_intros<;>rfl,0,r.length,rfl,rfl,Bs.start r l⟩,?_⟩;rintro ⟨Y,Z⟩ H o ⟨i,j,D,E,f⟩;dsimp only at D E;subst D E;have ble:=f.le;have I:=f.len;have m:=hr.le (V':=H) fun _ _ g=>RSd.le g o;refine ⟨rfl,fun a=>?_,fun a=>?_⟩
 ·have a:(i:Int)<(j:Int):=of_decide_eq_true a;dsimp only;rw [GM (by omega) (by omega)];have p:(i+j) / 2<j:=by omega
  have J:i<=(i+j) / 2:=by omega
  generalize (i+j) / 2=h at *;have t:h<r.length:=by omega
  have w:i64.wrap ((h:Int)+1)=((h+1:Nat):Int):=by rw [i64w (by omega)];rfl
  rw [Int.toNat_natCast,w,Nat.zero_add];obtain ⟨K,L,M,N,O,P,Q,R,S,b1,b2,b3,b4,T,U,x,y,d⟩:=FT m t;refine ⟨by omega,⟨by omega,by omega⟩,_,_,_,_,_,_,_,_,_,_,_,_,_,_,_,_,_,⟨x,y⟩,fun V2 F=>(Fm (d.le F) (k.le (o.trans F)) hb).mono ?_⟩;rintro q V3 l3 rfl;refine ⟨_,rfl,fun A=>⟨(((h+1:Nat):Int),(j:Int)),by dsimp only;omega,by and_intros<;>rfl,h+1,j,rfl,rfl,f.up asc p t (of_decide_eq_true A)⟩,fun A=>⟨((i:Int),(h:Int)),by dsimp only;omega,by and_intros<;>rfl,i,h,rfl,rfl,f.down J t (of_decide_eq_false A)⟩⟩
 ·have a:¬(i:Int)<(j:Int):=of_decide_eq_false a;obtain rfl:i=j:=by omega
  dsimp only;refine ⟨fun e=>?_,fun e V7 l7 B=>⟨i,false,rfl,by omega,fun v=>f.done v,B⟩⟩;have e:(i:Int)<(r.length:Int):=of_decide_eq_true e;have C:i<r.length:=by omega
  rw [Int.toNat_natCast,Nat.zero_add];obtain ⟨K,L,M,N,O,P,Q,R,S,b1,b2,b3,b4,T,U,x,y,d⟩:=FT m C;refine ⟨⟨by omega,by omega⟩,_,_,_,_,_,_,_,_,_,_,_,_,_,_,_,_,_,⟨x,y⟩,fun V4 G=>(Fm (d.le G) (k.le (o.trans G)) hb).mono ?_⟩;rintro q V5 l5 rfl;exact ⟨_,rfl,fun V6 l6 W=>⟨i,_,rfl,by omega,fun v=>f.done v,W⟩⟩
theorem le_moved {V V':View}{P:Prop}{b:Nat}(l:V.Le V')(h:P->V.w.heap.size<=b\/V.H b):V.Le (V'.shut.hideG P b):=fun x o a=>by
 have c:=l x o a;refine ⟨fun d=>d.elim c.1 ?_,c.2⟩;rintro ⟨e,rfl,-⟩;rcases h e with h|h
 ·have:=(Array.getElem?_eq_some_iff.1 a.2).1;omega
 ·exact a.1 h
theorem Gy {c:List Sd}{l:L3}{i:Nat}(hi:i<c.length):k_ (c.take (i+1)) l=k_ (c.take i) l++if dq c[i].1 c[i].2 l=true then [(c[i].1,cN c[i].1 c[i].2 l)] else []:=by
 unfold k_;rw [List.take_add_one,List.getElem?_eq_getElem hi,List.filterMap_append];congr 1;show List.filterMap _ [c[i]]=_;by_cases h:dq c[i].1 c[i].2 l=true
 ·simp [h]
 ·simp [h]
theorem uf (c:List Sd)(l:L3):(k_ c l).length<=c.length:=List.length_filterMap_le ..
theorem D1 {c:List Sd}{l:L3}{v:Sp}(h:bG c l fullSp=some v):clipC c l=some (lG (l,v) (k_ c l)):=by unfold clipC;rw [h]
theorem D0 {c:List Sd}{l:L3}(h:bG c l fullSp=none):clipC c l=if 0<cK c l then some c else none:=by unfold clipC;rw [h]
set_option maxHeartbeats 1000000 in
theorem c_Cell_Clip {V:View}{cp:OA}{cn cc:Nat}{c:List Sd}{lv:Value}{l:L3}(h:Lst 17 RSd V cp cn c)(hl:RLi V lv l)(hb:Bd l)(hn:c.length<=100000)(asc:c.Pairwise fun s u=>Sec.ang (Sec.dirL s.1) (Sec.dirL u.1)<0) :
  Acts prog 133 #[.slice cp cn cc,lv] V fun r V'=>∃q m e,r=.tuple #[.slice q m e,.bool (clipC c l).isSome]/\(∀c',clipC c l=some c'->Lst 17 RSd V' q m c'/\(cn<=cc->m<=e)):=by
 have f:=hl;have h0:=h;obtain rfl:=h.len;obtain ⟨_,_,_,_,_,_,_,_,_,rfl,-,-,-⟩:=hl;refine qT cp _ cc _ _ _ _ _ _ _ _ _ V _ fun V1 T=>(rm (h.le T fun _ _ g=>RSd.le g T) (f.le T) hb (by omega)).mono ?_;rintro r V2 l2 ⟨w,rfl,gv,sv⟩;have Wb:=gv;obtain ⟨_,_,_,_,_,_,rfl,-,-⟩:=gv;have I:=T.trans l2;refine ⟨_,_,_,_,_,_,_,_,_,rfl,fun B V3 U=>(zG (h0.le (I.trans U) fun _ _ g=>RSd.le g (I.trans U)) (f.le (I.trans U)) hb (by omega)).mono ?_,fun B=>?_⟩
 ·have B:bG c l fullSp=none:=by simpa using B
  rintro r V4 l4 rfl;have e1:OB c l=cK c l:=by unfold OB;rw [B];rfl
  have J:=D0 B;refine ⟨_,rfl,fun V5 l5=>⟨cp,c.length,cc,?_,fun c' e=>?_⟩⟩
  ·rw [e1,J];by_cases W:0<cK c l
   ·rw [if_pos W,decide_eq_true W];rfl
   ·rw [if_neg W,decide_eq_false W];rfl
  ·rw [J] at e;split at e
   ·cases e;have L5:=I.trans (U.trans (l4.trans l5));exact ⟨h0.le L5 fun _ _ g=>RSd.le g L5,id⟩
   ·cases e
 have B:(bG c l fullSp).isSome=true:=by simpa using B
 obtain ⟨v,ev⟩:=Option.isSome_iff_exists.1 B;rw [ev] at Wb sv ⊢;have J:=D1 ev;have w1:i64.wrap ((c.length:Int)+1)=((c.length+1:Nat):Int):=by rw [i64w (by omega)];rfl
 rw [w1,Int.toNat_natCast]
 refine ⟨by omega,by omega,by omega,fun z V'=>∃i:Nat,z.2.2.2=(i:Int)/\i<=c.length/\GR 17 RSd V' z.1 z.2.1 z.2.2.1 (k_ (c.take i) l)/\z.2.1≠0,fun z=>c.length-z.2.2.2.toNat,
  ⟨(0,c.length+1,oh (c.length+1) [.int .i64 0,.int .i64 0,.pointer none,.int .i64 0,.int .i64 0,.pointer none,.int .i64 0,.int .i64 0,.pointer none,.int .i64 0,.int .i64 0,.pointer none,.int .i64 0,.int .i64 0,.pointer none,.bool false,.bool false],0),by and_intros<;>first|rfl|omega,0,rfl,Nat.zero_le _,⟨rfl,Nat.zero_le _,?_,Row.nil⟩,by dsimp only;omega⟩,?_⟩
 ·show _<=(List.replicate (c.length+1) _).flatten.length;rw [List.length_flatten,List.map_replicate,List.sum_replicate_nat];exact Nat.le_refl _
 rintro ⟨D,z2,vs,z4⟩ V6 l6 ⟨i,e4,c4,t,E⟩;dsimp only at e4 t E;subst e4;have X:=I.trans l6;have H:=t.len;have F:=t.le;have K:=t.cap;try dsimp only at H F K
 have V_:=uf (c.take i) l;rw [List.length_take] at V_;refine ⟨rfl,fun j=>?_,fun j=>⟨fun d=>?_,fun d x Y bk g1 g2=>?_⟩⟩
 ·have j:(i:Int)<c.length:=of_decide_eq_true j;have y:i<c.length:=by omega
  have w:i64.wrap ((i:Int)+1)=((i+1:Nat):Int):=by rw [i64w (by omega)];rfl
  dsimp only;rw [Int.toNat_natCast,w];obtain ⟨ps,a1,a2,a3,a4,a5,a6,a7,a8,a9,b1,b2,b3,b4,b5,b6,a,ha,k0,Z,k2,k3,k4,k5,k6,k7,k8,k9,a0,b0,b7,b8,b9,c0,c1,hr⟩:=lst_rsd (h0.le X fun _ _ g=>RSd.le g X) y;obtain ⟨rl,ri,-,-⟩:=hr.both;have L:=hr.2;have ct:=Gy (l:=l) y;generalize c[i]=S at *;refine ⟨ps,⟨by omega,by omega⟩,_,_,_,_,_,_,_,_,_,_,_,_,_,_,_,_,_,a,ha,k0,Z,k2,k3,k4,k5,k6,k7,k8,k9,a0,b0,b7,b8,b9,c0,c1,fun V7 M=>(Bv (rl.le M) (ri.le M) (f.le (X.trans M)) (k:=100000) (L.1.szl.up (by omega)) L.2 (hb.szl.up (by omega)) (by omega)).mono ?_⟩;rintro r V8 l8 ⟨w8,rfl,g⟩;have g0:=g;obtain ⟨_,_,_,_,_,_,rfl,-,-⟩:=g;have Wz:=t.mono (V':=V8) fun _ _ g=>RSd.le g (M.trans l8);refine ⟨_,_,_,_,_,_,_,_,_,rfl,fun G=>⟨by omega,F,K,rfl,I_,fun sp c' h1 h2=>⟨(D+1,c',_,((i+1:Nat):Int)),by dsimp only;omega,by and_intros<;>rfl,i+1,rfl,y,?_,by dsimp only;omega⟩⟩,fun G=>⟨(D,z2,vs,((i+1:Nat):Int)),by dsimp only;omega,by and_intros<;>rfl,i+1,rfl,y,?_,E⟩⟩
  ·have G:dq S.1 S.2 l=true:=G;dsimp only;rw [ct,if_pos G];exact Wz.snoc (a:=(S.1,cN S.1 S.2 l)) rfl ⟨⟨_,_,_,_,_,_,_,_,_,_,_,_,_,_,_,rfl,rl.le (M.trans l8),g0⟩,L.1,AJ L.1.szl hb.szl L.2 (by omega)⟩ (by decide) h1 h2
  ·have G:¬dq S.1 S.2 l=true:=by rw [show dq S.1 S.2 l=false from G];exact Bool.false_ne_true
   dsimp only;rw [ct,if_neg G,List.append_nil];exact Wz
 ·have d:vs=[]:=d;rw [d] at K;simp at K;omega
 have j:¬(i:Int)<c.length:=of_decide_eq_false j;obtain rfl:i=c.length:=by omega
 rw [List.take_length] at t H;have V_:=uf c l;have d:vs≠[]:=d;have Me:∀b,mA b z2=some ⟨b,0,none⟩:=fun b=>by unfold mA;rw [if_neg E]
 dsimp only;rw [Me];have Hy:=X.trans Y;refine (Gl (V:=x.lend [vb vs x.w.heap.size bk]) (r:=k_ c l) (l:=l) (g1 d) ⟨by simp [vb_ne d],g2 d⟩ (t.row.le fun _ _ g=>RSd.le g fun b o h=>Y b o h) H (by omega) (RLi.le (V:=V) (V':=x.lend _) f fun b o h=>Hy b o h) hb (BM asc)).mono ?_;rintro r c5 dh ⟨at_,fb,rfl,c2,N,e5⟩;refine ⟨_,_,rfl,d,vs,d,e5,fun C cQ A O Z k2 k3 k4 k5=>?_⟩;rw [Me];have p:x.Le C:=fun b o h=>cQ b o (dh b o h);have c6:C.w.heap.size>A:=(Array.getElem?_eq_some_iff.1 (Z d)).1;have Nr:Row 17 RSd C vs (k_ c l):=t.row.le fun _ _ g=>RSd.le g (Y.trans p)
 have Q:∀u∈(vs.take (D*17)).drop (at_*17),u.oneCell'=true:=fun u hu=>by
  obtain ⟨m,hm,e⟩:=List.mem_iff_getElem.1 (List.mem_of_mem_drop hu);have R:m<(k_ c l).length*17:=by rw [List.length_take,H] at hm;omega
  have:=List.getElem?_eq_getElem hm;rw [e,List.getElem?_take,if_pos (by rw [H];exact R)] at this;exact row_one_cell t.row (by decide) (fun xs _=>Lr xs) R this
 refine (HT (V:=C.lend [vb vs C.w.heap.size A,O]) (ob:=A) (vb:=O) (n:=D) (c:=z2) (i:=at_) (vs:=vs) (xs:=[_,_,_,_,_,_,_,_,_,_,_,_,_,_,_,_,_]) (Z d) ⟨by simp [vb_ne d],k2 d⟩ k3 (k5 d) c2 F (by omega) K rfl Q I_).mono ?_;rintro r ng ck ⟨q,c',sp,rfl,f1,f2,f3,f4,f5⟩;have c3:C.w.heap.size<=q\/(vs≠[]/\q=A):=f2.imp id fun e=>⟨d,e⟩;refine ⟨q,_,fun _=>f1,fun _=>c3,some ⟨q,0,none⟩,D+1,c',?_,_,_,_,_,_,_,_,_,_,_,_,_,_,_,_,_,_,f5,fun oo dk HJ m1=>⟨mA HJ c',D+1,c',?_,fun c7 e=>?_⟩⟩
 ·unfold mA;rw [if_neg (by omega)]
 ·rw [J];rfl
 ·rw [J] at e;obtain rfl:=Option.some.inj e;have IF:C.Le oo:=fun b o hx=>dk b o (le_moved (V:=C.lend _) (V':=ng) (P:=_) (b:=q) ck (fun _=>f2.elim .inl fun e=>.inr (by rw [e];exact k2 d)) b o hx);have hR:=vj (sp:=sp) (Nr.le fun _ _ g=>RSd.le g IF) (k:=at_) (by omega) (xs:=[_,_,_,_,_,_,_,_,_,_,_,_,_,_,_,_,_]) (a:=(l,v)) rfl ⟨⟨_,_,_,_,_,_,_,_,_,_,_,_,_,_,_,rfl,f.le (Hy.trans (p.trans IF)),Wb.le (l6.trans (Y.trans (p.trans IF)))⟩,hb,sv⟩ (by decide);rw [N v]
  have hlen:D+1=((k_ c l).take at_++(l,v)::(k_ c l).drop at_).length:=by
   rw [List.length_append,List.length_cons,List.length_take,List.length_drop];omega
  rw [hlen];rw [←H] at hR;exact ⟨Lst.of_mrow m1 hR (by decide) (by rw [←hlen];exact f3),fun _=>by rw [←hlen];exact f3⟩
def RY (k:Nat)(V:View)(v:Value)(c:Rat×Rat):Prop:=RPt V v c.1 c.2/\Sz k c.1/\Sz k c.2
theorem RY.le {k:Nat}{V V':View}{v:Value}{c:Rat×Rat}(h:RY k V v c)(l:V.Le V'):RY k V' v c:=⟨h.1.le l,h.2⟩
def RLv (V:View)(v:Value)(l:L3):Prop:=RL V v l.1 l.2.1 l.2.2
theorem RLv.le {V V':View}{v:Value}{l:L3}(h:RLv V v l)(e:V.Le V'):RLv V' v l:=RL.le h e
theorem rlv_shape {V:View}{v:Value}{l:L3}(h:RLv V v l):∃(b1:Bool)(p1:OA)(n1 c1:Nat)(b2:Bool)(p2:OA)(n2 c2:Nat)(b3:Bool)(p3:OA)(n3 c3:Nat),v=.agg #[.bool b1,.slice p1 n1 c1,.bool b2,.slice p2 n2 c2,.bool b3,.slice p3 n3 c3]:=by
 obtain ⟨_,_,_,_,_,_,_,_,_,e,-⟩:=h;exact ⟨_,_,_,_,_,_,_,_,_,_,_,_,e⟩
theorem pt {V:View}{xs:List Value}{l:L3}(h:RLv V (.agg (List.toArray xs)) l):∀v∈xs,v.oneCell'=true:=by
 obtain ⟨_,_,_,_,_,_,_,_,_,_,_,_,e⟩:=rlv_shape h;have e:=congrArg Array.toList (Value.agg.inj e);dsimp only at e;subst e;intro v hm;simp only [List.mem_cons,List.not_mem_nil,or_false] at hm;rcases hm with rfl|rfl|rfl|rfl|rfl|rfl<;>rfl
theorem one6 {b:Bool}{p:OA}{n c:Nat}{b':Bool}{p':OA}{n' c':Nat}{b'':Bool}{p'':OA}{n'' c'':Nat}:∀v∈([.bool b,.slice p n c,.bool b',.slice p' n' c',.bool b'',.slice p'' n'' c'']:List Value),v.oneCell'=true:=by
 intro v hm;simp only [List.mem_cons,List.not_mem_nil,or_false] at hm;rcases hm with rfl|rfl|rfl|rfl|rfl|rfl<;>rfl
theorem jm:∀(t:Tr) {V:View} {p:OA},RW V p t->t.size<=1000000->Acts prog 86 #[.pointer p] V fun r V'=>∃q n c,r=.slice q n c/\Lst 6 RLv V' q n t.wZ
 | .leaf i,V,p,h,hs=>by
  obtain ⟨s,e0,-⟩:=Ls h;exact mf p V _ ⟨s,s,_,e0,fun _ V1 l1=>⟨_,_,_,rfl,Lst.nil⟩,(fun h=>nomatch h)⟩
 | .node ln a b,V,p,h,hs=>by
  have h0:=h;obtain ⟨k,i,b1,l,o,u,b2,w,x,y,b3,z,A,B,pl,M,rfl,hb,W,X,C⟩:=h
  have D:∀j v,([.bool false,.bool i,.bool b1,.slice l o u,.bool b2,.slice w x y,.bool b3,.slice z A B,.pointer pl,.pointer M]:List Value)[j]?=some v->V.at ((⟨k,0,none⟩:Addr).add j) v:=by
   intro j v e;rw [add_zero'];exact blk_at (xs:=[_,_,_,_,_,_,_,_,_,_]) hb e
  have d:∀j v,([.bool b1,.slice l o u,.bool b2,.slice w x y,.bool b3,.slice z A B]:List Value)[j]?=some v->V.at (((⟨k,0,none⟩:Addr).add 2).add j) v:=by
   intro j v e;rw [addadd];refine D (2+j) v ?_;have Y:j<6:=(List.getElem?_eq_some_iff.1 e).1
   match j,Y,e with
   | 0,_,h=>exact h
   | 1,_,h=>exact h
   | 2,_,h=>exact h
   | 3,_,h=>exact h
   | 4,_,h=>exact h
   | 5,_,h=>exact h
  simp only [Tr.size] at hs;have la:=mC a;have lb:=mC b;refine mf _ V _ ⟨rfl,rfl,false,rdc hb 0 rfl,(fun h=>nomatch h),fun _=>⟨rfl,rfl,_,_,_,_,_,_,_,_,_,_,_,_,(⟨k,0,none⟩:Addr).add 2,rfl,d 0 _ rfl,d 1 _ rfl,d 2 _ rfl,d 3 _ rfl,d 4 _ rfl,d 5 _ rfl,rfl,rfl,pl,rdc hb 8 rfl,rfl,rfl,M,rdc hb 9 rfl,fun V2 E=>(jm a (X.le E) (by omega)).mono ?_⟩⟩;rintro r Z N ⟨q,n,c,rfl,g⟩;obtain rfl:=g.len;obtain ⟨xs,x1,F,O⟩:=lst_cells g (by decide)
  have oc:∀v∈xs,v.oneCell'=true:=fun v e=>by
   obtain ⟨m,hm,rfl⟩:=List.mem_iff_getElem.1 e;exact row_one_cell O (by decide) (fun _ _=>pt) (by omega) (List.getElem?_eq_getElem hm)
  have r1:Row 6 RLv Z ([.bool b1,.slice l o u,.bool b2,.slice w x y,.bool b3,.slice z A B]:List Value) [ln]:=row_one rfl (W.le (E.trans N));refine ⟨_,_,_,rfl,xs,x1,F,by omega,Nat.le_refl _,Nat.le_refl 6,F,oc,fun bk J sp c' h1 h2 V4 G=>(jm b (C.le (E.trans (N.trans G))) (by omega)).mono ?_⟩;rintro r V5 P ⟨q',n',a0,rfl,Q⟩;obtain rfl:=Q.len;obtain ⟨R,y1,S,H⟩:=lst_cells Q (by decide)
  have Zp:∀v∈R,v.oneCell'=true:=fun v e=>by
   obtain ⟨m,hm,rfl⟩:=List.mem_iff_getElem.1 e;exact row_one_cell H (by decide) (fun _ _=>pt) (by omega) (List.getElem?_eq_getElem hm)
  have T:=row_append (sp:=sp) r1 O (by decide);have f:([ln]++a.wZ).length=1+a.wZ.length:=by simp;omega
  have r3:=row_append (sp:=[]) (T.le fun _ _ g=>RLv.le g (G.trans P)) H (by decide);rw [f] at r3;refine ⟨_,_,_,rfl,R,y1,S,by omega,h1,?_,S,Zp,fun a1 J2 I a2 h3 h4 V6 l6 HJ K=>⟨_,_,_,rfl,?_⟩⟩
  ·simp only [List.length_append,List.length_take,List.length_cons,List.length_nil,F];omega
  ·have U:=row_append (sp:=I) (T.le fun _ _ g=>RLv.le g (G.trans P)) H (by decide);rw [f] at U;have:=Lst.I8 K (U.le fun _ _ g=>RLv.le g l6);have L:([ln]++a.wZ++b.wZ).length=1+a.wZ.length+b.wZ.length:=by rw [List.length_append,f]
   rw [L] at this;exact this
def Oz (ls:List L3):Bool:=decide (ls.length<=1024)&&ls.all okL
theorem Cd (x:Sd):∀r:List Sd,(lG x r).length=r.length+1
 | []=>rfl
 | s::r=>by
  unfold lG;split
  ·rw [List.length_cons,Cd x r,List.length_cons]
  ·rfl
theorem clipC_len {c c':List Sd}{l:L3}(e:clipC c l=some c'):c'.length<=c.length+1:=by
 unfold clipC at e;split at e
 ·cases e;rw [Cd];have:=uf c l;omega
 ·split at e
  ·cases e;omega
  ·cases e
theorem c_Cell_API {V:View}{p:OA}{n c:Nat}{cs:List Sd}(h:Lst 17 RSd V p n cs)(hn:cs.length<=100000) :
  Acts prog 41 #[.slice p n c] V fun r V'=>∃q m e,r=.agg #[.slice q m e]/\Lst 6 RLv V' q m (cs.map Prod.fst)/\m<=e:=by
 obtain rfl:=h.len;refine sG p _ c V _ ⟨fun z V'=>∃j:Nat,z.1=(j:Int)/\j<=cs.length/\GR 6 RLv V' z.2.1 z.2.2.1 z.2.2.2 ((cs.map Prod.fst).take j),fun z=>cs.length-z.1.toNat,⟨(0,0,0,[]),by and_intros<;>rfl,0,rfl,Nat.zero_le _,GR.nil⟩,?_⟩;rintro ⟨z1,D,z3,vs⟩ V1 v ⟨j,x,E,d⟩;dsimp only at x d;subst x;have F:=d.len;rw [List.length_take,List.length_map] at F;refine ⟨rfl,fun b=>?_,fun b V4 G bk hb=>?_⟩
 ·have b:(j:Int)<cs.length:=of_decide_eq_true b;have f:j<cs.length:=by omega
  have w:i64.wrap ((j:Int)+1)=((j+1:Nat):Int):=by rw [i64w (by omega)];rfl
  dsimp only;rw [Int.toNat_natCast,w];obtain ⟨H,a1,a2,a3,a4,a5,a6,a7,a8,a9,b1,b2,b3,b4,b5,b6,a,I,J,K,L,M,N,O,P,Q,R,S,i,k,l,o,s,t,u,y⟩:=lst_rsd (h.le v fun _ _ g=>RSd.le g v) f;obtain ⟨T,ri,-,-⟩:=y.both;obtain ⟨s1,s2,s3⟩:=y.2.1.sz;refine ⟨H,⟨by omega,by omega⟩,_,_,_,_,_,_,_,_,_,_,_,_,_,_,_,_,_,a,I,J,K,L,M,N,O,P,Q,R,S,i,k,l,o,s,t,u,fun V2 A=>(Gn (T.le A) s1 s2 s3 (by omega)).mono ?_⟩;rintro r B U W;have C:RLv B r cs[j].1:=RLi.api W;obtain ⟨_,_,_,_,_,_,_,_,_,_,_,_,rfl⟩:=rlv_shape C;refine ⟨_,_,_,_,_,_,_,_,_,_,_,_,rfl,by omega,d.le,d.cap,rfl,one6,fun sp X Y Z=>⟨(((j+1:Nat):Int),D+1,X,_),by dsimp only;omega,by and_intros<;>rfl,j+1,rfl,f,?_⟩⟩;dsimp only;rw [List.take_add_one,List.getElem?_map,List.getElem?_eq_getElem f];exact (d.mono (V':=B) fun _ _ g=>RLv.le g (A.trans U)).snoc rfl C (by decide) Y Z
 ·have b:¬(j:Int)<cs.length:=of_decide_eq_false b;obtain rfl:j=cs.length:=by omega
  rw [List.take_of_length_le (by rw [List.length_map];exact Nat.le_refl _)] at d;obtain rfl:=d.len;exact ⟨_,_,_,rfl,Lst.of_mrow hb (d.row.le fun _ _ g=>RLv.le g G) (by decide) d.le,d.le⟩
def Kk (ls:List L3)(bad WY:Prop)(some_:List Sd->Prop):Prop:=(Oz ls=false/\bad)\/(Oz ls=true/\dA ls [] []=none/\WY)\/(Oz ls=true/\∃c,dA ls [] []=some c/\some_ c)
theorem Kk.bad {ls:List L3}{p q:Prop}{s:List Sd->Prop}(h:Kk ls p q s)(e:Oz ls=false):p:=by
 rcases h with ⟨-,h⟩|⟨h,-⟩|⟨h,-⟩
 ·exact h
 ·rw [e] at h;cases h
 ·rw [e] at h;cases h
theorem Kk.WY {ls:List L3}{p q:Prop}{s:List Sd->Prop}(h:Kk ls p q s)(e:Oz ls=true)(e':dA ls [] []=none):q:=by
 rcases h with ⟨h,-⟩|⟨-,-,h⟩|⟨-,c,h,-⟩
 ·rw [e] at h;cases h
 ·exact h
 ·rw [e'] at h;cases h
theorem Kk.some {ls:List L3}{p q:Prop}{s:List Sd->Prop}{c:List Sd}(h:Kk ls p q s)(e:Oz ls=true)(e':dA ls [] []=Option.some c):s c:=by
 rcases h with ⟨h,-⟩|⟨-,h,-⟩|⟨-,b,h,a⟩
 ·rw [e] at h;cases h
 ·rw [e'] at h;cases h
 ·rw [e'] at h;cases h;exact a
theorem Kk.imp {ls:List L3}{p q p' q':Prop}{s s':List Sd->Prop}(h:Kk ls p q s)(hp:p->p')(hq:q->q')(hs:∀c,dA ls [] []=Option.some c->s c->s' c):Kk ls p' q' s':=by
 rcases h with ⟨h,a⟩|⟨h,b,a⟩|⟨h,c,b,a⟩
 ·exact .inl ⟨h,hp a⟩
 ·exact .inr (.inl ⟨h,b,hq a⟩)
 ·exact .inr (.inr ⟨h,c,b,hs c b a⟩)
def HA (V:View)(v:Value)(c:Rat×Rat):Prop:=LO V v c.1 c.2
theorem HA.le {V V':View}{v:Value}{c:Rat×Rat}(h:HA V v c)(l:V.Le V'):HA V' v c:=LO.le h l
def jN (x:L3):List L3->List L3
 | []=>[x]
 | y::r=>if kZ y x<0 then y::jN x r else if y=x then y::r else x::y::r
theorem KQ {x:L3}:∀(o:List L3)(k:Nat),k<=o.length->(∀j (h:j<o.length),j<k->kZ o[j] x<0)->(∀h:k<o.length,¬kZ o[k] x<0) ->
  jN x o=if (∃h:k<o.length,o[k]=x) then o else o.take k++x::o.drop k:=by
 intro o
 induction o with
 | nil=>
  intro k hk _ _;obtain rfl:k=0:=by simpa using hk
  simp [jN]
 | cons y r ih=>
  intro k hk a b
  cases k with
  | zero=>
   have f:¬kZ y x<0:=b (by simp);unfold jN;rw [if_neg f];by_cases e:y=x
   ·rw [if_pos e,if_pos ⟨by simp,e⟩]
   ·rw [if_neg e,if_neg (by rintro ⟨_,h⟩;exact e h)];rfl
  | succ k=>
   have f:kZ y x<0:=a 0 (by simp) (by omega);unfold jN;rw [if_pos f,ih k (by simpa using hk) (fun j h g=>a (j+1) (by simpa using h) (by omega)) (fun h=>b (by simpa using h))];by_cases e:∃h:k<r.length,r[k]=x
   ·obtain ⟨c,d⟩:=e;rw [if_pos ⟨c,d⟩,if_pos ⟨by simpa using c,d⟩]
   ·rw [if_neg e,if_neg (by rintro ⟨c,d⟩;exact e ⟨by simpa using c,d⟩)];rfl
def dZ (l:List L3):List L3:=l.foldl (fun o x=>jN (cV x) o) []
theorem D7 {l:List L3}{i:Nat}(h:i<l.length):dZ (l.take (i+1))=jN (cV l[i]) (dZ (l.take i)):=by
 unfold dZ;rw [List.take_add_one,List.getElem?_eq_getElem h,List.foldl_append];rfl
theorem Cg (x:L3):∀o:List L3,(jN x o).length<=o.length+1
 | []=>by simp [jN]
 | y::r=>by
  have:=Cg x r;unfold jN;split
  ·simp;omega
  ·split<;>simp
theorem yA (l:List L3):(dZ l).length<=l.length:=by
 have:∀(l o:List L3),(l.foldl (fun o x=>jN (cV x) o) o).length<=o.length+l.length:=by
  intro l
  induction l with
  | nil=>intro o;simp
  | cons x r ih=>
   intro o;have a:=ih (jN (cV x) o);have b:=Cg (cV x) o;simp only [List.foldl_cons,List.length_cons];omega
 have:=this l [];simpa [dZ] using this
def GX (a b:L3):Prop:=kZ a b<0
theorem Qh {a b c:L3}(h:GX a b)(h':GX b c):GX a c:=by unfold GX at *;rw [Fq] at *;omega
theorem Qg {a b:L3}(h:¬GX a b)(hne:a≠b):GX b a:=by
 have:¬(a.1=b.1/\a.2.1=b.2.1/\a.2.2=b.2.2):=fun ⟨c,d,e⟩=>hne (Prod.ext c (Prod.ext d e));unfold GX at *;rw [Fq] at *;omega
theorem uC {x y:L3}:∀{o:List L3},y∈jN x o↔y=x\/y∈o
 | []=>by simp [jN]
 | z::r=>by
  unfold jN;split
  ·simp only [List.mem_cons,uC (o:=r)];constructor
   ·rintro (h|h|h)<;>simp [h]
   ·rintro (h|h|h)<;>simp [h]
  ·split
   ·rename_i e;subst e;simp
   ·simp
theorem Cf {x:L3}:∀{o:List L3},o.Pairwise GX->(jN x o).Pairwise GX
 | [],_=>List.pairwise_singleton _ _
 | z::r,h=>by
  obtain ⟨h1,h2⟩:=List.pairwise_cons.1 h;unfold jN;split
  ·rename_i b;refine List.pairwise_cons.2 ⟨fun y a=>?_,Cf h2⟩;rcases uC.1 a with rfl|a
   ·exact b
   ·exact h1 y a
  ·rename_i b;split
   ·exact h
   ·rename_i c;have d:GX x z:=Qg b c;refine List.pairwise_cons.2 ⟨fun y a=>?_,h⟩;rcases List.mem_cons.1 a with rfl|a
    ·exact d
    ·exact Qh d (h1 y a)
theorem um (l:List L3):(dZ l).Pairwise GX/\∀x,x∈dZ l↔x∈l.map cV:=by
 have:∀(l o:List L3),o.Pairwise GX->(l.foldl (fun o x=>jN (cV x) o) o).Pairwise GX/\∀x,x∈l.foldl (fun o x=>jN (cV x) o) o↔x∈o\/x∈l.map cV:=by
  intro l
  induction l with
  | nil=>intro o h;exact ⟨h,fun x=>by simp⟩
  | cons y r ih=>
   intro o h;obtain ⟨a,b⟩:=ih (jN (cV y) o) (Cf h);refine ⟨a,fun x=>?_⟩;rw [List.foldl_cons,b x,uC,List.map_cons,List.mem_cons];constructor
   ·rintro ((h|h)|h)<;>simp [h]
   ·rintro (h|h|h)<;>simp [h]
 obtain ⟨a,b⟩:=this l [] List.Pairwise.nil;exact ⟨a,fun x=>by rw [dZ,b x];simp⟩
theorem wN {V:View}{v:Value}{l:L3}(h:RLv V v l):Acts prog 131 #[v] V fun r V'=>∃w b,r=.tuple #[w,.bool b]/\RLv V' w (cV l):=by
 have m:=h;obtain ⟨z,A,B,C,D,E,F,G,H,rfl,I,J,W⟩:=h
 have rev:∀(i:View),V.Le i->(l.1<0\/l.1=0/\l.2.1<0)->Acts prog 44 #[.agg #[.bool (decide (l.1<0)),.slice z A B,.bool (decide (l.2.1<0)),.slice C D E,.bool (decide (l.2.2<0)),.slice F G H]] i fun r V'=>RLv V' r (cV l):=fun i n f=>by
  refine (c_ref04_Rev (a:=l.1) (b:=l.2.1) (c:=l.2.2) (m.le n)).mono ?_;rintro r K L g;unfold cV;rw [if_pos f];exact g
 refine vW _ _ _ _ _ _ _ _ _ _ _ _ V _ fun X u=>(kr l.1 (I.le u)).mono ?_;rintro r V2 M rfl;have k:=u.trans M;refine ⟨_,rfl,fun f i n=>(rev i (k.trans n) (.inl (Int.sign_neg_iff.1 (of_decide_eq_true f)))).mono ?_,fun f=>⟨fun o Y x=>(kr l.2.1 (J.le (k.trans x))).mono ?_,fun d N p=>?_⟩⟩
 ·rintro r K L g;have q:=g;obtain ⟨_,_,_,_,_,_,_,_,_,_,_,_,rfl⟩:=rlv_shape g;exact ⟨_,_,_,_,_,_,_,_,_,_,_,_,rfl,fun Z O=>⟨_,_,rfl,q.le O⟩⟩
 ·have P:l.1=0:=Int.sign_eq_zero_iff_zero.1 (by simpa using o);rintro r V7 Q rfl;have y:=k.trans (x.trans Q);refine ⟨_,rfl,fun j R S=>(rev R (y.trans S) (.inr ⟨P,Int.sign_neg_iff.1 (of_decide_eq_true j)⟩)).mono ?_,fun j T s=>⟨_,_,rfl,?_⟩⟩
  ·rintro r V9 l9 g;have q:=g;obtain ⟨_,_,_,_,_,_,_,_,_,_,_,_,rfl⟩:=rlv_shape g;exact ⟨_,_,_,_,_,_,_,_,_,_,_,_,rfl,fun U t=>⟨_,_,rfl,q.le t⟩⟩
  ·have j:=of_decide_eq_false j;unfold cV;rw [if_neg fun h=>j (Int.sign_neg_iff.2 (h.elim (fun h=>by omega) (·.2)))];exact m.le (y.trans s)
 ·have f:=of_decide_eq_false f;have d:¬l.1=0:=fun e=>by rw [e] at d;simp at d
  refine ⟨_,_,rfl,?_⟩;unfold cV;rw [if_neg fun h=>h.elim (fun h=>f (Int.sign_neg_iff.2 h)) (fun h=>d h.1)];exact m.le (k.trans p)
theorem AB {V:View}{vs:List Value}{ls:List L3}(h:Row 6 RLv V vs ls){i:Nat}(hi:i<ls.length):∃b1 p1 n1 c1 b2 p2 n2 c2 b3 p3 n3 c3,i*6+6<=vs.length/\(vs.drop (i*6)).take 6=[Value.bool b1,.slice p1 n1 c1,.bool b2,.slice p2 n2 c2,.bool b3,.slice p3 n3 c3] /\
  RLv V (.agg #[.bool b1,.slice p1 n1 c1,.bool b2,.slice p2 n2 c2,.bool b3,.slice p3 n3 c3]) ls[i]:=by
 obtain ⟨xs,f,b,c⟩:=h.at_ i hi;have g:=h.jn (by decide);have a:=b;obtain ⟨_,_,_,_,_,_,_,_,_,_,_,_,e⟩:=rlv_shape b;have e:=congrArg Array.toList (Value.agg.inj e);dsimp only at e;subst e;refine ⟨_,_,_,_,_,_,_,_,_,_,_,_,by omega,?_,a⟩;apply List.ext_getElem?;intro j;rw [List.getElem?_take];split
 ·rename_i d;rw [List.getElem?_drop];exact c j _ (List.getElem?_eq_getElem (by show j<6;omega))▸(List.getElem?_eq_getElem (by show j<6;omega)).symm
 ·rename_i d;rw [List.getElem?_eq_none (by show 6<=j;omega)]
set_option maxHeartbeats 1000000 in
theorem oC {V:View}{p:OA}{n c:Nat}{ls:List L3}(h:Lst 6 RLv V p n ls)(hn:ls.length<100000000)(hs:∀l∈ls,Bd l) :
  Acts prog 85 #[.slice p n c] V fun r V'=>∃q m e,r=.slice q m e/\Lst 6 RLv V' q m (dZ ls)/\m<=e:=by
 obtain rfl:=h.len
 refine pV p _ c V _ ⟨fun z V'=>∃i:Nat,z.2.2.2=(i:Int)/\i<=ls.length/\GR 6 RLv V' z.1 z.2.1 z.2.2.1 (dZ (ls.take i)),fun z=>ls.length-z.2.2.2.toNat,
  ⟨(0,0,[],0),by and_intros<;>rfl,0,rfl,Nat.zero_le _,GR.nil⟩,?_⟩
 rintro ⟨t,w2,us,z4⟩ V1 l1 ⟨i,e4,a5,u⟩;dsimp only at e4 u;subst e4;have H:=u.len;have v:=u.le;have fv:=u.cap;have A:=u.row;refine ⟨rfl,fun a=>?_,fun a a6 L bk hb=>?_⟩;rotate_left
 ·have a:¬(i:Int)<ls.length:=of_decide_eq_false a;obtain rfl:i=ls.length:=by omega
  rw [List.take_length] at H A;subst H;exact ⟨_,_,_,rfl,Lst.of_mrow hb (A.le fun _ _ g=>RLv.le g L) (by decide) v,v⟩
 have a:(i:Int)<ls.length:=of_decide_eq_true a;have B:i<ls.length:=by omega
 have w:i64.wrap ((i:Int)+1)=((i+1:Nat):Int):=by rw [i64w (by omega)];rfl
 dsimp only;rw [Int.toNat_natCast,w];obtain ⟨ad,ha,xs,-,hf,d⟩:=(h.le l1 fun _ _ g=>RLv.le g l1).at_ i B;have M:=hf;obtain ⟨_,_,_,_,_,_,_,_,_,_,_,_,ex⟩:=rlv_shape hf;have ex:=congrArg Array.toList (Value.agg.inj ex);dsimp only at ex;subst ex;have Wu:=D7 B;have C:Bd (cV ls[i]):=(hs _ (List.getElem_mem B)).can
 have a7:(dZ (ls.take i)).length<100000000:=by
  have:=yA (ls.take i);rw [List.length_take] at this;omega
 have Pl:∀q∈dZ (ls.take i),Bd q:=fun q I=>by
  obtain ⟨y,hy,rfl⟩:=List.mem_map.1 ((um _).2 q |>.1 I);exact (hs y (List.mem_of_mem_take hy)).can
 clear u;generalize dZ (ls.take i)=O at *;refine ⟨rJ ha,⟨by omega,by omega⟩,_,_,_,_,_,_,_,_,_,_,_,_,ad,ha,d 0 _ rfl,d 1 _ rfl,d 2 _ rfl,d 3 _ rfl,d 4 _ rfl,d 5 _ rfl,fun V2 l2=>(wN (M.le l2)).mono ?_⟩;generalize cV ls[i]=x at *;rintro r V3 l3 ⟨wv,bc,rfl,I⟩;have o:=I;obtain ⟨eb,ep,en,ec,fb,fp,fn,fe,gb,gp,gn,gc,rfl⟩:=rlv_shape I;refine ⟨_,_,_,_,_,_,_,_,_,_,_,_,_,rfl,fun z _=>∃j:Nat,z=(j:Int)/\j<=O.length/\∀(k:Nat)(h:k<O.length),k<j->kZ O[k] x<0,fun z=>O.length-z.toNat,⟨0,by and_intros<;>rfl,0,rfl,Nat.zero_le _,fun k _ h=>absurd h (Nat.not_lt_zero k)⟩,?_⟩;rintro z V4 K ⟨j,rfl,N,jl⟩;have wj:i64.wrap ((j:Int)+1)=((j+1:Nat):Int):=by rw [i64w (by omega)];rfl
 rw [Int.toNat_natCast,wj];have cO:=l2.trans (l3.trans K);refine ⟨rfl,fun z _=>z=true↔∃h:j<O.length,kZ O[j] x<0,⟨fun a=>?_,fun a=>⟨false,by and_intros<;>rfl,?_⟩⟩,?_⟩
 ·have a:(j:Int)<(t:Int):=of_decide_eq_true a;have f:j<O.length:=by omega
  obtain ⟨b1,P,Q,R,b2,S,T,U,b3,W,X,Y,Z,Ig,hr⟩:=AB A f;refine ⟨⟨by omega,by omega⟩,v,b1,P,Q,R,b2,S,T,U,b3,W,X,Y,⟨Z,Ig⟩,fun V5 l5=>(iT (hr.le (cO.trans l5)) (o.le (K.trans l5)) (Pl _ (List.getElem_mem f)).szl C.szl (by omega)).mono ?_⟩;rintro r V6 l6 rfl;exact ⟨_,rfl,_,by and_intros<;>rfl,by dsimp only;rw [decide_eq_true_eq];exact ⟨fun h=>⟨f,h⟩,fun ⟨_,h⟩=>h⟩⟩
 ·have a:¬(j:Int)<(t:Int):=of_decide_eq_false a;exact ⟨(fun h=>nomatch h),fun ⟨h,_⟩=>absurd h (by omega)⟩
 rintro z V7 l7 PM;refine ⟨rfl,fun s=>?_,fun s=>?_⟩
 ·obtain ⟨f,a0⟩:=PM.1 s;refine ⟨((j+1:Nat):Int),by dsimp only;omega,by and_intros<;>rfl,j+1,rfl,f,fun k h a8=>?_⟩;by_cases e:k=j
  ·subst e;exact a0
  ·exact jl k h (by omega)
 have a1:∀h:j<O.length,¬kZ O[j] x<0:=fun h D=>by
  have:=PM.2 ⟨h,D⟩;rw [s] at this;cases this
 have b:=KQ O j N jl a1;have ck:=cO.trans l7;refine ⟨fun z _=>z=true↔¬∃h:j<O.length,O[j]=x,⟨fun he=>⟨true,by and_intros<;>rfl,?_⟩,fun he=>?_⟩,?_⟩
 ·have he:(j:Int)=(t:Int):=by simpa using he
  exact ⟨fun _ ⟨h,_⟩=>absurd h (by omega),fun _=>rfl⟩
 ·have he:¬(j:Int)=(t:Int):=by simpa using he
  have f:j<O.length:=by omega
  obtain ⟨b1,P,Q,R,b2,S,T,U,b3,W,X,Y,Z,Ig,hr⟩:=AB A f;refine ⟨⟨by omega,by omega⟩,v,b1,P,Q,R,b2,S,T,U,b3,W,X,Y,⟨Z,Ig⟩,fun V8 l8=>(iT (hr.le (ck.trans l8)) (o.le (K.trans (l7.trans l8))) (Pl _ (List.getElem_mem f)).szl C.szl (by omega)).mono ?_⟩;rintro r V9 l9 rfl;exact ⟨_,rfl,_,by and_intros<;>rfl,by dsimp only;rw [bne_iff_ne,ne_eq,zR];exact ⟨fun h ⟨_,D⟩=>h D,fun h D=>h ⟨f,D⟩⟩⟩
 rintro z a9 E Ix;have GV:=ck.trans E;refine ⟨rfl,fun s a2 F bk hb J=>?_,fun s=>?_⟩
 ·have a3:=Ix.1 s;rw [if_neg a3] at b;obtain ⟨xs,ys,x1,x2,x3,y1,y2,y3,r1,r2,r3,r4,r5⟩:=FC (V:=a2) (GR.mono ⟨H,v,fv,A⟩ fun _ _ g=>RLv.le g (GV.trans F)) (by decide) (fun _ _=>pt) hb (es:=[_,_,_,_,_,_]) rfl (o.le (K.trans (l7.trans (E.trans F)))) (j:=j) (by omega);refine ⟨⟨by omega,by omega⟩,⟨by omega,by omega⟩,⟨by omega,by omega⟩,xs,x1,x2,by omega,Nat.le_refl _,Nat.le_refl 6,x2,x3,fun b0 J2 sp c' h1 h2=>?_⟩;rw [r1,r2];refine ⟨ys,y1,y2,Nat.le_refl _,y3,by omega,by omega,r3,r4,fun a4 G h3 h4=>⟨(j+(1+(t-j)),G,_,((i+1:Nat):Int)),by dsimp only;omega,by and_intros<;>first|rfl|omega,i+1,rfl,B,?_⟩⟩;show GR 6 RLv _ _ _ _ (dZ (ls.take (i+1)));rw [Wu,b];exact r5 a4 G h3 h4
 ·have hex:∃h:j<O.length,O[j]=x:=Classical.byContradiction fun h=>by have:=Ix.2 h;rw [s] at this;cases this
  rw [if_pos hex] at b;refine ⟨(t,w2,us,((i+1:Nat):Int)),by dsimp only;omega,by and_intros<;>rfl,i+1,rfl,B,?_⟩;show GR 6 RLv _ _ _ _ (dZ (ls.take (i+1)));rw [Wu,b];exact ⟨H,v,fv,A.le fun _ _ g=>RLv.le g GV⟩
theorem tX {V:View}{p:OA}{t:Tr}(h:RW V p t)(ha:t.All Okb)(hs:t.size<=1000000):Acts prog 34 #[.pointer p] V fun r V'=>∃q n c,r=.slice q n c/\Lst 6 RLv V' q n (dZ t.wZ)/\n<=c:=by
 refine wg p V _ fun k d=>(jm t (h.le d) hs).mono ?_;rintro r V2 o ⟨q,n,c,rfl,g⟩;refine ⟨_,_,_,rfl,fun s a=>(oC (g.le a fun _ _ g=>RLv.le g a) (by rw [mC];omega) fun l f=>(mB ha l f).2).mono ?_⟩;rintro r u v ⟨w,m,e,rfl,i,j⟩;exact ⟨_,_,_,rfl,fun x b=>⟨_,_,_,rfl,i.le b fun _ _ g=>RLv.le g b,j⟩⟩
theorem wT {V:View}{p:OA}{t:Tr}(h:RW V p t)(ha:t.All Okb)(hs:t.size<=1000000):Acts prog 34 #[.pointer p] V fun r V'=>∃q n c,r=.slice q n c/\Lst 6 RLv V' q n (dZ t.wZ):=
 (tX h ha hs).mono fun _ _ _ ⟨q,n,c,e,g,_⟩=>⟨q,n,c,e,g⟩
end Go.Proofs.Tryz
namespace Go.Proofs.Tryz
open Go.Eng
set_option maxRecDepth 100000
end Go.Proofs.Tryz
namespace Go.Proofs.Tryz
open Go.Eng Go.Big
def OG (V:View)(v:Value)(c:Rat×Rat):Prop:=RP V v c.1 c.2
theorem OG.le {V V':View}{v:Value}{c:Rat×Rat}(h:OG V v c)(l:V.Le V'):OG V' v c:=RP.le h l
theorem OG.shape {V:View}{v:Value}{c:Rat×Rat}(h:OG V v c):∃(b:Bool)(p:OA)(n c:Nat)(p':OA)(n' c':Nat)(d:Bool)(q:OA)(m e:Nat)(q':OA)(m' e':Nat),v=.agg #[.bool b,.slice p n c,.slice p' n' c',.bool d,.slice q m e,.slice q' m' e']:=by
 obtain ⟨p,n,c,p',n',c',q,m,e,q',m',e',h,-⟩:=h;exact ⟨_,p,n,c,p',n',c',_,q,m,e,q',m',e',h⟩
theorem HA.shape {V:View}{v:Value}{c:Rat×Rat}(h:HA V v c):∃(b:Bool)(p:OA)(n c:Nat)(p':OA)(n' c':Nat)(d:Bool)(q:OA)(m e:Nat)(q':OA)(m' e':Nat),v=.agg #[.bool b,.slice p n c,.slice p' n' c',.bool d,.slice q m e,.slice q' m' e']:=by
 obtain ⟨_,_,_,_,_,_,_,_,_,_,_,_,_,_,h,-⟩:=h;exact ⟨_,_,_,_,_,_,_,_,_,_,_,_,_,_,h⟩
theorem Lst.q {V:View}{p:OA}{n:Nat}{ls:List L3}(h:Lst 6 RLv V p n ls):Lst 6 J8 V p n ls:=⟨h.len,fun i a=>by
 obtain ⟨b,c,xs,d,e,f⟩:=h.at_ i a;exact ⟨b,c,xs,d,.inl e,f⟩⟩
theorem jH {V:View}{v:Value}{q:Rat}(h:RQ V v q):Acts prog 103 #[v] V fun r V'=>r=.int .i64 q.num.sign:=by
 obtain ⟨_,_,_,_,_,_,rfl,a,-⟩:=h;exact te q a
theorem oD {V:View}{v:Value}{p:Rat×Rat}(h:RP V v p.1 p.2):Acts prog 142 #[v] V fun r V'=>r=.int .i64 (Sec.half p):=by
 obtain ⟨_,_,_,_,_,_,_,_,_,_,_,_,rfl,g,i⟩:=h;refine xM _ _ _ _ _ _ _ _ _ _ _ _ _ _ V _ fun w f=>(jH (g.le f)).mono ?_;rintro r V2 j rfl;refine ⟨_,rfl,fun x k=>(jH (i.le (f.trans (j.trans k)))).mono ?_⟩;rintro r y A rfl;have key:∀z:Int,(z=if p.2.num.sign>0\/p.2.num.sign=0/\p.1.num.sign>0 then 1 else if p.2.num.sign<0\/p.1.num.sign<0 then 2 else 0)->Value.int .i64 z=.int .i64 (Sec.half p):=fun z e=>by rw [e];rfl
 refine ⟨_,rfl,fun a=>?_,fun a=>?_⟩
 ·have a:p.1.num.sign=0:=by simpa using a
  refine ⟨fun b B C=>key _ ?_,fun b=>⟨fun c l m=>key _ ?_,fun c=>⟨fun d=>⟨fun e n o=>key _ ?_,fun e q s=>key _ ?_⟩,fun d t u=>key _ ?_⟩⟩⟩
  ·have b:p.2.num.sign=0:=by simpa using b
   rw [if_neg (by omega),if_neg (by omega)]
  ·have c:p.2.num.sign>0:=of_decide_eq_true c;rw [if_pos (.inl c)]
  ·have b:¬p.2.num.sign=0:=by simpa using b
   have d:p.2.num.sign=0:=by simpa using d
   exact absurd d b
  ·have b:¬p.2.num.sign=0:=by simpa using b
   have d:p.2.num.sign=0:=by simpa using d
   exact absurd d b
  ·have b:¬p.2.num.sign=0:=by simpa using b
   have c:¬p.2.num.sign>0:=of_decide_eq_false c;rw [if_neg (by omega),if_pos (by omega)]
 ·have a:¬p.1.num.sign=0:=by simpa using a
  refine ⟨fun c l m=>key _ ?_,fun c=>⟨fun d=>⟨fun e n o=>key _ ?_,fun e q s=>key _ ?_⟩,fun d t u=>key _ ?_⟩⟩
  ·have c:p.2.num.sign>0:=of_decide_eq_true c;rw [if_pos (.inl c)]
  ·have d:p.2.num.sign=0:=by simpa using d
   have e:p.1.num.sign>0:=of_decide_eq_true e;rw [if_pos (.inr ⟨d,e⟩)]
  ·have d:p.2.num.sign=0:=by simpa using d
   have e:¬p.1.num.sign>0:=of_decide_eq_false e;rw [if_neg (by omega),if_pos (by omega)]
  ·have d:¬p.2.num.sign=0:=by simpa using d
   have c:¬p.2.num.sign>0:=of_decide_eq_false c;rw [if_neg (by omega),if_pos (by omega)]
theorem N5 (q:Rat):-1<=q.num.sign/\q.num.sign<=1:=by
 rcases Int.lt_trichotomy q.num 0 with h|h|h
 ·rw [Int.sign_eq_neg_one_of_neg h];omega
 ·rw [h];decide
 ·rw [Int.sign_eq_one_of_pos h];omega
theorem wM {V:View}{v w:Value}{a b:Rat×Rat}(h:RP V v a.1 a.2)(h':RP V w b.1 b.2){k:Nat}(s1:Sz k a.1)(s2:Sz k a.2)(s3:Sz k b.1)(s4:Sz k b.2)(hk:4*k+4<274877906944) :
  Acts prog 98 #[v,w] V fun r V'=>r=.int .i64 (Sec.ang a b):=by
 have f:=h;have c:=h';obtain ⟨_,_,_,_,_,_,_,_,_,_,_,_,rfl,-⟩:=h;obtain ⟨_,_,_,_,_,_,_,_,_,_,_,_,rfl,-⟩:=h';refine vV _ _ _ _ _ _ _ _ _ _ _ _ _ _ _ _ _ _ _ _ _ _ _ _ _ _ _ _ V _ fun x e=>(oD (f.le e)).mono ?_;rintro r V2 i rfl;refine ⟨_,rfl,fun y j=>(oD (c.le (e.trans (i.trans j)))).mono ?_⟩;rintro r z n rfl;have l:=e.trans (i.trans (j.trans n));refine ⟨_,rfl,fun g=>⟨fun d A B=>?_,fun d C D=>?_⟩,fun g E m=>(mS (f.le (l.trans m)) (c.le (l.trans m)) s1 s2 s3 s4 hk).mono ?_⟩
 ·unfold Sec.ang;rw [if_pos (of_decide_eq_true d)]
 ·have g:Sec.half a≠Sec.half b:=by simpa using g
  have d:¬Sec.half a<Sec.half b:=of_decide_eq_false d;unfold Sec.ang;rw [if_neg d,if_pos (by omega)]
 ·have g:Sec.half a=Sec.half b:=by simpa using g
  rintro r F G gc;have o:=gc;obtain ⟨_,_,_,_,_,_,rfl⟩:=gc.shape;refine ⟨_,_,_,_,_,_,_,rfl,fun H p=>(jH (o.le p)).mono ?_⟩;rintro r q s rfl;refine ⟨_,rfl,fun t u=>?_⟩;have I:=N5 (a.1*b.2-a.2*b.1);rw [i64w (by omega)];unfold Sec.ang;rw [if_neg (by omega),if_neg (by omega)];show _=Value.int .i64 (-(a.1*b.2-a.2*b.1).num.sign);congr 1;omega
end Go.Proofs.Tryz
