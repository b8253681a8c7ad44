import Derived.Test.YtnnbfoejafcdlaaGreatDoorE15
import Derived.Test.YtnnbfoejafcdlaaGreatDoorE14
import Derived.Test.YtnnbfoejafcdlaaGreatDoorE7
import Derived.Test.YtnnbfoejafcdlaaGreatDoorE9
import Derived.Laws.IdiomCopy
import Derived.Lib.Overlaps
import Derived.Lib.JoinLaws
import Derived.Lib.AppendZerosOnto
import Derived.Test.YtnnbfoejafcdlaaGreatDoorE5
import Derived.Shelf.RegionOpenPlain
import Derived.Lib.Walk
import Derived.Lib.SliceRun
import Derived.Laws.NewBlocks
import Derived.Test.YtnnbfoejafcdlaaGreatDoorE13
import Derived.Test.YtnnbfoejafcdlaaGreatDoorE8
import Derived.Test.YtnnbfoejafcdlaaGreatDoorE12
set_option linter.unusedVariables false
open Go.IntKind (i64 u64 u32)
namespace Go.Proofs.Tryz
open Go.bM Go.fB
def fE (V:View)(v:Value)(s:Sd):Prop:=N9 V v s.1 s.2/\Tv s
theorem fE.le {V V':View}{v:Value}{s:Sd}(h:fE V v s)(l:V.Le V'):fE V' v s:=⟨h.1.le l,h.2⟩
theorem fE.shape {V:View}{v:Value}{s:Sd}(h:fE V v s):∃(x1:Int)(x2:Int)(p:OA)(y1:Int)(y2:Int)(q:OA)(z1:Int)(z2:Int)(r:OA)(u1:Int)(u2:Int)(t:OA)(w1:Int)(w2:Int)(o:OA),v=.agg #[.int .i64 x1,.int .i64 x2,.pointer p,.int .i64 y1,.int .i64 y2,.pointer q,.int .i64 z1,.int .i64 z2,.pointer r,.int .i64 u1,.int .i64 u2,.pointer t,.int .i64 w1,.int .i64 w2,.pointer o,.bool s.2.a,.bool s.2.b]:=by
 obtain ⟨x1,x2,p,y1,y2,q,z1,z2,r,u1,u2,t,w1,w2,o,e,-⟩:=h.1
 exact ⟨x1,x2,p,y1,y2,q,z1,z2,r,u1,u2,t,w1,w2,o,e⟩
theorem Kj {x1:Int}{x2:Int}{p:OA}{y1:Int}{y2:Int}{q:OA}{z1:Int}{z2:Int}{r:OA}{u1:Int}{u2:Int}{t:OA}{w1:Int}{w2:Int}{o:OA}{c d:Bool}:∀v∈([.int .i64 x1,.int .i64 x2,.pointer p,.int .i64 y1,.int .i64 y2,.pointer q,.int .i64 z1,.int .i64 z2,.pointer r,.int .i64 u1,.int .i64 u2,.pointer t,.int .i64 w1,.int .i64 w2,.pointer o,.bool c,.bool d]:List Value),v.oneCell'=true:=by
 intro v hm
 simp only [List.mem_cons,List.not_mem_nil,or_false] at hm
 rcases hm with rfl|rfl|rfl|rfl|rfl|rfl|rfl|rfl|rfl|rfl|rfl|rfl|rfl|rfl|rfl|rfl|rfl<;>rfl
theorem ML {V:View}{s:Sd}:∀xs,fE V (.agg (List.toArray xs)) s->∀v∈xs,v.oneCell'=true:=by
 intro xs h
 obtain ⟨x1,x2,p,y1,y2,q,z1,z2,r,u1,u2,t,w1,w2,o,e⟩:=h.shape
 have e:=congrArg Array.toList (Value.agg.inj e)
 dsimp only at e
 subst e
 exact Kj
theorem im {V:View}{c:OA}{n:Nat}{al:List Sd}(h:cI 17 fE V c n al){i:Nat}(hi:i<al.length) :
  c.isSome=true/\∃(x1:Int)(x2:Int)(p:OA)(y1:Int)(y2:Int)(q:OA)(z1:Int)(z2:Int)(r:OA)(u1:Int)(u2:Int)(t:OA)(w1:Int)(w2:Int)(o:OA)(a:Addr),ah c (i*17)=some a/\V.at (a.add 0) (.int .i64 x1)/\V.at (a.add 1) (.int .i64 x2)/\V.at (a.add 2) (.pointer p)/\V.at (a.add 3) (.int .i64 y1)/\V.at (a.add 4) (.int .i64 y2)/\V.at (a.add 5) (.pointer q)/\V.at (a.add 6) (.int .i64 z1)/\V.at (a.add 7) (.int .i64 z2)/\V.at (a.add 8) (.pointer r)/\V.at (a.add 9) (.int .i64 u1)/\V.at (a.add 10) (.int .i64 u2)/\V.at (a.add 11) (.pointer t)/\V.at (a.add 12) (.int .i64 w1)/\V.at (a.add 13) (.int .i64 w2)/\V.at (a.add 14) (.pointer o)/\V.at (a.add 15) (.bool al[i].2.a)/\V.at (a.add 16) (.bool al[i].2.b) /\
   fE V (.agg #[.int .i64 x1,.int .i64 x2,.pointer p,.int .i64 y1,.int .i64 y2,.pointer q,.int .i64 z1,.int .i64 z2,.pointer r,.int .i64 u1,.int .i64 u2,.pointer t,.int .i64 w1,.int .i64 w2,.pointer o,.bool al[i].2.a,.bool al[i].2.b]) al[i]:=by
 obtain ⟨ad,h0,xs,h1,h2,h3⟩:=h.at_ i hi
 have h20:=h2
 obtain ⟨x1,x2,p,y1,y2,q,z1,z2,r,u1,u2,t,w1,w2,o,e⟩:=h2.shape
 have e:=congrArg Array.toList (Value.agg.inj e)
 dsimp only at e
 subst e
 refine ⟨?_,x1,x2,p,y1,y2,q,z1,z2,r,u1,u2,t,w1,w2,o,ad,h0,h3 0 _ rfl,h3 1 _ rfl,h3 2 _ rfl,h3 3 _ rfl,h3 4 _ rfl,h3 5 _ rfl,h3 6 _ rfl,h3 7 _ rfl,h3 8 _ rfl,h3 9 _ rfl,h3 10 _ rfl,h3 11 _ rfl,h3 12 _ rfl,h3 13 _ rfl,h3 14 _ rfl,h3 15 _ rfl,h3 16 _ rfl,h20⟩
 cases c with
 | none=>cases h0
 | some a=>rfl
theorem G9 {V:View}{vs:List Value}{al:List Sd}(h:Row 17 fE V vs al){i:Nat}(hi:i<al.length):∃(x1:Int)(x2:Int)(p:OA)(y1:Int)(y2:Int)(q:OA)(z1:Int)(z2:Int)(r:OA)(u1:Int)(u2:Int)(t:OA)(w1:Int)(w2:Int)(o:OA),i*17+17<=vs.length/\(vs.drop (i*17)).take 17=[.int .i64 x1,.int .i64 x2,.pointer p,.int .i64 y1,.int .i64 y2,.pointer q,.int .i64 z1,.int .i64 z2,.pointer r,.int .i64 u1,.int .i64 u2,.pointer t,.int .i64 w1,.int .i64 w2,.pointer o,.bool al[i].2.a,.bool al[i].2.b] /\
  fE V (.agg #[.int .i64 x1,.int .i64 x2,.pointer p,.int .i64 y1,.int .i64 y2,.pointer q,.int .i64 z1,.int .i64 z2,.pointer r,.int .i64 u1,.int .i64 u2,.pointer t,.int .i64 w1,.int .i64 w2,.pointer o,.bool al[i].2.a,.bool al[i].2.b]) al[i]:=by
 obtain ⟨xs,h1,h2,h3⟩:=h.at_ i hi
 have hl:=h.jI (by decide)
 have h20:=h2
 obtain ⟨x1,x2,p,y1,y2,q,z1,z2,r,u1,u2,t,w1,w2,o,e⟩:=h2.shape
 have e:=congrArg Array.toList (Value.agg.inj e)
 dsimp only at e
 subst e
 refine ⟨x1,x2,p,y1,y2,q,z1,z2,r,u1,u2,t,w1,w2,o,by omega,?_,h20⟩
 apply List.ext_getElem?
 intro j
 rw [List.getElem?_take]
 split
 ·rename_i hj
  rw [List.getElem?_drop]
  exact h3 j _ (List.getElem?_eq_getElem (by show j<17;omega))▸(List.getElem?_eq_getElem (by show j<17;omega)).symm
 ·rename_i hj
  rw [List.getElem?_eq_none (by show 17<=j;omega)]
theorem fE.both {V:View}{s:Sd}{x1:Int}{x2:Int}{p:OA}{y1:Int}{y2:Int}{q:OA}{z1:Int}{z2:Int}{r:OA}{u1:Int}{u2:Int}{t:OA}{w1:Int}{w2:Int}{o:OA}{c d:Bool}(h:fE V (.agg #[.int .i64 x1,.int .i64 x2,.pointer p,.int .i64 y1,.int .i64 y2,.pointer q,.int .i64 z1,.int .i64 z2,.pointer r,.int .i64 u1,.int .i64 u2,.pointer t,.int .i64 w1,.int .i64 w2,.pointer o,.bool c,.bool d]) s) :
  ue V (.agg #[.int .i64 x1,.int .i64 x2,.pointer p,.int .i64 y1,.int .i64 y2,.pointer q,.int .i64 z1,.int .i64 z2,.pointer r]) s.1/\Gq V (.agg #[.int .i64 u1,.int .i64 u2,.pointer t,.int .i64 w1,.int .i64 w2,.pointer o,.bool s.2.a,.bool s.2.b]) s.2/\c=s.2.a/\d=s.2.b:=by
 obtain ⟨x1',x2',p',y1',y2',q',z1',z2',r',u1',u2',t',w1',w2',o',e,h1,h2⟩:=h.1
 have e:=congrArg Array.toList (Value.agg.inj e)
 simp only [List.cons.injEq,Value.bool.injEq,Value.int.injEq,Value.pointer.injEq,true_and,and_true] at e
 obtain ⟨rfl,rfl,rfl,rfl,rfl,rfl,rfl,rfl,rfl,rfl,rfl,rfl,rfl,rfl,rfl,rfl,rfl⟩:=e
 exact ⟨h1,h2,rfl,rfl⟩
theorem ll:∀{c d:List Sd} {l:L3} {v:Sp},cw (c++d) l v=(cw c l v).bind (cw d l)
 | [],_,_,_=>rfl
 | s::c,d,l,v=>by
  rw [List.cons_append]
  unfold cw
  split
  ·exact ll
  ·rfl
theorem rK {V:View}{cp:OA}{cn cc:Nat}{c:List Sd}{lv:Value}{l:L3}(h:cI 17 fE V cp cn c)(hl:ue V lv l)(hb:Bd l)(hn:c.length<=1000000) :
  ab prog 130 #[.slice cp cn cc,lv] V fun r V'=>∃w,r=.tuple #[w,.bool (cw c l bj).isSome]/\Gq V' w ((cw c l bj).getD Sp.zero)/\((cw c l bj).getD Sp.zero).sz 100000:=by
 have hl0:=hl
 obtain rfl:=h.len
 obtain ⟨_,_,_,_,_,_,_,_,_,rfl,-,-,-⟩:=hl
 have Mw:∀{i:Nat} (hi:i<c.length) {s:Sp},cw (c.take i) l bj=some s->cw (c.take (i+1)) l bj=if dU l s c[i].1=true then some (dv l s c[i].1) else none:=fun {i} hi {s} e=>by
  rw [List.take_add_one,List.getElem?_eq_getElem hi,ll,e]
  show cw [c[i]] l s=_
  unfold cw
  rfl
 refine rA cp _ cc _ _ _ _ _ _ _ _ _ V _ fun V1 l1=>Qp.mono ?_
 rintro r V2 l2 rfl
 have L2:=l1.trans l2
 refine ⟨_,_,_,_,_,_,_,_,rfl,fun z V'=>∃(i:Nat)(s:Sp),z.1=(i:Int)/\i<=c.length/\cw (c.take i) l bj=some s/\s.sz 100000/\z.2.2.2.2.2.2.2.1=s.a/\z.2.2.2.2.2.2.2.2=s.b/\Gq V' (.agg #[.int .i64 z.2.1,.int .i64 z.2.2.1,.pointer z.2.2.2.1,.int .i64 z.2.2.2.2.1,.int .i64 z.2.2.2.2.2.1,.pointer z.2.2.2.2.2.2.1,.bool s.a,.bool s.b]) s,
  fun z=>c.length-z.1.toNat,⟨(0,0,0,none,0,0,none,true,true),by and_intros<;>rfl,0,bj,rfl,Nat.zero_le _,rfl,GL (by omega),rfl,rfl,⟨_,_,_,_,_,_,rfl,RR.zero _,RR.zero _⟩⟩,?_⟩
 rintro ⟨z1,x1,x2,p,y1,y2,q,ba,bb⟩ V3 l3 ⟨i,s,e1,hi,hp,hs,ea,eb,hv⟩
 dsimp only at e1 ea eb hv ⊢
 subst e1 ea eb
 have L3:=L2.trans l3
 refine ⟨rfl,fun hlt=>?_,fun hlt V7 l7=>?_⟩
 ·have hlt:(i:Int)<c.length:=of_decide_eq_true hlt
  have hi':i<c.length:=by omega
  have w:i64.wrap ((i:Int)+1)=((i+1:Nat):Int):=by rw [ay (by omega)];rfl
  rw [Int.toNat_natCast,w]
  obtain ⟨ps,a1,a2,a3,a4,a5,a6,a7,a8,a9,b1,b2,b3,b4,b5,b6,a,ha,h0,h1,h2,h3,h4,h5,h6,h7,h8,h9,h10,h11,h12,PN,II,PO,h16,hr⟩:=im (h.le L3 fun _ _ g=>fE.le g L3) hi'
  obtain ⟨rl,ri,-,-⟩:=hr.both
  have pa:=Mw hi' hp
  have sd:=hr.2
  refine ⟨ps,⟨by omega,by omega⟩,_,_,_,_,_,_,_,_,_,_,_,_,_,_,_,_,_,a,ha,h0,h1,h2,h3,h4,h5,h6,h7,h8,h9,h10,h11,h12,PN,II,PO,h16,fun V4 l4=>(Cu (hl0.le (L3.trans l4)) (hv.le l4) (rl.le l4) (k:=100000) (hb.kF.up (by omega)) hs (sd.1.kF.up (by omega)) (by omega)).mono ?_⟩
  rintro r V5 l5 ⟨w5,rfl,g⟩
  have g0:=g
  obtain ⟨_,_,_,_,_,_,rfl,-,-⟩:=g
  refine ⟨_,_,_,_,_,_,_,_,_,rfl,fun hf V6 l6=>?_,fun hf=>⟨(((i+1:Nat):Int),_,_,_,_,_,_,_,_),by dsimp only;omega,by and_intros<;>rfl,i+1,dv l s c[i].1,rfl,hi',?_,BG hb.kF sd.1.kF hs (by omega),rfl,rfl,g0⟩⟩
  ·have hf:dU l s c[i].1=false:=by simpa using hf
   have e:cw c l bj=none:=by
    have:=ll (c:=c.take (i+1)) (d:=c.drop (i+1)) (l:=l) (v:=bj)
    rw [List.take_append_drop,pa,hf] at this
    exact this
   rw [e]
   exact ⟨_,rfl,⟨_,_,_,_,_,_,rfl,RR.zero _,RR.zero _⟩,MV _ (by omega),MV _ (by omega)⟩
  ·have hf:dU l s c[i].1=true:=by simpa using hf
   rw [pa,if_pos hf]
 ·have hlt:¬(i:Int)<c.length:=of_decide_eq_false hlt
  obtain rfl:i=c.length:=by omega
  rw [List.take_length] at hp
  rw [hp]
  exact ⟨_,rfl,hv.le l7,hs⟩
def Lm (c:List Sd)(l:L3):Int:=if (cw c l bj).isSome=true then 0 else dP c l
theorem oU {V:View}{cp:OA}{cn cc:Nat}{c:List Sd}{lv:Value}{l:L3}(h:cI 17 fE V cp cn c)(hl:ue V lv l)(hb:Bd l)(hn:c.length<=1000000) :
  ab prog 78 #[.slice cp cn cc,lv] V fun r V'=>r=.int .i64 (Lm c l):=by
 have hl0:=hl
 obtain rfl:=h.len
 obtain ⟨_,_,_,_,_,_,_,_,_,rfl,-,-,-⟩:=hl
 refine qh cp _ cc _ _ _ _ _ _ _ _ _ V _ fun V1 l1=>(rK (h.le l1 fun _ _ g=>fE.le g l1) (hl0.le l1) hb hn).mono ?_
 rintro r V2 l2 ⟨w,rfl,g,-⟩
 obtain ⟨_,_,_,_,_,_,rfl,-,-⟩:=g
 have L2:=l1.trans l2
 refine ⟨_,_,_,_,_,_,_,_,_,rfl,fun hp V3 l3=>by unfold Lm;rw [if_pos hp],fun hp=>?_⟩
 have hp:(cw c l bj).isSome=false:=hp
 have e0:Lm c l=dP c l:=by unfold Lm;rw [if_neg (by rw [hp];exact Bool.false_ne_true)]
 rw [e0]
 refine ⟨fun z V'=>∃i:Nat,z=(i:Int)/\i<=c.length/\dP c l=dP (c.drop i) l,fun z=>c.length-z.toNat,⟨0,by and_intros<;>rfl,0,rfl,Nat.zero_le _,rfl⟩,?_⟩
 rintro z V4 l4 ⟨i,rfl,hi,hpl⟩
 have L4:=L2.trans l4
 refine ⟨rfl,fun hlt=>?_,fun hlt lE dF=>?_⟩
 ·have hlt:(i:Int)<c.length:=of_decide_eq_true hlt
  have hi':i<c.length:=by omega
  have w:i64.wrap ((i:Int)+1)=((i+1:Nat):Int):=by rw [ay (by omega)];rfl
  rw [Int.toNat_natCast,w]
  obtain ⟨ps,a1,a2,a3,a4,a5,a6,a7,a8,a9,b1,b2,b3,b4,b5,b6,a,ha,h0,h1,h2,h3,h4,h5,h6,h7,h8,h9,h10,h11,h12,PN,II,PO,h16,hr⟩:=im (h.le L4 fun _ _ g=>fE.le g L4) hi'
  obtain ⟨rl,ri,-,-⟩:=hr.both
  have sd:=hr.2
  have ed:c.drop i=c[i]::c.drop (i+1):=List.drop_eq_getElem_cons hi'
  rw [ed] at hpl
  have hpl:dP c l=if (ar l (gX c[i].1 c[i].2.cL) (h_ c[i].1 c[i].2.cL)).num.sign≠0 then (ar l (gX c[i].1 c[i].2.cL) (h_ c[i].1 c[i].2.cL)).num.sign else if c[i].1=l then 1 else dP (c.drop (i+1)) l:=hpl.trans (by rfl)
  generalize c[i]=S at *
  have Wg:=Hh sd.2
  refine ⟨ps,⟨by omega,by omega⟩,_,_,_,_,_,_,_,_,_,_,_,_,_,_,_,_,_,a,ha,h0,h1,h2,h3,h4,h5,h6,h7,h8,h9,h10,h11,h12,PN,II,PO,h16,fun V5 l5=>(Ct (ri.le l5) sd.2 (by omega)).mono ?_⟩
  rintro r V6 l6 g
  have g0:=g
  obtain ⟨_,_,_,rfl⟩:=g.shape
  refine ⟨_,_,_,rfl,fun V7 l7=>(U5 (rl.le (l5.trans (l6.trans l7))) (g0.le l7) (k:=300000) (sd.1.kF.up (by omega)) (Wg.mono (by omega)) (by omega)).mono ?_⟩
  rintro r V8 l8 gp
  have PM:=gp
  obtain ⟨_,_,_,_,_,_,rfl,-,-⟩:=gp
  have sx:=FT (sd.1.kF.up (show 1000<=300000 by omega)) (Wg.mono (show 2*100000+10<=300000 by omega))
  have sy:=FU (sd.1.kF.up (show 1000<=300000 by omega)) (Wg.mono (show 2*100000+10<=300000 by omega))
  refine ⟨_,_,_,_,_,_,rfl,fun V9 l9=>(Fl (hl0.le (L4.trans (l5.trans (l6.trans (l7.trans (l8.trans l9)))))) (PM.le l9) (hb.kF.up (by omega)) sx sy (by omega)).mono ?_⟩
  rintro r jk l10 rfl
  refine ⟨_,rfl,fun hs jh bK=>?_,fun hs lS cg=>(Md (rl.le (l5.trans (l6.trans (l7.trans (l8.trans (l9.trans (l10.trans cg))))))) (hl0.le (L4.trans (l5.trans (l6.trans (l7.trans (l8.trans (l9.trans (l10.trans cg)))))))) (k:=1000) sd.1.kF hb.kF (by omega)).mono ?_⟩
  ·rw [hpl,if_pos (by simpa using hs)]
  ·rintro r oR cK rfl
   rw [if_neg (by simpa using hs)] at hpl
   refine ⟨_,rfl,fun he mP dN=>?_,fun he=>⟨((i+1:Nat):Int),by dsimp only;omega,by and_intros<;>rfl,i+1,rfl,hi',?_⟩⟩
   ·rw [hpl,if_pos (of_decide_eq_true he)]
   ·rw [hpl,if_neg (of_decide_eq_false he)]
 ·have hlt:¬(i:Int)<c.length:=of_decide_eq_false hlt
  obtain rfl:i=c.length:=by omega
  rw [hpl,List.drop_length]
  rfl
end Go.Proofs.Tryz
namespace Go.bM
open Go.Lib
variable {P:Program}
theorem jC (w:World)(dT sT ty elem:TypeId)(sz b o dLen dCap:Nat)(a:Addr)(sLen sCap:Nat)(cs:List Value)
  (hu:P.underlying dT=some (.slice elem))(hs:(P.info? elem).map (·.size)=some sz)(hn:cs.length=Nat.min sLen dLen*sz)
  (hsrc:∀j v,cs[j]?=some v->w.cell? (a.add j)=some v)(hc:∀j,j<cs.length->(w.cell? ⟨b,o+j,none⟩).isSome=true)(hf:∀j,j<cs.length->w.frozen? ⟨b,o+j,none⟩=false)(h1:∀v∈cs,v.oneCell'=true) :
  (Builtin.copy_ #[dT,sT] ty #[.slice (some ⟨b,o,none⟩) dLen dCap,.slice (some a) sLen sCap]).run P w=.ok (goInt (Nat.min sLen dLen)) (w.setCells b o cs):=by
 have hl:=run_loadCells_list (P:=P) w a cs hsrc
 have hst:=run_storeCells_cells (P:=P) b o cs 0 w (by simpa using hc) (by simpa using hf) h1
 cases hq:P.info? elem with
 | none=>simp [hq] at hs
 | some i=>
  have hi:i.size=sz:=by simpa [hq] using hs
  simp [Builtin.copy_,run_underlying hu,Builtin.lenOf,Builtin.firstCells,sizeOf,typeInfo,hq,hi,←hn,hl,hst]
theorem B8 (w:World){o:Oper}{a:Act}{K:Act->World->Prop}{Q:Exit->Act->World->Prop}(d s:Operand)(t t':TypeId)
  (ho:o.op=.call { callee:=.builtin .copy,args:=#[d,s],argTypes:=#[t,t'] })(v u:Value)(hd:a.eval d=v)(hs:a.eval s=u){v':Value}{w':World}
  (hr:(Builtin.copy_ #[t,t'] o.type #[v,u]).run P w=.ok v' w')(h:K (a.put o.dst v') w'):o.wp P a w K Q:=by
 unfold Oper.wp execOp
 simp only [ho,resolve,invoke,builtin,Sem.run_bind,Sem.run_pure,Result.andThen_ok,List.map_toArray,List.map_cons,List.map_nil,hd,hs,hr]
 exact h
theorem kz (w:World){ops:Array Oper}{rest:List Oper}{o:Oper}{a:Act}{Q:Exit->Act->World->Prop}(hgd:o.guard=none)(d s:Operand)(t t':TypeId)
  (ho:o.op=.call { callee:=.builtin .copy,args:=#[d,s],argTypes:=#[t,t'] })(v u:Value)(hd:a.eval d=v)(hs:a.eval s=u){v':Value}{w':World}
  (hr:(Builtin.copy_ #[t,t'] o.type #[v,u]).run P w=.ok v' w')(h:wpList P ops Q rest (a.put o.dst v') w'):wpList P ops Q (o::rest) a w:=
 wpList_plain hgd fun _ hK=>B8 w d s t t' ho v u hd hs hr (hK _ _ h)
theorem mB {ops:Array Oper}{o:Oper}{a:Act}{w:World}{K:Act->World->Prop}{Q:Exit->Act->World->Prop}{E:Prop}
  (hg:o.guard=none)(d x:Operand)(dT sT:TypeId)(hop:o.op=Op.call { callee:=Callee.builtin Builtin.copy,args:=#[d,x],argTypes:=#[dT,sT] })
  (v u:Value)(hd:a.eval d=v)(hx:a.eval x=u){v':Value}{w':World}(hr:(Builtin.copy_ #[dT,sT] o.type #[v,u]).run P w=.ok v' w')(hK:K (a.put o.dst v') w') :
  if Region.wanted o (yielded ops a.tmps)=true then Oper.wp P o a w K Q else E:=by
 have hw:Region.wanted o (yielded ops a.tmps)=true:=by simp [Region.wanted,hg]
 rw [if_pos hw]
 unfold Oper.wp
 simp [execOp,hop,resolve,invoke,builtin,hd,hx,hr,Result.andThen]
 exact hK
theorem fl {w:World}{b o:Nat}{vs:List Value}{ty:TypeId}(h:w.heap[b]?=some (.cells vs.toArray ty (0,0))):w.frozen? ⟨b,o,none⟩=false:=by simp [World.frozen?,h]
theorem An {w:World}{b:Nat}{vs:List Value}{ty:TypeId}(h:w.heap[b]?=some (.cells vs.toArray ty (0,0))):w.shape? b=some (ty,vs.length):=by simp [World.shape?,h]
theorem bU {w:World}{b o:Nat}{vs:List Value}{ty:TypeId}(h:w.heap[b]?=some (.cells vs.toArray ty (0,0))):w.cell? ⟨b,o,none⟩=vs[o]?:=cell_of_row h
theorem vd (X:Nat->Prop)(w:World):eN X w w.drew:=⟨Nat.le_refl _,fun _ _ _=>rfl,rfl,rfl,rfl⟩
theorem qN (X:Nat->Prop)(w:World)(o:Obj):eN X w (w.alloc o):=⟨by rw [show (w.alloc o).heap.size=w.heap.size+1 from Array.size_push ..];omega,fun b hb _=>bX w o hb,rfl,rfl,rfl⟩
theorem E5 {w:World}{g:Nat}{old cs:Array Value}{ty:TypeId}(h:w.heap[g]?=some (.cells old ty (0,0))):eN (·=g) w (w.setRow g cs):=by
 refine ⟨?_,fun b hb hn=>?_,?_,?_,?_⟩
 ·rw [ew h,Array.size_setIfInBounds];exact Nat.le_refl _
 ·rw [ew h,Array.getElem?_setIfInBounds_ne (fun e=>hn e.symm)]
 all_goals simp [World.setRow,h]
theorem cU {b:Nat}{ty:TypeId}:∀(xs:List Value)(o:Nat)(vs:List Value)(w:World),w.heap[b]?=some (.cells vs.toArray ty (0,0))->o+xs.length<=vs.length ->
  (w.setCells b o xs).heap[b]?=some (.cells (vs.take o++xs++vs.drop (o+xs.length)).toArray ty (0,0))/\eN (·=b) w (w.setCells b o xs)
 | [],o,vs,w,h,hl=>⟨by rw [World.setCells,List.append_nil,List.length_nil,Nat.add_zero,List.take_append_drop];exact h,eN.refl _ _⟩
 | x::xs,o,vs,w,h,hl=>by
  rw [List.length_cons] at hl
  have e1:w.setCell ⟨b,o,none⟩ x=w.setRow b (vs.toArray.setIfInBounds o x):=setCell_eq_setRow w b o vs.toArray ty (0,0) x h
  have e2:vs.toArray.setIfInBounds o x=(vs.set o x).toArray:=by simp
  rw [World.setCells,e1,e2]
  have h2:(w.setRow b (vs.set o x).toArray).heap[b]?=some (.cells (vs.set o x).toArray ty (0,0)):=setRow_heap w b vs.toArray _ ty (0,0) h
  obtain ⟨g1,g2⟩:=cU xs (o+1) (vs.set o x) _ h2 (by rw [List.length_set];omega)
  refine ⟨?_,(E5 h).trans g2⟩
  rw [g1]
  congr 3
  rw [List.take_set,List.take_add_one,List.getElem?_eq_getElem (by omega),List.drop_set_of_lt (by omega),List.length_cons,show o+1+xs.length=o+(xs.length+1) by omega]
  rw [List.set_append_right _ _ (by rw [List.length_take];omega),List.length_take,Nat.min_eq_left (by omega),Nat.sub_self]
  simp
end Go.bM
namespace Go.Proofs.Tryz
open Go.bM Go.RowKit Go.Lib
theorem pE:∃i z,prog.info? 211=some i/\i.zero=some z/\i.size=17/\i.bytes=128/\z.cells.size=17:=by
 have h:=jQ 211 _ rfl
 unfold kn at h
 split at h
 ·rename_i i d e1 e2
  split at h
  ·rename_i z ez
   have h:=Option.some.inj h
   injection h with h1 h2 h3 h4
   refine ⟨i,z,e1,ez,h2,h3,?_⟩
   have:=congrArg List.length h4
   rw [List.length_map,Array.length_toList] at this
   rw [this]
   rfl
  ·cases h
 ·cases h
theorem dV (b o j:Nat):(⟨b,o,none⟩:Addr).add j=⟨b,o+j,none⟩:=by
 unfold Addr.add
 split
 ·rename_i h;subst h;rfl
 ·rfl
theorem NT (w:World){t:TypeId}{i:TypeInfo}(h:prog.info? t=some i):(Go.sizeOf t).run prog w=.ok i.size w:=by
 simp [sizeOf,typeInfo,h]
set_option maxHeartbeats 4000000 in
set_option maxRecDepth 100000 in
theorem H6 (b n c i vb:Nat)(cs vs:List Value)(w:World)(hi:i<n)(hroom:n+1<=c)(hn63:n<=1000000)(hvb:vb≠b)(hcl:c*17<=cs.length)(hvl:vs.length=17)
  (hb:w.heap[b]?=some (.cells cs.toArray 211 (0,0)))(hv:w.heap[vb]?=some (.cells vs.toArray 211 (0,0)))
  (h1c:∀v∈(cs.take (n*17)).drop (i*17),v.oneCell'=true)(h1v:∀v∈vs,v.oneCell'=true) :
  Calls prog 164 #[.slice (some ⟨b,0,none⟩) n c,.int .i64 i,.slice (some ⟨vb,0,none⟩) 1 1] w fun e w'=>
   e=.returned (.slice (some ⟨b,0,none⟩) (n+1) c)/\w'=(w.drew.setCells b ((i+1)*17) ((cs.take (n*17)).drop (i*17))).setCells b (i*17) vs:=by
 obtain ⟨ti,z,e1,e2,e3,e4,e5⟩:=pE
 have hz2:¬((i:Int)=(n:Int)):=by omega
 have hsz:(prog.info? 211).map (·.size)=some 17:=by rw [e1];simp [e3]
 have uT:=underlying119
 have uV:=underlying118
 have rz:∀w,(Go.sizeOf 211).run prog w=.ok 17 w:=fun w=>by rw [NT w e1,e3]
 have ru:=run_underlying uT
 have rv:=run_underlying uV
 have hov:∀lb cb,(callFunc 197 #[.slice (some ⟨vb,0,none⟩) 1 1,.slice (some ⟨b,(i+1)*17,none⟩) lb cb]).run prog w=.ok (.value (.bool false)) w:=fun lb cb=>by
  rw [run_callFunc_extern func197 (by kernel_rfl) (by kernel_rfl) (by kernel_rfl) (e:=Extern.SlicesOverlaps.overlaps #[118,118] #[4]) (by kernel_rfl),
   Lib.run_overlaps_apart w 118 4 211 uV 17 rz ⟨vb,0,none⟩ ⟨b,(i+1)*17,none⟩ 1 1 lb cb hvb _ _ _ _ (An hv) (An hb) (by omega) (fl hv) (fl hv)]
  rfl
 obtain ⟨mid,hmid⟩:∃mid,mid=(cs.take (n*17)).drop (i*17):=⟨_,rfl⟩
 rw [←hmid] at h1c ⊢
 have hml:mid.length=(n-i)*17:=by rw [hmid,List.length_drop,List.length_take];omega
 have hcell:∀(W:World)(o:Nat),W.heap[b]?=some (.cells cs.toArray 211 (0,0))->o<cs.length->(W.cell? ⟨b,o,none⟩).isSome=true:=fun W o hW ho=>by rw [bU hW,List.getElem?_eq_getElem ho];rfl
 have hbd:(w.drew).heap[b]?=some (.cells cs.toArray 211 (0,0)):=hb
 have hmn:∀x:Nat,Nat.min (n+1-i) (n+1-(i+1))=n-i:=fun _=>by simp only [Nat.min_def];split<;>omega
 have hcp1:∀ty dc sc,(Builtin.copy_ #[119,119] ty #[.slice (some ⟨b,(i+1)*17,none⟩) (n+1-(i+1)) dc,.slice (some ⟨b,i*17,none⟩) (n+1-i) sc]).run prog w.drew=  .ok (goInt ((n-i:Nat):Int)) (w.drew.setCells b ((i+1)*17) mid):=fun ty dc sc=>by
  have:=jC (P:=prog) w.drew 119 119 ty 211 17 b ((i+1)*17) (n+1-(i+1)) dc ⟨b,i*17,none⟩ (n+1-i) sc mid uT hsz (by rw [hmn 0,hml])
   (fun j v hj=>by
    rw [dV b,bU hbd]
    rw [hmid,List.getElem?_drop,List.getElem?_take] at hj
    split at hj
    ·exact hj
    ·cases hj)
   (fun j hj=>hcell _ _ hbd (by rw [hml] at hj;omega)) (fun j hj=>fl hbd) h1c
  rw [hmn 0] at this
  exact this
 obtain ⟨g1,g2⟩:=cU mid ((i+1)*17) cs w.drew hbd (by rw [hml];omega)
 obtain ⟨W1,hW1⟩:∃W1,W1=w.drew.setCells b ((i+1)*17) mid:=⟨_,rfl⟩
 rw [←hW1] at hcp1 g1 g2 ⊢
 have QG:Nat.min 1 (n+1-i)=1:=by simp only [Nat.min_def];split<;>omega
 have hvw:vb<w.heap.size:=(Array.getElem?_eq_some_iff.1 hv).1
 have hv1:W1.heap[vb]?=some (.cells vs.toArray 211 (0,0)):=by rw [g2.bI vb hvw hvb];exact hv
 have hcp2:∀ty dc,(Builtin.copy_ #[119,118] ty #[.slice (some ⟨b,i*17,none⟩) (n+1-i) dc,.slice (some ⟨vb,0,none⟩) 1 1]).run prog W1=.ok (goInt 1) (W1.setCells b (i*17) vs):=fun ty dc=>by
  have:=jC (P:=prog) W1 119 118 ty 211 17 b (i*17) (n+1-i) dc ⟨vb,0,none⟩ 1 1 vs uT hsz (by rw [QG,hvl])
   (fun j v hj=>by rw [dV vb,Nat.zero_add,bU hv1];exact hj)
   (fun j hj=>by rw [bU g1,List.getElem?_eq_getElem (by rw [hvl] at hj;simp only [List.length_append,List.length_take,List.length_drop,hml];omega)];rfl) (fun j hj=>fl g1) h1v
  rw [QG] at this
  exact this
 clear g1 g2 hmid h1c hW1
 have mixed:=mixed
 have hw1:i64.wrap ((i:Int)+1)=(i:Int)+1:=by rw [IntKind.wrap_i64];omega
 have hb1:(0:Int)<=(i:Int)+1:=by omega
 have hin:i<=n:=by omega
 have htn:((i:Int)+1).toNat=i+1:=by omega
 have hb2:¬(c=i+1):=by omega
 have hb3:(i:Int)<=(n:Int)+1:=by omega
 have hb4:¬(c=i):=by omega
 go_enter func164,ntmps164
 go_wp2_with (simp only [hov])
 go_region_law_o (refine mB rfl _ _ 119 119 rfl (.slice (some ⟨b,(i+1)*17,none⟩) (n+1-(i+1)) (c-(i+1))) (.slice (some ⟨b,i*17,none⟩) (n+1-i) (c-i)) (by simp [Act.eval,Act.put]) (by simp [Act.eval,Act.put]) (hcp1 3 _ _) ?_)
 go_wp2_with (at_builtin;refine kz _ rfl _ _ 119 118 rfl _ _ rfl rfl (hcp2 _ _) ?_)
 go_ret
 exact ⟨rfl,rfl⟩
set_option maxHeartbeats 4000000 in
set_option maxRecDepth 100000 in
theorem Mb (b n c vb:Nat)(cs vs:List Value)(w:World)(hroom:n+1<=c)(hn63:n<=1000000)(hcl:c*17<=cs.length)(hvl:vs.length=17)
  (hb:w.heap[b]?=some (.cells cs.toArray 211 (0,0)))(hv:w.heap[vb]?=some (.cells vs.toArray 211 (0,0)))(h1v:∀v∈vs,v.oneCell'=true) :
  Calls prog 164 #[.slice (some ⟨b,0,none⟩) n c,.int .i64 n,.slice (some ⟨vb,0,none⟩) 1 1] w fun e w'=>
   e=.returned (.slice (some ⟨b,0,none⟩) (n+1) c)/\w'=w.setCells b (0+n*17) vs:=by
 obtain ⟨ti,z,e1,e2,e3,e4,e5⟩:=pE
 have uT:=underlying119
 have uV:=underlying118
 have ru:=run_underlying uT
 have rv:=run_underlying uV
 have mixed:=mixed
 have hsrc:Src prog ti.size 118 (.slice (some ⟨vb,0,none⟩) 1 1) 1 vs w:=Src.ofSlice w uV ⟨vb,0,none⟩ 1 1 vs (by rw [e3,hvl]) (fun j u hj=>by rw [dV vb,Nat.zero_add,bU hv];exact hj) h1v
 have hc:∀j,j<vs.length->(w.cell? ⟨b,0+n*ti.size+j,none⟩).isSome=true:=fun j hj=>by rw [bU hb,e3,List.getElem?_eq_getElem (by rw [hvl] at hj;omega)];rfl
 have hf:∀j,j<vs.length->w.frozen? ⟨b,0+n*ti.size+j,none⟩=false:=fun j hj=>fl hb
 go_enter func164,ntmps164
 go_wp2_with (at_builtin;refine wpList_append_room_src _ rfl _ _ 119 118 rfl 211 ti uT e1 b 0 n c rfl _ rfl 1 vs hsrc hroom hc hf ?_)
 go_ret
 exact ⟨rfl,by rw [Nat.zero_add]⟩
set_option maxHeartbeats 4000000 in
set_option maxRecDepth 100000 in
theorem A_ (b n c vb:Nat)(cs vs:List Value)(w:World)(hnc:n<=c)(hroom:c<n+1)(hn63:n<=1000000)(hcl:c*17<=cs.length)(hvl:vs.length=17)
  (hb:w.heap[b]?=some (.cells cs.toArray 211 (0,0)))(hv:w.heap[vb]?=some (.cells vs.toArray 211 (0,0)))(h1v:∀v∈vs,v.oneCell'=true) :
  ∃z:Array Value,z.size=17/\Calls prog 164 #[.slice (some ⟨b,0,none⟩) n c,.int .i64 n,.slice (some ⟨vb,0,none⟩) 1 1] w fun e w'=>
   e=.returned (.slice (some ⟨w.heap.size,0,none⟩) (n+1) (grownCap w (n+1) c 211)) /\
   w'=w.drew.alloc (.cells ((cs.take (n*17)++vs).toArray++Builtin.zeroCells z (grownCap w (n+1) c 211-(n+1))) 211):=by
 obtain ⟨ti,z,e1,e2,e3,e4,e5⟩:=pE
 refine ⟨z.cells,e5,?_⟩
 have uT:=underlying119
 have uV:=underlying118
 have ru:=run_underlying uT
 have rv:=run_underlying uV
 have mixed:=mixed
 have hsrc:Src prog ti.size 118 (.slice (some ⟨vb,0,none⟩) 1 1) 1 vs w:=Src.ofSlice w uV ⟨vb,0,none⟩ 1 1 vs (by rw [e3,hvl]) (fun j u hj=>by rw [dV vb,Nat.zero_add,bU hv];exact hj) h1v
 have hbd:(w.drew).heap[b]?=some (.cells cs.toArray 211 (0,0)):=hb
 have hold:(Builtin.firstCells ti.size n (.slice (some ⟨b,0,none⟩) n c)).run prog w.drew=.ok (cs.take (n*17)).toArray w.drew:=by
  rw [e3]
  exact run_firstCells_some w.drew 17 n ⟨b,0,none⟩ n c (cs.take (n*17)) (by rw [List.length_take];omega) (fun j v hj=>by
   rw [dV b,Nat.zero_add,bU hbd]
   rw [List.getElem?_take] at hj
   split at hj
   ·exact hj
   ·cases hj)
 have hrun:∀ty,(Builtin.append_ #[119,118] ty #[.slice (some ⟨b,0,none⟩) n c,.slice (some ⟨vb,0,none⟩) 1 1]).run prog w=_:=fun ty=>
  run_append_grow_src w 119 118 ty 211 ti z uT e1 e2 (some ⟨b,0,none⟩) n c (cs.take (n*17)) hold _ 1 vs hsrc hroom (by omega) (by rw [e4];exact growslice_fits hroom (by omega))
 obtain ⟨zc,hzc⟩:∃zc,zc=z.cells:=⟨_,rfl⟩
 rw [←hzc] at hrun ⊢
 obtain ⟨ROW,hROW⟩:∃ROW:Array Value,ROW=(cs.take (n*17)++vs).toArray++Builtin.zeroCells zc (grownCap w (n+1) c 211-(n+1)):=⟨_,rfl⟩
 rw [←hROW] at hrun ⊢
 clear hzc e5 hold hROW
 go_enter func164,ntmps164
 go_wp2_with (at_builtin;refine Lib.wpList_append_run _ rfl _ _ _ _ rfl _ _ rfl rfl _ _ (hrun _) ?_)
 all_goals (go_ret;exact ⟨rfl,rfl⟩)
set_option maxHeartbeats 4000000 in
set_option maxRecDepth 100000 in
theorem JH (b n c i vb:Nat)(cs vs:List Value)(w:World)(hi:i<n)(hnc:n<=c)(hroom:c<n+1)(hn63:n<=1000000)(hvb:vb≠b)(hcl:c*17<=cs.length)(hvl:vs.length=17)
  (hb:w.heap[b]?=some (.cells cs.toArray 211 (0,0)))(hv:w.heap[vb]?=some (.cells vs.toArray 211 (0,0)))
  (h1c:∀v∈(cs.take (n*17)).drop (i*17),v.oneCell'=true)(h1v:∀v∈vs,v.oneCell'=true) :
  ∃z:Array Value,z.size=17/\Calls prog 164 #[.slice (some ⟨b,0,none⟩) n c,.int .i64 i,.slice (some ⟨vb,0,none⟩) 1 1] w fun e w'=>
   e=.returned (.slice (some ⟨w.heap.size,0,none⟩) (n+1) (grownCap w (n+1) c 211)) /\
   w'=(((w.alloc (.cells ((cs.take (i*17)).toArray++Builtin.zeroCells z (n+1-i)++Builtin.zeroCells z (grownCap w (n+1) c 211-(n+1))) 211)).drew.setCells w.heap.size (i*17) vs).drew).setCells w.heap.size ((i+1)*17) ((cs.take (n*17)).drop (i*17)):=by
 obtain ⟨ti,z,e1,e2,e3,e4,e5⟩:=pE
 refine ⟨z.cells,e5,?_⟩
 have uT:=underlying119
 have uV:=underlying118
 have uI:=underlying3
 have ru:=run_underlying uT
 have rv:=run_underlying uV
 have rz:∀w,(Go.sizeOf 211).run prog w=.ok 17 w:=fun w=>by rw [NT w e1,e3]
 have mixed:=mixed
 have hz2:¬((i:Int)=(n:Int)):=by omega
 have hz3:(c:Int)<(n:Int)+1:=by omega
 have hsz:(prog.info? 211).map (·.size)=some 17:=by rw [e1];simp [e3]
 have hbw:b<w.heap.size:=(Array.getElem?_eq_some_iff.1 hb).1
 have hvw:vb<w.heap.size:=(Array.getElem?_eq_some_iff.1 hv).1
 have hkk:(n:Int)+1-(i:Int)=((n+1-i:Nat):Int):=by omega
 have hik:i+(n+1-i)=n+1:=by omega
 have hbd:(w.drew).heap[b]?=some (.cells cs.toArray 211 (0,0)):=hb
 have hold:(Builtin.firstCells ti.size i (.slice (some ⟨b,0,none⟩) i c)).run prog w.drew=.ok (cs.take (i*17)).toArray w.drew:=by
  rw [e3]
  exact run_firstCells_some w.drew 17 i ⟨b,0,none⟩ i c (cs.take (i*17)) (by rw [List.length_take];omega) (fun j v hj=>by
   rw [dV b,Nat.zero_add,bU hbd]
   rw [List.getElem?_take] at hj
   split at hj
   ·exact hj
   ·cases hj)
 obtain ⟨zc,hzc⟩:∃zc,zc=z.cells:=⟨_,rfl⟩
 rw [←hzc] at e5 ⊢
 have hrz:∀ty,(Builtin.append_ #[119,3] ty #[.slice (some ⟨b,0,none⟩) i c,.int .i64 ((n:Int)+1-(i:Int))]).run prog w =
   .ok (.slice (some ⟨w.heap.size,0,none⟩) (n+1) (grownCap w (n+1) c 211)) (w.drew.alloc (.cells ((cs.take (i*17)).toArray++Builtin.zeroCells zc (n+1-i)++Builtin.zeroCells zc (grownCap w (n+1) c 211-(n+1))) 211)):=fun ty=>by
  have h:=Lib.run_append_grow_zeros w 119 3 ty 211 ti z .i64 .i64 uT uI e1 e2 (some ⟨b,0,none⟩) i c (cs.take (i*17)) hold (n+1-i) (by omega) (by omega) (by omega) (by omega) (by rw [e4];omega) (by rw [e4,hik];exact growslice_fits hroom (by omega))
  rw [hik,←hzc] at h
  rw [hkk]
  exact h
 obtain ⟨G,hG⟩:∃G,G=grownCap w (n+1) c 211:=⟨_,rfl⟩
 obtain ⟨ROW,hROW⟩:∃ROW:List Value,ROW.toArray=(cs.take (i*17)).toArray++Builtin.zeroCells zc (n+1-i)++Builtin.zeroCells zc (G-(n+1)):=⟨((cs.take (i*17)).toArray++Builtin.zeroCells zc (n+1-i)++Builtin.zeroCells zc (G-(n+1))).toList,by simp⟩
 rw [←hG] at hrz ⊢
 rw [←hROW] at hrz ⊢
 have hRl:(n+1)*17<=ROW.length:=by
  have:=congrArg Array.size hROW
  simp [Builtin.zeroCells,e5] at this
  omega
 obtain ⟨mid,hmid⟩:∃mid,mid=(cs.take (n*17)).drop (i*17):=⟨_,rfl⟩
 rw [←hmid] at h1c ⊢
 have hml:mid.length=(n-i)*17:=by rw [hmid,List.length_drop,List.length_take];omega
 obtain ⟨W1,hW1⟩:∃W1,W1=w.drew.alloc (.cells ROW.toArray 211):=⟨_,rfl⟩
 rw [←hW1] at hrz
 have hN:W1.heap[w.heap.size]?=some (.cells ROW.toArray 211 (0,0)):=by rw [hW1];exact Array.getElem?_push_size
 have hB:W1.heap[b]?=some (.cells cs.toArray 211 (0,0)):=by rw [hW1];exact (bX w.drew _ hbw).trans hb
 have hV:W1.heap[vb]?=some (.cells vs.toArray 211 (0,0)):=by rw [hW1];exact (bX w.drew _ hvw).trans hv
 have OK:Nat.min 1 (n+1-i)=1:=by simp only [Nat.min_def];split<;>omega
 have hcpA:∀(W:World),W.heap=W1.heap->∀ty dc,(Builtin.copy_ #[119,118] ty #[.slice (some ⟨w.heap.size,i*17,none⟩) (n+1-i) dc,.slice (some ⟨vb,0,none⟩) 1 1]).run prog W=.ok (goInt 1) (W.setCells w.heap.size (i*17) vs):=fun W hW ty dc=>by
  have:=jC (P:=prog) W 119 118 ty 211 17 w.heap.size (i*17) (n+1-i) dc ⟨vb,0,none⟩ 1 1 vs uT hsz (by rw [OK,hvl])
   (fun j v hj=>by rw [dV vb,Nat.zero_add,bU (by rw [hW];exact hV)];exact hj)
   (fun j hj=>by rw [bU (by rw [hW];exact hN),List.getElem?_eq_getElem (by omega)];rfl) (fun j hj=>fl (by rw [hW];exact hN)) h1v
  rw [OK] at this
  exact this
 have hbN:b≠w.heap.size:=by omega
 have OL:Nat.min (n-i) (n+1-(i+1))=n-i:=by simp only [Nat.min_def];split<;>omega
 have hcpB:∀(W:World),W.heap=W1.heap->∀ty dc sc,(Builtin.copy_ #[119,119] ty #[.slice (some ⟨w.heap.size,(i+1)*17,none⟩) (n+1-(i+1)) dc,.slice (some ⟨b,i*17,none⟩) (n-i) sc]).run prog (W.setCells w.heap.size (i*17) vs).drew=.ok (goInt ((n-i:Nat):Int)) ((W.setCells w.heap.size (i*17) vs).drew.setCells w.heap.size ((i+1)*17) mid):=fun W hW ty dc sc=>by
  obtain ⟨g1,g2⟩:=cU vs (i*17) ROW W (by rw [hW];exact hN) (by omega)
  have hb2:(W.setCells w.heap.size (i*17) vs).drew.heap[b]?=some (.cells cs.toArray 211 (0,0)):=by
   have:=g2.bI b (by rw [hW];exact (Array.getElem?_eq_some_iff.1 hB).1) hbN
   rw [hW,hB] at this
   exact this
  have hn2:(W.setCells w.heap.size (i*17) vs).drew.heap[w.heap.size]?=_:=g1
  have:=jC (P:=prog) (W.setCells w.heap.size (i*17) vs).drew 119 119 ty 211 17 w.heap.size ((i+1)*17) (n+1-(i+1)) dc ⟨b,i*17,none⟩ (n-i) sc mid uT hsz (by rw [OL,hml])
   (fun j v hj=>by
    rw [dV b,bU hb2]
    rw [hmid,List.getElem?_drop,List.getElem?_take] at hj
    split at hj
    ·exact hj
    ·cases hj)
   (fun j hj=>by rw [bU hn2,List.getElem?_eq_getElem (by rw [hml] at hj;simp only [List.length_append,List.length_take,List.length_drop,hvl];omega)];rfl) (fun j hj=>fl hn2) h1c
  rw [OL] at this
  exact this
 have hGn:n+1<=G:=by rw [hG];exact grownCap_ge w _ _ _
 have hG63:G<=9223372036854775807:=by
  have:=grownCap_le_maxLen w (n+1) c 211 (by unfold maxLen;omega)
  rw [←hG] at this
  unfold maxLen at this
  omega
 have hGi:¬(G=i):=by omega
 have hGim:¬(G=i+1):=by omega
 have hci:¬(c=i):=by omega
 have hA:=hcpA ((w.alloc (.cells ROW.toArray 211)).drew) (by rw [hW1];rfl)
 have hA':=hcpA W1 rfl
 have hB':=hcpB ((w.alloc (.cells ROW.toArray 211)).drew) (by rw [hW1];rfl)
 subst hW1
 have hw1:i64.wrap ((i:Int)+1)=(i:Int)+1:=by rw [IntKind.wrap_i64];omega
 have hw2:i64.wrap ((n:Int)+1)=(n:Int)+1:=by rw [IntKind.wrap_i64];omega
 have hb1:(0:Int)<=(i:Int)+1:=by omega
 have hin:i<=n:=by omega
 have htn:((i:Int)+1).toNat=i+1:=by omega
 have hb3:(i:Int)<=(n:Int):=by omega
 clear hkk hik hold hROW hG hRl hcpA hcpB hN hB hV hzc e5 hmid h1c OK OL hml
 go_enter func164,ntmps164
 go_wp2_with (first
  | (at_builtin;refine Lib.wpList_append_run _ rfl _ _ _ _ rfl _ _ rfl rfl _ _ (hrz _) ?_)
  | (at_builtin;refine kz _ rfl _ _ 119 118 rfl _ _ rfl rfl (hA _ _) ?_))
 go_region_law_o (refine mB rfl _ _ 119 119 rfl (.slice (some ⟨w.heap.size,(i+1)*17,none⟩) (n+1-(i+1)) (G-(i+1))) (.slice (some ⟨b,i*17,none⟩) (n-i) (c-i)) (by simp [Act.eval,Act.put]) (by simp [Act.eval,Act.put]) (hB' 3 (G-(i+1)) (c-i)) ?_)
 go_wp2
 go_ret
 exact ⟨rfl,rfl⟩
end Go.Proofs.Tryz
namespace Go.Proofs.Tryz
open Go.bM
theorem Pt {α:Type}{A B:List α}{k:Nat}(h:k<=A.length):(A.take k++B).drop k=B:=by
 rw [List.drop_append_of_le_length (by rw [List.length_take];omega),List.drop_eq_nil_of_le (by rw [List.length_take];omega),List.nil_append]
theorem Se {α:Type}{A B:List α}{j k:Nat}(hj:j<=k)(h:k<=A.length):(A.take k++B).take j=A.take j:=by
 rw [List.take_append_of_le_length (by rw [List.length_take];omega),List.take_take,Nat.min_eq_left hj]
theorem Ja {V:View}{ob vb n c i:Nat}{vs xs:List Value}(hs:V.w.heap[ob]?=some (.cells vs.toArray 211 (0,0)))(hx:V.X ob)(hv:V.w.heap[vb]?=some (.cells xs.toArray 211 (0,0)))
  (hne:ob≠vb)(hi:i<=n)(hnc:n<=c)(hc:n<=1000000)(hcl:c*17<=vs.length)(hl:xs.length=17)(h1c:∀v∈(vs.take (n*17)).drop (i*17),v.oneCell'=true)(h1v:∀v∈xs,v.oneCell'=true) :
  ab prog 164 #[.slice (some ⟨ob,0,none⟩) n c,.int .i64 i,.slice (some ⟨vb,0,none⟩) 1 1] V fun r V'=>∃(q c':Nat)(sp:List Value),r=.slice (some ⟨q,0,none⟩) (n+1) c' /\
   V'.w.heap[q]?=some (.cells (vs.take (i*17)++(xs++(vs.take (n*17)).drop (i*17))++sp).toArray 211 (0,0))/\(V.w.heap.size<=q\/q=ob)/\n+1<=c'/\c'*17<=(n+1)*17+sp.length /\
   V'.w.heap[vb]?=some (.cells xs.toArray 211 (0,0)):=by
 refine ⟨⟨f164,func164,rfl,by kernel_rfl⟩,?_⟩
 have hbw:ob<V.w.heap.size:=(Array.getElem?_eq_some_iff.1 hs).1
 have hvw:vb<V.w.heap.size:=(Array.getElem?_eq_some_iff.1 hv).1
 have hml:((vs.take (n*17)).drop (i*17)).length=(n-i)*17:=by rw [List.length_drop,List.length_take];omega
 by_cases hr:n+1<=c
 ·by_cases hin:i<n
  ·refine (H6 ob n c i vb vs xs V.w hin hr hc (fun e=>hne e.symm) hcl hl hs hv h1c h1v).mono ?_
   rintro e w' ⟨e1,rfl⟩
   obtain ⟨g1,g2⟩:=cU ((vs.take (n*17)).drop (i*17)) ((i+1)*17) vs V.w.drew hs (by rw [hml];omega)
   have tl:(vs.take ((i+1)*17)).length=(i+1)*17:=by rw [List.length_take];omega
   obtain ⟨g3,g4⟩:=cU xs (i*17) _ _ g1 (by simp only [List.length_append,tl,hml];omega)
   have ex:=((vd (·=ob) V.w).trans g2).trans g4
   refine ⟨_,e1,ex.mono fun b e=>e▸hx,ob,c,vs.drop ((i+1)*17+((vs.take (n*17)).drop (i*17)).length),rfl,?_,.inr rfl,hr,?_,?_⟩
   ·refine g3.trans ?_
    congr 3
    rw [List.append_assoc,hl,List.append_assoc (vs.take ((i+1)*17)),Se (by omega) (by omega),show i*17+17=(i+1)*17 by omega,Pt (by omega)]
    simp only [List.append_assoc]
   ·rw [List.length_drop,hml];omega
   ·exact (ex.bI vb hvw fun e=>hne e.symm).trans hv
  ·obtain rfl:i=n:=by omega
   refine (Mb ob i c vb vs xs V.w hr hc hcl hl hs hv h1v).mono ?_
   rintro e w' ⟨e1,rfl⟩
   obtain ⟨g3,g4⟩:=cU xs (0+i*17) vs V.w hs (by omega)
   refine ⟨_,e1,g4.mono fun b e=>e▸hx,ob,c,vs.drop (0+i*17+xs.length),rfl,?_,.inr rfl,hr,?_,?_⟩
   ·refine g3.trans ?_
    congr 3
    rw [show (vs.take (i*17)).drop (i*17)=[] from List.drop_eq_nil_of_le (by rw [List.length_take];omega),Nat.zero_add,List.append_nil]
   ·rw [List.length_drop];omega
   ·exact (g4.bI vb hvw fun e=>hne e.symm).trans hv
 ·by_cases hin:i<n
  ·obtain ⟨z,hz,dk⟩:=JH ob n c i vb vs xs V.w hin hnc (by omega) hc (fun e=>hne e.symm) hcl hl hs hv h1c h1v
   refine dk.mono ?_
   rintro e w' ⟨e1,rfl⟩
   have hG:=Go.grownCap_ge V.w (n+1) c 211
   generalize Go.grownCap V.w (n+1) c 211=G at *
   obtain ⟨ROW,hROW⟩:∃ROW:List Value,ROW.toArray=(vs.take (i*17)).toArray++Builtin.zeroCells z (n+1-i)++Builtin.zeroCells z (G-(n+1)):=⟨((vs.take (i*17)).toArray++Builtin.zeroCells z (n+1-i)++Builtin.zeroCells z (G-(n+1))).toList,by simp⟩
   have XX:ROW=vs.take (i*17)++((Builtin.zeroCells z (n+1-i)).toList++(Builtin.zeroCells z (G-(n+1))).toList):=by
    have:=congrArg Array.toList hROW
    simpa using this
   have hzl:∀k,(Builtin.zeroCells z k).toList.length=k*17:=fun k=>by simp [Builtin.zeroCells,hz]
   have Ta:(vs.take (i*17)).length=i*17:=by rw [List.length_take];omega
   have hRl:ROW.length=i*17+(n+1-i)*17+(G-(n+1))*17:=by rw [XX];simp only [List.length_append,hzl,Ta];omega
   rw [←hROW]
   have hN:(V.w.alloc (.cells ROW.toArray 211)).drew.heap[V.w.heap.size]?=some (.cells ROW.toArray 211 (0,0)):=Array.getElem?_push_size
   have x1:eN (·=ob) V.w (V.w.alloc (.cells ROW.toArray 211)).drew:=(qN _ _ _).trans (vd _ _)
   obtain ⟨g1,g2⟩:=cU xs (i*17) ROW _ hN (by omega)
   obtain ⟨g3,g4⟩:=cU ((vs.take (n*17)).drop (i*17)) ((i+1)*17) _ (World.drew _) g1 (by simp only [List.length_append,List.length_take,List.length_drop,hml];omega)
   have Wh:V.w.heap.size<=_:=x1.size
   have Xq:∀{X:Nat->Prop},eN X V.w _:=fun {X}=>by
    refine ⟨Nat.le_trans Wh (Nat.le_trans g2.size g4.size),fun b hb _=>?_,?_,?_,?_⟩
    ·exact (g4.bI b (Nat.lt_of_lt_of_le hb (Nat.le_trans Wh g2.size)) (by omega)).trans ((g2.bI b (Nat.lt_of_lt_of_le hb Wh) (by omega)).trans ((qN (fun _=>False) V.w (.cells ROW.toArray 211)).bI b hb id))
    ·exact g4.os.trans (g2.os.trans x1.os)
    ·exact g4.tape.trans (g2.tape.trans x1.tape)
    ·exact g4.out.trans (g2.out.trans x1.out)
   refine ⟨_,e1,Xq,V.w.heap.size,G,(ROW.drop ((n+1)*17)),rfl,?_,.inl (Nat.le_refl _),hG,?_,?_⟩
   ·refine g3.trans ?_
    have e2:ROW.take (i*17)=vs.take (i*17):=by rw [XX,List.take_append_of_le_length (by rw [Ta];exact Nat.le_refl _),List.take_of_length_le (by rw [Ta];exact Nat.le_refl _)]
    have l1:(ROW.take (i*17)++xs).length=(i+1)*17:=by rw [List.length_append,e2,Ta,hl];omega
    have e3:(ROW.take (i*17)++xs++ROW.drop (i*17+xs.length)).take ((i+1)*17)=ROW.take (i*17)++xs:=by rw [←l1,List.take_left'];rfl
    have e4:(ROW.take (i*17)++xs++ROW.drop (i*17+xs.length)).drop ((i+1)*17+((vs.take (n*17)).drop (i*17)).length)=ROW.drop ((n+1)*17):=by
     rw [List.drop_append,List.drop_eq_nil_of_le (by rw [l1];omega),List.nil_append,List.drop_drop,l1,hml,hl]
     congr 1;omega
    rw [e3,e4,e2]
    simp only [List.append_assoc]
   ·rw [List.length_drop,hRl];omega
   ·exact (@Xq fun _=>False).bI vb hvw id |>.trans hv
  ·obtain rfl:i=n:=by omega
   obtain ⟨z,hz,dk⟩:=A_ ob i c vb vs xs V.w hnc (by omega) hc hcl hl hs hv h1v
   refine dk.mono ?_
   rintro e w' ⟨e1,rfl⟩
   have hG:=Go.grownCap_ge V.w (i+1) c 211
   generalize Go.grownCap V.w (i+1) c 211=G at *
   have hzl:∀k,(Builtin.zeroCells z k).toList.length=k*17:=fun k=>by simp [Builtin.zeroCells,hz]
   have ex:∀{X:Nat->Prop} {o:Obj},eN X V.w (V.w.drew.alloc o):=(vd _ _).trans (qN _ _ _)
   refine ⟨_,e1,ex,V.w.heap.size,G,(Builtin.zeroCells z (G-(i+1))).toList,rfl,?_,.inl (Nat.le_refl _),hG,?_,?_⟩
   ·refine (Array.getElem?_push_size (xs:=V.w.heap)).trans ?_
    congr 2
    rw [show (vs.take (i*17)).drop (i*17)=[] from List.drop_eq_nil_of_le (by rw [List.length_take];omega),List.append_nil]
    apply Array.ext'
    simp
   ·rw [hzl];omega
   ·exact ((ex (X:=fun _=>False)).bI vb hvw id).trans hv
end Go.Proofs.Tryz
namespace Go.Proofs.Tryz
open Go.bM Go.fB
theorem zw {V:View}{v:Value}{p:Rat×Rat}(h:nE V v p.1 p.2){k:Nat}(s1:Sz k p.1)(s2:Sz k p.2)(hk:k<=1099511627776) :
  ab prog 196 #[v] V fun r V'=>r=.int .i64 (aq.half p):=by
 obtain ⟨x1,x2,q,y1,y2,q',rfl,hx,hy⟩:=h
 refine wH x1 x2 q y1 y2 q' V _ fun V1 l1=>(eQ (hy.le l1) s2 hk).mono ?_
 rintro r V2 l2 rfl
 have cg:=l1.trans l2
 refine ⟨_,rfl,fun h1 V3 l3=>?_,fun h1=>⟨fun h2 V4 l4=>(eQ (hx.le (cg.trans l4)) s1 hk).mono ?_,fun h2=>⟨fun h3 lS l12'=>?_,fun h3 oR cK=>(eQ (hx.le (cg.trans cK)) s1 hk).mono ?_⟩⟩⟩
 ·have h1:p.2.num.sign>0:=of_decide_eq_true h1
  unfold aq.half;rw [if_pos (.inl h1)]
 ·have h1:¬p.2.num.sign>0:=of_decide_eq_false h1
  have h2:p.2.num.sign=0:=by simpa using h2
  rintro r V5 l5 rfl
  refine ⟨_,rfl,fun h3 V6 l6=>?_,fun h3=>⟨fun h4 V7 l7=>?_,fun h4 V8 l8=>(eQ (hx.le (cg.trans (l4.trans (l5.trans l8)))) s1 hk).mono ?_⟩⟩
  ·have h3:p.1.num.sign>0:=of_decide_eq_true h3
   unfold aq.half;rw [if_pos (.inr ⟨h2,h3⟩)]
  ·have h4:p.2.num.sign<0:=of_decide_eq_true h4
   omega
  ·have h3:¬p.1.num.sign>0:=of_decide_eq_false h3
   have hn:¬(p.2.num.sign>0\/p.2.num.sign=0/\p.1.num.sign>0):=by omega
   rintro r V9 l9 rfl
   refine ⟨_,rfl,fun h5 jk l10=>?_,fun h5 jh bK=>?_⟩
   ·have h5:p.1.num.sign<0:=of_decide_eq_true h5
    unfold aq.half;rw [if_neg hn,if_pos (.inr h5)]
   ·have h5:¬p.1.num.sign<0:=of_decide_eq_false h5
    unfold aq.half;rw [if_neg hn,if_neg (by omega)]
 ·have h1:¬p.2.num.sign>0:=of_decide_eq_false h1
  have h2:¬p.2.num.sign=0:=by simpa using h2
  have h3:p.2.num.sign<0:=of_decide_eq_true h3
  unfold aq.half;rw [if_neg (by omega),if_pos (.inl h3)]
 ·have h1:¬p.2.num.sign>0:=of_decide_eq_false h1
  have h2:¬p.2.num.sign=0:=by simpa using h2
  have h3:¬p.2.num.sign<0:=of_decide_eq_false h3
  omega
theorem MN (q:Rat):-1<=q.num.sign/\q.num.sign<=1:=by
 rcases Int.lt_trichotomy q.num 0 with h|h|h
 ·rw [Int.sign_eq_neg_one_of_neg h];omega
 ·rw [h];decide
 ·rw [Int.sign_eq_one_of_pos h];omega
theorem Cw {V:View}{v w:Value}{a b:Rat×Rat}(h:nE V v a.1 a.2)(h':nE V w b.1 b.2){k:Nat}(s1:Sz k a.1)(s2:Sz k a.2)(s3:Sz k b.1)(s4:Sz k b.2)(hk:4*k+3<274877906944) :
  ab prog 163 #[v,w] V fun r V'=>r=.int .i64 (aq.du a b):=by
 have h0:=h
 have h0':=h'
 obtain ⟨x1,x2,q,y1,y2,q',rfl,-⟩:=h
 obtain ⟨u1,u2,t,w1,w2,t',rfl,-⟩:=h'
 refine BL x1 x2 q y1 y2 q' u1 u2 t w1 w2 t' V _ fun V1 l1=>(zw (h0.le l1) s1 s2 (by omega)).mono ?_
 rintro r V2 l2 rfl
 refine ⟨_,rfl,fun V3 l3=>(zw (h0'.le (l1.trans (l2.trans l3))) s3 s4 (by omega)).mono ?_⟩
 rintro r V4 l4 rfl
 have dN:=l1.trans (l2.trans (l3.trans l4))
 refine ⟨_,rfl,fun g V5 l5=>?_,fun g=>⟨fun g' V6 l6=>?_,fun g' V7 l7=>(fJ (h0.le (dN.trans l7)) (h0'.le (dN.trans l7)) s1 s2 s3 s4 hk).mono ?_⟩⟩
 ·unfold aq.du;rw [if_pos (of_decide_eq_true g)]
 ·unfold aq.du;rw [if_neg (of_decide_eq_false g),if_pos (of_decide_eq_true g')]
 ·rintro r V8 l8 gc
  have PL:=gc
  obtain ⟨c0,c1,c2,rfl⟩:=gc.shape
  refine ⟨_,_,_,rfl,fun V9 l9=>(eQ (PL.le l9) (kD s1 s2 s3 s4) (by omega)).mono ?_⟩
  rintro r jk l10 rfl
  refine ⟨_,rfl,fun jh bK=>?_⟩
  have bd:=MN (a.1*b.2-a.2*b.1)
  rw [ay (by omega)]
  unfold aq.du;rw [if_neg (of_decide_eq_false g),if_neg (of_decide_eq_false g')]
  show _=Value.int .i64 (-(a.1*b.2-a.2*b.1).num.sign)
  congr 1;omega
def Oq:Rat×Rat:=(0,0)
def Qo (a b:Rat×Rat):Int:=aq.du a b
def Lf (V:View)(v:Value)(c:Rat×Rat):Prop:=nE V v c.1 c.2/\Sz 100000 c.1/\Sz 100000 c.2
theorem Lf.le {V V':View}{v:Value}{c:Rat×Rat}(h:Lf V v c)(l:V.Le V'):Lf V' v c:=⟨h.1.le l,h.2⟩
theorem Lf.shape {V:View}{v:Value}{c:Rat×Rat}(h:Lf V v c):∃(x y:Int)(p:OA)(xb yb:Int)(pb:OA),v=.agg #[.int .i64 x,.int .i64 y,.pointer p,.int .i64 xb,.int .i64 yb,.pointer pb]:=by
 obtain ⟨⟨x1,x2,p,y1,y2,q,e,-⟩,-⟩:=h;exact ⟨_,_,_,_,_,_,e⟩
def eP (a b:Rat×Rat):Bool:=aq.eP a b
def pM (p:Rat×Rat):Rat×Rat:=(p.1*(g_ p.1 p.2)⁻¹,p.2*(g_ p.1 p.2)⁻¹)
theorem GO {V:View}{v:Value}{l:L3}(h:ue V v l)(hb:Bd l):ab prog 135 #[v] V fun r V'=>nE V' r (aq.ax l).1 (aq.ax l).2:=kL h hb.kF.1 hb.kF.2.1 hb.kF.2.2 (by omega)
theorem iY {l:L3}(hb:Bd l):Sz 1000 (aq.ax l).1/\Sz 1000 (aq.ax l).2:=⟨hb.kF.2.1,hb.kF.1.neg⟩
theorem Gv {V:View}{v lv:Value}{s:Sd}{l:L3}(h:fE V v s)(hl:ue V lv l)(hb:Bd l):ab prog 162 #[v,lv] V fun r V'=>r=.int .i64 (aq.du (aq.ax s.1) (aq.ax l)):=by
 have hl0:=hl
 obtain ⟨_,_,_,_,_,_,_,_,_,_,_,_,_,_,_,rfl⟩:=h.shape
 obtain ⟨rl,ri,-,-⟩:=h.both
 have sd:=h.2.1
 obtain ⟨_,_,_,_,_,_,_,_,_,rfl,-,-,-⟩:=hl
 refine oE _ _ _ _ _ _ _ _ _ _ _ _ _ _ _ _ _ _ _ _ _ _ _ _ _ _ V _ fun V1 l1=>(GO (rl.le l1) sd).mono ?_
 rintro r V2 l2 g
 have g0:=g
 obtain ⟨_,_,_,_,_,_,rfl,-,-⟩:=g
 refine ⟨_,_,_,_,_,_,rfl,fun V3 l3=>(GO (hl0.le (l1.trans (l2.trans l3))) hb).mono ?_⟩
 rintro r V4 l4 g'
 have g0':=g'
 obtain ⟨_,_,_,_,_,_,rfl,-,-⟩:=g'
 refine ⟨_,_,_,_,_,_,rfl,fun V5 l5=>(Cw (g0.le (l3.trans (l4.trans l5))) (g0'.le l5) (iY sd).1 (iY sd).2 (iY hb).1 (iY hb).2 (by omega)).mono ?_⟩
 rintro r V6 l6 rfl
 exact ⟨_,rfl,fun V7 l7=>rfl⟩
theorem H2 {i j:Nat}(hi:i<=1000000)(hj:j<=1000000):i64.wrap ((u64.wrap (i64.wrap ((i:Int)+(j:Int)))).fdiv (2^1))=(((i+j) / 2:Nat):Int):=by
 have e1:i64.wrap ((i:Int)+(j:Int))=(i:Int)+(j:Int):=ay (by omega)
 have e2:u64.wrap ((i:Int)+(j:Int))=(i:Int)+(j:Int):=aM (by omega)
 have:((i:Int)+(j:Int)).fdiv (2^1)=(((i+j) / 2:Nat):Int):=by
  rw [Int.fdiv_eq_ediv_of_nonneg _ (by decide)]
  omega
 rw [e1,e2,this,ay (by omega)]
theorem Hz {V:View}{lb n c:Nat}{vs:List Value}{r:List Sd}{lv:Value}{l:L3}(hw:V.w.heap[lb]?=some (.cells vs.toArray 211 (0,0)))(hx:V.X lb)(hr:Row 17 fE V vs r)(hn:n=r.length)(hs:n<=1000000)(hl:ue V lv l)(hb:Bd l)
  (rH:r.Pairwise fun s u=>aq.du (aq.ax s.1) (aq.ax u.1)<0) :
  ab prog 161 #[.slice (some ⟨lb,0,none⟩) n c,lv,.func (.func 162) #[] #[]] V fun q V'=>∃(i:Nat)(b:Bool),q=.tuple #[.int .i64 i,.bool b]/\i<=n/\(∀v:Sp,mf (l,v) r=r.take i++(l,v)::r.drop i) /\
   V'.w.heap[lb]?=some (.cells vs.toArray 211 (0,0)):=by
 have hl0:=hl
 subst hn
 obtain ⟨_,_,_,_,_,_,_,_,_,rfl,-,-,-⟩:=hl
 refine i_ lb _ c vs _ _ _ _ _ _ _ _ _ V _ hw hx ⟨fun z V'=>∃i j:Nat,z.1=(i:Int)/\z.2=(j:Int)/\Bs r l i j,fun z=>z.2.toNat-z.1.toNat,⟨(0,(r.length:Int)),by and_intros<;>rfl,0,r.length,rfl,rfl,Bs.start r l⟩,?_⟩
 rintro ⟨z1,z2⟩ V1 l1 ⟨i,j,e1,e2,bs⟩
 dsimp only at e1 e2
 subst e1 e2
 have ble:=bs.le
 have bln:=bs.len
 have hr1:=hr.le (V':=V1) fun _ _ g=>fE.le g l1
 refine ⟨rfl,fun hlt=>?_,fun hlt=>?_⟩
 ·have hlt:(i:Int)<(j:Int):=of_decide_eq_true hlt
  dsimp only
  rw [H2 (by omega) (by omega)]
  have hlj:(i+j) / 2<j:=by omega
  have hli:i<=(i+j) / 2:=by omega
  generalize (i+j) / 2=h at *
  have UJ:h<r.length:=by omega
  have w:i64.wrap ((h:Int)+1)=((h+1:Nat):Int):=by rw [ay (by omega)];rfl
  rw [Int.toNat_natCast,w,Nat.zero_add]
  obtain ⟨a1,a2,a3,a4,a5,a6,a7,a8,a9,b1,b2,b3,b4,b5,b6,fD,Qq,hs1⟩:=G9 hr1 UJ
  refine ⟨by omega,⟨by omega,by omega⟩,_,_,_,_,_,_,_,_,_,_,_,_,_,_,_,_,_,⟨fD,Qq⟩,fun V2 l2=>(Gv (hs1.le l2) (hl0.le (l1.trans l2)) hb).mono ?_⟩
  rintro q V3 l3 rfl
  refine ⟨_,rfl,fun hc=>⟨(((h+1:Nat):Int),(j:Int)),by dsimp only;omega,by and_intros<;>rfl,h+1,j,rfl,rfl,bs.up rH hlj UJ (of_decide_eq_true hc)⟩,fun hc=>⟨((i:Int),(h:Int)),by dsimp only;omega,by and_intros<;>rfl,i,h,rfl,rfl,bs.down hli UJ (of_decide_eq_false hc)⟩⟩
 ·have hlt:¬(i:Int)<(j:Int):=of_decide_eq_false hlt
  obtain rfl:i=j:=by omega
  dsimp only
  refine ⟨fun hin=>?_,fun hin V7 l7 hw7=>⟨i,false,rfl,by omega,fun v=>bs.done v,hw7⟩⟩
  have hin:(i:Int)<(r.length:Int):=of_decide_eq_true hin
  have hil:i<r.length:=by omega
  rw [Int.toNat_natCast,Nat.zero_add]
  obtain ⟨a1,a2,a3,a4,a5,a6,a7,a8,a9,b1,b2,b3,b4,b5,b6,fD,Qq,hs1⟩:=G9 hr1 hil
  refine ⟨⟨by omega,by omega⟩,_,_,_,_,_,_,_,_,_,_,_,_,_,_,_,_,_,⟨fD,Qq⟩,fun V4 l4=>(Gv (hs1.le l4) (hl0.le (l1.trans l4)) hb).mono ?_⟩
  rintro q V5 l5 rfl
  exact ⟨_,rfl,fun V6 l6 hw6=>⟨i,_,rfl,by omega,fun v=>bs.done v,hw6⟩⟩
theorem vy {V V':View}{P:Prop}{b:Nat}(l:V.Le V')(h:P->V.w.heap.size<=b\/V.H b):V.Le (V'.shut.jv P b):=fun x o hx=>by
 have h1:=l x o hx
 refine ⟨fun hh=>hh.elim h1.1 ?_,h1.2⟩
 rintro ⟨hp,rfl,-⟩
 rcases h hp with h|h
 ·have:=(Array.getElem?_eq_some_iff.1 hx.2).1
  omega
 ·exact hx.1 h
theorem HP {c:List Sd}{l:L3}{i:Nat}(hi:i<c.length):lP (c.take (i+1)) l=lP (c.take i) l++if dU c[i].1 c[i].2 l=true then [(c[i].1,dv c[i].1 c[i].2 l)] else []:=by
 unfold lP
 rw [List.take_add_one,List.getElem?_eq_getElem hi,List.filterMap_append]
 congr 1
 show List.filterMap _ [c[i]]=_
 by_cases h:dU c[i].1 c[i].2 l=true
 ·simp [h]
 ·simp [h]
theorem uR (c:List Sd)(l:L3):(lP c l).length<=c.length:=List.length_filterMap_le ..
theorem EZ {c:List Sd}{l:L3}{v:Sp}(h:cw c l bj=some v):fW c l=some (mf (l,v) (lP c l)):=by unfold fW;rw [h]
theorem EY {c:List Sd}{l:L3}(h:cw c l bj=none):fW c l=if 0<dP c l then some c else none:=by unfold fW;rw [h]
set_option maxHeartbeats 1000000 in
theorem Cs {V:View}{cp:OA}{cn cc:Nat}{c:List Sd}{lv:Value}{l:L3}(h:cI 17 fE V cp cn c)(hl:ue V lv l)(hb:Bd l)(hn:c.length<=100000)(rH:c.Pairwise fun s u=>aq.du (aq.ax s.1) (aq.ax u.1)<0) :
  ab prog 102 #[.slice cp cn cc,lv] V fun r V'=>∃q m e,r=.tuple #[.slice q m e,.bool (fW c l).isSome]/\(∀c',fW c l=some c'->cI 17 fE V' q m c'/\(cn<=cc->m<=e)):=by
 have hl0:=hl
 have h0:=h
 obtain rfl:=h.len
 obtain ⟨_,_,_,_,_,_,_,_,_,rfl,-,-,-⟩:=hl
 refine rq cp _ cc _ _ _ _ _ _ _ _ _ V _ fun V1 l1=>(rK (h.le l1 fun _ _ g=>fE.le g l1) (hl0.le l1) hb (by omega)).mono ?_
 rintro r V2 l2 ⟨w,rfl,gv,sv⟩
 have XC:=gv
 obtain ⟨_,_,_,_,_,_,rfl,-,-⟩:=gv
 have L2:=l1.trans l2
 refine ⟨_,_,_,_,_,_,_,_,_,rfl,fun hp V3 l3=>(oU (h0.le (L2.trans l3) fun _ _ g=>fE.le g (L2.trans l3)) (hl0.le (L2.trans l3)) hb (by omega)).mono ?_,fun hp=>?_⟩
 ·have hp:cw c l bj=none:=by simpa using hp
  rintro r V4 l4 rfl
  have e1:Lm c l=dP c l:=by unfold Lm;rw [hp];rfl
  have e2:=EY hp
  refine ⟨_,rfl,fun V5 l5=>⟨cp,c.length,cc,?_,fun c' e=>?_⟩⟩
  ·rw [e1,e2]
   by_cases hc:0<dP c l
   ·rw [if_pos hc,decide_eq_true hc];rfl
   ·rw [if_neg hc,decide_eq_false hc];rfl
  ·rw [e2] at e
   split at e
   ·cases e
    have L5:=L2.trans (l3.trans (l4.trans l5))
    exact ⟨h0.le L5 fun _ _ g=>fE.le g L5,id⟩
   ·cases e
 have hp:(cw c l bj).isSome=true:=by simpa using hp
 obtain ⟨v,ev⟩:=Option.isSome_iff_exists.1 hp
 rw [ev] at XC sv ⊢
 have e2:=EZ ev
 have w1:i64.wrap ((c.length:Int)+1)=((c.length+1:Nat):Int):=by rw [ay (by omega)];rfl
 rw [w1,Int.toNat_natCast]
 refine ⟨by omega,by omega,by omega,fun z V'=>∃i:Nat,z.2.2.2=(i:Int)/\i<=c.length/\GR 17 fE V' z.1 z.2.1 z.2.2.1 (lP (c.take i) l)/\z.2.1≠0,fun z=>c.length-z.2.2.2.toNat,
  ⟨(0,c.length+1,oN (c.length+1) [.int .i64 0,.int .i64 0,.pointer none,.int .i64 0,.int .i64 0,.pointer none,.int .i64 0,.int .i64 0,.pointer none,.int .i64 0,.int .i64 0,.pointer none,.int .i64 0,.int .i64 0,.pointer none,.bool false,.bool false],0),by and_intros<;>first|rfl|omega,0,rfl,Nat.zero_le _,⟨rfl,Nat.zero_le _,?_,Row.nil⟩,by dsimp only;omega⟩,?_⟩
 ·show _<=(List.replicate (c.length+1) _).flatten.length
  rw [List.length_flatten,List.map_replicate,List.sum_replicate_nat]
  exact Nat.le_refl _
 rintro ⟨z1,z2,vs,z4⟩ V6 l6 ⟨i,e4,Ye,hg,hc0⟩
 dsimp only at e4 hg hc0
 subst e4
 have L6:=L2.trans l6
 have gl:=hg.len
 have Uj:=hg.le
 have Jv:=hg.cap
 try dsimp only at gl Uj Jv
 have XB:=uR (c.take i) l
 rw [List.length_take] at XB
 refine ⟨rfl,fun hlt=>?_,fun hlt=>⟨fun hv0=>?_,fun hv0 mP dN bk g1 g2=>?_⟩⟩
 ·have hlt:(i:Int)<c.length:=of_decide_eq_true hlt
  have hi':i<c.length:=by omega
  have w:i64.wrap ((i:Int)+1)=((i+1:Nat):Int):=by rw [ay (by omega)];rfl
  dsimp only
  rw [Int.toNat_natCast,w]
  obtain ⟨ps,a1,a2,a3,a4,a5,a6,a7,a8,a9,b1,b2,b3,b4,b5,b6,a,ha,k0,k1,k2,k3,k4,k5,k6,k7,k8,k9,k10,k11,k12,k13,k14,k15,k16,hr⟩:=im (h0.le L6 fun _ _ g=>fE.le g L6) hi'
  obtain ⟨rl,ri,-,-⟩:=hr.both
  have sd:=hr.2
  have ct:=HP (l:=l) hi'
  generalize c[i]=S at *
  refine ⟨ps,⟨by omega,by omega⟩,_,_,_,_,_,_,_,_,_,_,_,_,_,_,_,_,_,a,ha,k0,k1,k2,k3,k4,k5,k6,k7,k8,k9,k10,k11,k12,k13,k14,k15,k16,fun V7 l7=>(Cu (rl.le l7) (ri.le l7) (hl0.le (L6.trans l7)) (k:=100000) (sd.1.kF.up (by omega)) sd.2 (hb.kF.up (by omega)) (by omega)).mono ?_⟩
  rintro r V8 l8 ⟨w8,rfl,g⟩
  have g0:=g
  obtain ⟨_,_,_,_,_,_,rfl,-,-⟩:=g
  have X1:=hg.mono (V':=V8) fun _ _ g=>fE.le g (l7.trans l8)
  refine ⟨_,_,_,_,_,_,_,_,_,rfl,fun hf=>⟨by omega,Uj,Jv,rfl,Kj,fun sp c' h1 h2=>⟨(z1+1,c',_,((i+1:Nat):Int)),by dsimp only;omega,by and_intros<;>rfl,i+1,rfl,hi',?_,by dsimp only;omega⟩⟩,fun hf=>⟨(z1,z2,vs,((i+1:Nat):Int)),by dsimp only;omega,by and_intros<;>rfl,i+1,rfl,hi',?_,hc0⟩⟩
  ·have hf:dU S.1 S.2 l=true:=hf
   dsimp only
   rw [ct,if_pos hf]
   exact X1.snoc (a:=(S.1,dv S.1 S.2 l)) rfl ⟨⟨_,_,_,_,_,_,_,_,_,_,_,_,_,_,_,rfl,rl.le (l7.trans l8),g0⟩,sd.1,BG sd.1.kF hb.kF sd.2 (by omega)⟩ (by decide) h1 h2
  ·have hf:¬dU S.1 S.2 l=true:=by rw [show dU S.1 S.2 l=false from hf];exact Bool.false_ne_true
   dsimp only
   rw [ct,if_neg hf,List.append_nil]
   exact X1
 ·have hv0:vs=[]:=hv0
  rw [hv0] at Jv
  simp at Jv
  omega
 have hlt:¬(i:Int)<c.length:=of_decide_eq_false hlt
 obtain rfl:i=c.length:=by omega
 rw [List.take_length] at hg gl
 have XB:=uR c l
 have hv0:vs≠[]:=hv0
 have SU:∀b,mA b z2=some ⟨b,0,none⟩:=fun b=>by unfold mA;rw [if_neg hc0]
 dsimp only
 rw [SU]
 have IQ:=L6.trans dN
 refine (Hz (V:=mP.aV [vb vs mP.w.heap.size bk]) (r:=lP c l) (l:=l) (g1 hv0) ⟨by simp [NV hv0],g2 hv0⟩ (hg.row.le fun _ _ g=>fE.le g fun b o h=>dN b o h) gl (by omega) (ue.le (V:=V) (V':=mP.aV _) hl0 fun b o h=>IQ b o h) hb (CJ rH)).mono ?_
 rintro r lE dF ⟨at_,fb,rfl,hat,hins,e5⟩
 refine ⟨_,_,rfl,hv0,vs,hv0,e5,fun lT dw bk1 bk2 k1 k2 k3 k4 k5=>?_⟩
 rw [SU]
 have l146:mP.Le lT:=fun b o h=>dw b o (dF b o h)
 have hvw:lT.w.heap.size>bk1:=(Array.getElem?_eq_some_iff.1 (k1 hv0)).1
 have OR:Row 17 fE lT vs (lP c l):=hg.row.le fun _ _ g=>fE.le g (dN.trans l146)
 have hone:∀u∈(vs.take (z1*17)).drop (at_*17),u.oneCell'=true:=fun u hu=>by
  obtain ⟨m,hm,e⟩:=List.mem_iff_getElem.1 (List.mem_of_mem_drop hu)
  have hm':m<(lP c l).length*17:=by rw [List.length_take,gl] at hm;omega
  have:=List.getElem?_eq_getElem hm
  rw [e,List.getElem?_take,if_pos (by rw [gl];exact hm')] at this
  exact pR hg.row (by decide) (fun xs _=>ML xs) hm' this
 refine (Ja (V:=lT.aV [vb vs lT.w.heap.size bk1,bk2]) (ob:=bk1) (vb:=bk2) (n:=z1) (c:=z2) (i:=at_) (vs:=vs) (xs:=[_,_,_,_,_,_,_,_,_,_,_,_,_,_,_,_,_]) (k1 hv0) ⟨by simp [NV hv0],k2 hv0⟩ k3 (k5 hv0) hat Uj (by omega) Jv rfl hone Kj).mono ?_
 rintro r nk dj ⟨q,c',sp,rfl,f1,f2,f3,f4,f5⟩
 have f2':lT.w.heap.size<=q\/(vs≠[]/\q=bk1):=f2.imp id fun e=>⟨hv0,e⟩
 refine ⟨q,_,fun _=>f1,fun _=>f2',some ⟨q,0,none⟩,z1+1,c',?_,_,_,_,_,_,_,_,_,_,_,_,_,_,_,_,_,_,f5,fun qn dB Zx m1=>⟨mA Zx c',z1+1,c',?_,fun c'' e=>?_⟩⟩
 ·unfold mA;rw [if_neg (by omega)]
 ·rw [e2];rfl
 ·rw [e2] at e
  obtain rfl:=Option.some.inj e
  have JQ:lT.Le qn:=fun b o hx=>dB b o (vy (V:=lT.aV _) (V':=nk) (P:=_) (b:=q) dj (fun _=>f2.elim .inl fun e=>.inr (by rw [e];exact k2 hv0)) b o hx)
  have hR:=FP (sp:=sp) (OR.le fun _ _ g=>fE.le g JQ) (k:=at_) (by omega) (xs:=[_,_,_,_,_,_,_,_,_,_,_,_,_,_,_,_,_]) (a:=(l,v)) rfl ⟨⟨_,_,_,_,_,_,_,_,_,_,_,_,_,_,_,rfl,hl0.le (IQ.trans (l146.trans JQ)),XC.le (l6.trans (dN.trans (l146.trans JQ)))⟩,hb,sv⟩ (by decide)
  rw [hins v]
  have hlen:z1+1=((lP c l).take at_++(l,v)::(lP c l).drop at_).length:=by
   rw [List.length_append,List.length_cons,List.length_take,List.length_drop];omega
  rw [hlen]
  rw [←gl] at hR
  exact ⟨cI.fQ m1 hR (by decide) (by rw [←hlen];exact f3),fun _=>by rw [←hlen];exact f3⟩
def EC (k:Nat)(V:View)(v:Value)(c:Rat×Rat):Prop:=nE V v c.1 c.2/\Sz k c.1/\Sz k c.2
theorem EC.le {k:Nat}{V V':View}{v:Value}{c:Rat×Rat}(h:EC k V v c)(l:V.Le V'):EC k V' v c:=⟨h.1.le l,h.2⟩
theorem RB {a b:Int}{p:OA}{c d:Int}{q:OA}:∀v∈([.int .i64 a,.int .i64 b,.pointer p,.int .i64 c,.int .i64 d,.pointer q]:List Value),v.oneCell'=true:=by
 intro v hm
 simp only [List.mem_cons,List.not_mem_nil,or_false] at hm
 rcases hm with rfl|rfl|rfl|rfl|rfl|rfl<;>rfl
theorem pH {k:Nat}{V:View}{p:OA}{n:Nat}{al:List (Rat×Rat)}(h:cI 6 (EC k) V p n al){i:Nat}(hi:i<al.length) :
  p.isSome=true/\∃(x y:Int)(q:OA)(x' y':Int)(q':OA)(a:Addr),ah p (i*6)=some a/\V.at (a.add 0) (.int .i64 x)/\V.at (a.add 1) (.int .i64 y)/\V.at (a.add 2) (.pointer q)/\V.at (a.add 3) (.int .i64 x')/\V.at (a.add 4) (.int .i64 y')/\V.at (a.add 5) (.pointer q') /\
   EC k V (.agg #[.int .i64 x,.int .i64 y,.pointer q,.int .i64 x',.int .i64 y',.pointer q']) al[i]:=by
 obtain ⟨ad,h0,xs,h1,h2,h3⟩:=h.at_ i hi
 have h20:=h2
 obtain ⟨⟨x,y,q,x',y',q',e,-⟩,-⟩:=h2
 have e:=congrArg Array.toList (Value.agg.inj e)
 dsimp only at e
 subst e
 refine ⟨?_,x,y,q,x',y',q',ad,h0,h3 0 _ rfl,h3 1 _ rfl,h3 2 _ rfl,h3 3 _ rfl,h3 4 _ rfl,h3 5 _ rfl,h20⟩
 cases p with
 | none=>cases h0
 | some a=>rfl
def cd (V:View)(v:Value)(l:L3):Prop:=RL V v l.1 l.2.1 l.2.2
theorem cd.le {V V':View}{v:Value}{l:L3}(h:cd V v l)(e:V.Le V'):cd V' v l:=RL.le h e
theorem bJ {V:View}{v:Value}{l:L3}(h:cd V v l):∃(b1:Bool)(p1:OA)(n1 c1:Nat)(b2:Bool)(p2:OA)(n2 c2:Nat)(b3:Bool)(p3:OA)(n3 c3:Nat),v=.agg #[.bool b1,.slice p1 n1 c1,.bool b2,.slice p2 n2 c2,.bool b3,.slice p3 n3 c3]:=by
 obtain ⟨_,_,_,_,_,_,_,_,_,e,-⟩:=h;exact ⟨_,_,_,_,_,_,_,_,_,_,_,_,e⟩
theorem MI {V:View}{xs:List Value}{l:L3}(h:cd V (.agg (List.toArray xs)) l):∀v∈xs,v.oneCell'=true:=by
 obtain ⟨_,_,_,_,_,_,_,_,_,_,_,_,e⟩:=bJ h
 have e:=congrArg Array.toList (Value.agg.inj e)
 dsimp only at e
 subst e
 intro v hm
 simp only [List.mem_cons,List.not_mem_nil,or_false] at hm
 rcases hm with rfl|rfl|rfl|rfl|rfl|rfl<;>rfl
theorem Ib {b:Bool}{p:OA}{n c:Nat}{b':Bool}{p':OA}{n' c':Nat}{b'':Bool}{p'':OA}{n'' c'':Nat}:∀v∈([.bool b,.slice p n c,.bool b',.slice p' n' c',.bool b'',.slice p'' n'' c'']:List Value),v.oneCell'=true:=by
 intro v hm
 simp only [List.mem_cons,List.not_mem_nil,or_false] at hm
 rcases hm with rfl|rfl|rfl|rfl|rfl|rfl<;>rfl
theorem Mm {V:View}{p:OA}{n:Nat}{al:List L3}(h:cI 9 yV V p n al){i:Nat}(hi:i<al.length) :
  p.isSome=true/\∃(x1 x2:Int)(q1:OA)(y1 y2:Int)(q2:OA)(z1 z2:Int)(q3:OA)(a:Addr),ah p (i*9)=some a/\V.at (a.add 0) (.int .i64 x1)/\V.at (a.add 1) (.int .i64 x2)/\V.at (a.add 2) (.pointer q1)/\V.at (a.add 3) (.int .i64 y1)/\V.at (a.add 4) (.int .i64 y2)/\V.at (a.add 5) (.pointer q2)/\V.at (a.add 6) (.int .i64 z1)/\V.at (a.add 7) (.int .i64 z2)/\V.at (a.add 8) (.pointer q3) /\
   yV V (.agg #[.int .i64 x1,.int .i64 x2,.pointer q1,.int .i64 y1,.int .i64 y2,.pointer q2,.int .i64 z1,.int .i64 z2,.pointer q3]) al[i]:=by
 obtain ⟨ad,h0,xs,h1,h2,h3⟩:=h.at_ i hi
 have h20:=h2
 obtain ⟨_,_,_,_,_,_,_,_,_,e⟩:=h2.shape
 have e:=congrArg Array.toList (Value.agg.inj e)
 dsimp only at e
 subst e
 refine ⟨?_,_,_,_,_,_,_,_,_,_,ad,h0,h3 0 _ rfl,h3 1 _ rfl,h3 2 _ rfl,h3 3 _ rfl,h3 4 _ rfl,h3 5 _ rfl,h3 6 _ rfl,h3 7 _ rfl,h3 8 _ rfl,h20⟩
 cases p with
 | none=>cases h0
 | some a=>rfl
theorem RC {x1 x2:Int}{q1:OA}{y1 y2:Int}{q2:OA}{z1 z2:Int}{q3:OA}:∀v∈([.int .i64 x1,.int .i64 x2,.pointer q1,.int .i64 y1,.int .i64 y2,.pointer q2,.int .i64 z1,.int .i64 z2,.pointer q3]:List Value),v.oneCell'=true:=by
 intro v hm
 simp only [List.mem_cons,List.not_mem_nil,or_false] at hm
 rcases hm with rfl|rfl|rfl|rfl|rfl|rfl|rfl|rfl|rfl<;>rfl
theorem Iq {V:View}{v:Value}{l:L3}(h:oO V v l):∃(b1:Bool)(p1:OA)(n1 c1:Nat)(b2:Bool)(p2:OA)(n2 c2:Nat)(b3:Bool)(p3:OA)(n3 c3:Nat),v=.agg #[.bool b1,.slice p1 n1 c1,.bool b2,.slice p2 n2 c2,.bool b3,.slice p3 n3 c3]:=by
 rcases h with h|⟨-,b1,p,n,c,xs,b2,q,m,e',ys,b3,s,i,j,zs,hv,-⟩
 ·exact bJ h
 ·exact ⟨b1,p,n,c,b2,q,m,e',b3,s,i,j,hv⟩
theorem Mn {V:View}{p:OA}{n:Nat}{al:List L3}(h:cI 6 oO V p n al){i:Nat}(hi:i<al.length) :
  p.isSome=true/\∃(b1:Bool)(p1:OA)(n1 c1:Nat)(b2:Bool)(p2:OA)(n2 c2:Nat)(b3:Bool)(p3:OA)(n3 c3:Nat)(a:Addr),ah p (i*6)=some a/\V.at (a.add 0) (.bool b1)/\V.at (a.add 1) (.slice p1 n1 c1)/\V.at (a.add 2) (.bool b2)/\V.at (a.add 3) (.slice p2 n2 c2)/\V.at (a.add 4) (.bool b3)/\V.at (a.add 5) (.slice p3 n3 c3) /\
   oO V (.agg #[.bool b1,.slice p1 n1 c1,.bool b2,.slice p2 n2 c2,.bool b3,.slice p3 n3 c3]) al[i]:=by
 obtain ⟨ad,h0,xs,h1,h2,h3⟩:=h.at_ i hi
 have h20:=h2
 obtain ⟨_,_,_,_,_,_,_,_,_,_,_,_,e⟩:=Iq h2
 have e:=congrArg Array.toList (Value.agg.inj e)
 dsimp only at e
 subst e
 refine ⟨?_,_,_,_,_,_,_,_,_,_,_,_,_,ad,h0,h3 0 _ rfl,h3 1 _ rfl,h3 2 _ rfl,h3 3 _ rfl,h3 4 _ rfl,h3 5 _ rfl,h20⟩
 cases p with
 | none=>cases h0
 | some a=>rfl
def xT (ls:List L3):Bool:=decide (ls.length<=1024)&&ls.all cS
theorem zv {V:View}{p:OA}{n c:Nat}{ls:List L3}(h:cI 6 oO V p n ls)(hb:∀l∈ls,Bd l) :
  ab prog 65 #[.agg #[.slice p n c]] V fun r V'=>∃q m e,r=.tuple #[.slice q m e,.bool (xT ls)]/\(xT ls=true->cI 9 yV V' q m ls):=by
 obtain rfl:=h.len
 refine wD p _ c V _ ⟨fun hg V1 l1=>?_,fun hg=>⟨fun z V'=>∃i:Nat,z.2.2.2=(i:Int)/\i<=ls.length/\GR 9 yV V' z.1 z.2.1 z.2.2.1 (ls.take i)/\(ls.take i).all cS=true,fun z=>ls.length-z.2.2.2.toNat,⟨(0,0,[],0),by and_intros<;>rfl,0,rfl,Nat.zero_le _,GR.nil,rfl⟩,?_⟩⟩
 ·have hg:¬ls.length<=1024:=by have:=of_decide_eq_true hg;omega
  have e:xT ls=false:=by unfold xT;rw [decide_eq_false hg];rfl
  rw [e]
  exact ⟨_,_,_,rfl,fun h=>by cases h⟩
 have hle:ls.length<=1024:=by have:=of_decide_eq_false hg;omega
 have e0:xT ls=ls.all cS:=by unfold xT;rw [decide_eq_true hle];rfl
 rintro ⟨z1,z2,vs,z4⟩ V2 l2 ⟨i,e4,Ye,hgr,hall⟩
 dsimp only at e4 hgr
 subst e4
 have zl:=hgr.len
 rw [List.length_take] at zl
 refine ⟨rfl,fun hlt=>?_,fun hlt V6 l6 bk hbk=>?_⟩
 ·have hlt:(i:Int)<ls.length:=of_decide_eq_true hlt
  have hi:i<ls.length:=by omega
  have w:i64.wrap ((i:Int)+1)=((i+1:Nat):Int):=by rw [ay (by omega)];rfl
  dsimp only
  rw [Int.toNat_natCast,w]
  obtain ⟨is,b1,p1,n1,c1,b2,p2,n2,c2,b3,p3,n3,c3,a,had,a0,a1,a2,a3,a4,a5,hl1⟩:=Mn (h.le l2 fun _ _ g=>oO.le g l2) hi
  have bd:=hb _ (List.getElem_mem hi)
  refine ⟨is,⟨by omega,by omega⟩,_,_,_,_,_,_,_,_,_,_,_,_,a,had,a0,a1,a2,a3,a4,a5,fun V3 l3=>(AE (hl1.le l3) bd).mono ?_⟩
  rintro r V4 l4 ⟨w4,rfl,⟨_,_,_,_,_,_,_,_,_,rfl⟩,hok⟩
  have hta:(ls.take (i+1)).all cS=cS ls[i]:=by rw [List.take_add_one,List.getElem?_eq_getElem hi,List.all_append,hall];simp
  refine ⟨_,_,_,_,_,_,_,_,_,_,rfl,fun hf V5 l5=>?_,fun hf=>⟨by omega,hgr.le,hgr.cap,rfl,RC,fun sp c' h1 h2=>⟨(z1+1,c',_,((i+1:Nat):Int)),by dsimp only;omega,by and_intros<;>rfl,i+1,rfl,hi,?_,?_⟩⟩⟩
  ·have hf:cS ls[i]=false:=by simpa using hf
   have e:ls.all cS=false:=by
    rw [List.all_eq_false]
    exact ⟨_,List.getElem_mem hi,by rw [hf];exact Bool.false_ne_true⟩
   rw [e0,e]
   exact ⟨_,_,_,rfl,fun h=>by cases h⟩
  ·have hf:cS ls[i]=true:=by simpa using hf
   dsimp only
   rw [List.take_add_one,List.getElem?_eq_getElem hi]
   exact (hgr.mono (V':=V4) fun _ _ g=>yV.le g (l3.trans l4)).snoc rfl ⟨hok hf,bd⟩ (by decide) h1 h2
  ·rw [hta];simpa using hf
 ·have hlt:¬(i:Int)<ls.length:=of_decide_eq_false hlt
  obtain rfl:i=ls.length:=by omega
  rw [List.take_length] at hgr hall
  rw [e0,hall]
  obtain rfl:=hgr.len
  exact ⟨_,_,_,rfl,fun _=>cI.fQ hbk (hgr.row.le fun _ _ g=>yV.le g l6) (by decide) hgr.le⟩
theorem C7 (x:Sd):∀r:List Sd,(mf x r).length=r.length+1
 | []=>rfl
 | s::r=>by
  unfold mf
  split
  ·rw [List.length_cons,C7 x r,List.length_cons]
  ·rfl
theorem zJ {c c':List Sd}{l:L3}(e:fW c l=some c'):c'.length<=c.length+1:=by
 unfold fW at e
 split at e
 ·cases e
  rw [C7]
  have:=uR c l
  omega
 ·split at e
  ·cases e;omega
  ·cases e
theorem CE (l:L3)(r M:List L3)(c:List Sd):bq (l::r) M c=match fW c l with|some c'=>bq r (l::M) c'|none=>none:=rfl
theorem oY {V:View}{p:OA}{n c:Nat}{ls:List L3}(h:cI 9 yV V p n ls)(ho:∀l∈ls,cS l=true)(hn:ls.length<=2000) :
  ab prog 66 #[.slice p n c] V fun r V'=>∃q m e,r=.tuple #[.slice q m e,.bool (bq ls [] []).isSome]/\(bq ls [] []=none->r=.tuple #[.slice none 0 0,.bool false])/\(∀c',bq ls [] []=some c'->cI 17 fE V' q m c'/\m<=e):=by
 obtain rfl:=h.len
 refine BM p _ c V _ ⟨fun z V'=>∃(i:Nat)(M:List L3)(cs:List Sd),z.2.2.2.2=(i:Int)/\i<=ls.length/\z.2.2.2.1=true/\bq ls [] []=bq (ls.drop i) M cs/\iE M cs/\(∀m∈M,cS m=true)/\cs.length<=i/\cI 17 fE V' z.1 z.2.1 cs/\z.2.1<=z.2.2.1,fun z=>ls.length-z.2.2.2.2.toNat,
  ⟨(none,0,0,true,0),by and_intros<;>rfl,0,[],[],rfl,Nat.zero_le _,rfl,rfl,iE.nil,(fun m hm=>by cases hm),Nat.le_refl _,cI.nil,Nat.le_refl _⟩,?_⟩
 rintro ⟨zp,zn,zc,zb,zi⟩ V1 l1 ⟨i,M,cs,e1,Ye,e2,hcan,hC,hM,hcl,hL,hcap⟩
 dsimp only at e1 e2 hL hcap
 subst e1 e2
 refine ⟨rfl,fun hlt=>?_,fun hlt=>⟨(fun hf=>by cases hf),fun _ V7 l7=>?_⟩⟩
 ·have hlt:(i:Int)<ls.length:=of_decide_eq_true hlt
  have hi:i<ls.length:=by omega
  have w:i64.wrap ((i:Int)+1)=((i+1:Nat):Int):=by rw [ay (by omega)];rfl
  dsimp only
  rw [Int.toNat_natCast,w]
  obtain ⟨is,x1,x2,q1,y1,y2,q2,z1,z2,q3,a,had,a0,a1,a2,a3,a4,a5,a6,a7,a8,hl1⟩:=Mm (h.le l1 fun _ _ g=>yV.le g l1) hi
  have ok:=ho _ (List.getElem_mem hi)
  have ed:ls.drop i=ls[i]::ls.drop (i+1):=List.drop_eq_getElem_cons hi
  rw [ed,CE] at hcan
  refine ⟨is,⟨by omega,by omega⟩,_,_,_,_,_,_,_,_,_,a,had,a0,a1,a2,a3,a4,a5,a6,a7,a8,fun V2 l2=>(Cs (hL.le l2 fun _ _ g=>fE.le g l2) (hl1.le l2).1 hl1.2 (by omega) hC.rH).mono ?_⟩
  rintro r V3 l3 ⟨q,m,e,rfl,hr⟩
  refine ⟨_,_,_,_,rfl,fun hf=>⟨fun _ V4 l4=>?_,fun hf'=>by rw [hf] at hf';cases hf'⟩,fun hf=>?_⟩
  ·have hf:fW cs ls[i]=none:=by simpa using hf
   rw [hf] at hcan
   have hcan:bq ls [] []=none:=hcan
   rw [hcan]
   exact ⟨none,0,0,rfl,fun _=>rfl,fun c' e=>by cases e⟩
  ·have hf:(fW cs ls[i]).isSome=true:=by simpa using hf
   obtain ⟨c',e'⟩:=Option.isSome_iff_exists.1 hf
   rw [e'] at hcan
   have hcan:bq ls [] []=bq (ls.drop (i+1)) (ls[i]::M) c':=hcan
   refine ⟨(q,m,e,(fW cs ls[i]).isSome,((i+1:Nat):Int)),by dsimp only;omega,by and_intros<;>rfl,i+1,ls[i]::M,c',rfl,hi,hf,hcan,(Gy hC hM ok).1 c' e',List.forall_mem_cons.2 ⟨ok,hM⟩,?_,(hr c' e').1,(hr c' e').2 hcap⟩
   have:=zJ e'
   omega
 ·have hlt:¬(i:Int)<ls.length:=of_decide_eq_false hlt
  obtain rfl:i=ls.length:=by omega
  rw [List.drop_length] at hcan
  have hcan:bq ls [] []=some cs:=hcan
  rw [hcan]
  refine ⟨zp,zn,zc,rfl,(fun h=>by cases h),fun c' e=>?_⟩
  cases e
  exact ⟨hL.le l7 fun _ _ g=>fE.le g l7,hcap⟩
theorem EK {V:View}{p:OA}{n c:Nat}{cs:List Sd}(h:cI 17 fE V p n cs)(hn:cs.length<=100000) :
  ab prog 70 #[.slice p n c] V fun r V'=>∃q m e,r=.agg #[.slice q m e]/\cI 6 cd V' q m (cs.map Prod.fst)/\m<=e:=by
 obtain rfl:=h.len
 refine s_ p _ c V _ ⟨fun z V'=>∃j:Nat,z.1=(j:Int)/\j<=cs.length/\GR 6 cd V' z.2.1 z.2.2.1 z.2.2.2 ((cs.map Prod.fst).take j),fun z=>cs.length-z.1.toNat,⟨(0,0,0,[]),by and_intros<;>rfl,0,rfl,Nat.zero_le _,GR.nil⟩,?_⟩
 rintro ⟨z1,z2,z3,vs⟩ V1 l1 ⟨j,e4,H7,hg⟩
 dsimp only at e4 hg
 subst e4
 have zl:=hg.len
 rw [List.length_take,List.length_map] at zl
 refine ⟨rfl,fun hlt=>?_,fun hlt V4 l4 bk hb=>?_⟩
 ·have hlt:(j:Int)<cs.length:=of_decide_eq_true hlt
  have hi:j<cs.length:=by omega
  have w:i64.wrap ((j:Int)+1)=((j+1:Nat):Int):=by rw [ay (by omega)];rfl
  dsimp only
  rw [Int.toNat_natCast,w]
  obtain ⟨ps,a1,a2,a3,a4,a5,a6,a7,a8,a9,b1,b2,b3,b4,b5,b6,a,ha,k0,k1,k2,k3,k4,k5,k6,k7,k8,k9,k10,k11,k12,k13,k14,k15,k16,hr⟩:=im (h.le l1 fun _ _ g=>fE.le g l1) hi
  obtain ⟨rl,ri,-,-⟩:=hr.both
  obtain ⟨s1,s2,s3⟩:=hr.2.1.sz
  refine ⟨ps,⟨by omega,by omega⟩,_,_,_,_,_,_,_,_,_,_,_,_,_,_,_,_,_,a,ha,k0,k1,k2,k3,k4,k5,k6,k7,k8,k9,k10,k11,k12,k13,k14,k15,k16,fun V2 l2=>(HB (rl.le l2) s1 s2 s3 (by omega)).mono ?_⟩
  rintro r V3 l3 gr
  have g0:cd V3 r cs[j].1:=ue.Zu gr
  obtain ⟨_,_,_,_,_,_,_,_,_,_,_,_,rfl⟩:=bJ g0
  refine ⟨_,_,_,_,_,_,_,_,_,_,_,_,rfl,by omega,hg.le,hg.cap,rfl,Ib,fun sp c' h1 h2=>⟨(((j+1:Nat):Int),z2+1,c',_),by dsimp only;omega,by and_intros<;>rfl,j+1,rfl,hi,?_⟩⟩
  dsimp only
  rw [List.take_add_one,List.getElem?_map,List.getElem?_eq_getElem hi]
  exact (hg.mono (V':=V3) fun _ _ g=>cd.le g (l2.trans l3)).snoc rfl g0 (by decide) h1 h2
 ·have hlt:¬(j:Int)<cs.length:=of_decide_eq_false hlt
  obtain rfl:j=cs.length:=by omega
  rw [List.take_of_length_le (by rw [List.length_map];exact Nat.le_refl _)] at hg
  obtain rfl:=hg.len
  exact ⟨_,_,_,rfl,cI.fQ hb (hg.row.le fun _ _ g=>cd.le g l4) (by decide) hg.le,hg.le⟩
def Co (c:List Sd):Bool:=decide (c≠[])&&c.all fun s=>!s.2.a&&!s.2.b
theorem ux {V:View}{p:OA}{n c:Nat}{cs:List Sd}(h:cI 17 fE V p n cs)(hn:cs.length<=100000) :
  ab prog 81 #[.slice p n c] V fun r V'=>r=.bool (Co cs):=by
 obtain rfl:=h.len
 refine nB p _ c V _ ⟨fun z V'=>∃j:Nat,z=(j:Int)/\j<=cs.length/\((cs.take j).all fun s=>!s.2.a&&!s.2.b)=true,fun z=>cs.length-z.toNat,⟨0,by and_intros<;>rfl,0,rfl,Nat.zero_le _,rfl⟩,?_⟩
 rintro z1 V1 l1 ⟨j,rfl,H7,hall⟩
 refine ⟨rfl,fun hlt=>?_,fun hlt V4 l4=>?_⟩
 ·have hlt:(j:Int)<cs.length:=of_decide_eq_true hlt
  have hi:j<cs.length:=by omega
  have w:i64.wrap ((j:Int)+1)=((j+1:Nat):Int):=by rw [ay (by omega)];rfl
  rw [Int.toNat_natCast,w]
  obtain ⟨ps,a1,a2,a3,a4,a5,a6,a7,a8,a9,b1,b2,b3,b4,b5,b6,a,ha,k0,k1,k2,k3,k4,k5,k6,k7,k8,k9,k10,k11,k12,k13,k14,k15,k16,hr⟩:=im (h.le l1 fun _ _ g=>fE.le g l1) hi
  have bad:(cs[j].2.a=true\/cs[j].2.b=true)->Co cs=false:=fun xQ=>by
   unfold Co
   rw [Bool.and_eq_false_iff,List.all_eq_false]
   refine .inr ⟨_,List.getElem_mem hi,?_⟩
   rcases xQ with h|h<;>simp [h]
  refine ⟨ps,⟨by omega,by omega⟩,_,_,_,_,_,_,_,_,_,_,_,_,_,_,_,_,_,a,ha,k0,k1,k2,k3,k4,k5,k6,k7,k8,k9,k10,k11,k12,k13,k14,k15,k16,fun h1 V2 l2=>by rw [bad (.inl h1)],fun h1=>⟨fun h2 V3 l3=>by rw [bad (.inr h2)],fun h2=>⟨((j+1:Nat):Int),by dsimp only;omega,by and_intros<;>rfl,j+1,rfl,hi,?_⟩⟩⟩
  rw [List.take_add_one,List.getElem?_eq_getElem hi,List.all_append,hall]
  simp [h1,h2]
 ·have hlt:¬(j:Int)<cs.length:=of_decide_eq_false hlt
  obtain rfl:j=cs.length:=by omega
  rw [List.take_length] at hall
  unfold Co
  rw [hall,Bool.and_true]
  congr 1
  cases cs with
  | nil=>rfl
  | cons s r=>simp
def Ev (S:List L3)(i:Nat):Option aq.V2:=if 0<aq.cr (aq.ax (S.getD i (0,0,0))) (aq.ax (S.getD ((i+1)%S.length) (0,0,0))) then some (GX (S.getD i (0,0,0)) (S.getD ((i+1)%S.length) (0,0,0)),GY (S.getD i (0,0,0)) (S.getD ((i+1)%S.length) (0,0,0))) else none
theorem MZ (S:List L3):nD S=(List.range S.length).filterMap (Ev S):=rfl
theorem Ew (S:List L3)(i:Nat):(List.range (i+1)).filterMap (Ev S)=(List.range i).filterMap (Ev S)++(Ev S i).toList:=by
 rw [List.range_succ,List.filterMap_append]
 congr 1
theorem Hm (S:List L3):(nD S).length<=S.length:=by
 have:=List.length_filterMap_le (Ev S) (List.range S.length)
 rw [List.length_range] at this
 exact this
theorem ju {α:Type}{l:List α}{i:Nat}{d:α}(h:i<l.length):l.getD i d=l[i]:=by rw [List.getD_eq_getElem?_getD,List.getElem?_eq_getElem h];rfl
theorem CI (l m:L3):aq.cr (aq.ax l) (aq.ax m)=aU l m:=by unfold aq.cr aq.ax aU;grind
theorem lG {V:View}{p:OA}{n c:Nat}{cs:List Sd}(h:cI 17 fE V p n cs)(hn:cs.length<=100000) :
  ab prog 79 #[.slice p n c] V fun r V'=>∃q m e,r=.slice q m e/\cI 6 (EC 20000) V' q m (nD (cs.map Prod.fst)):=by
 obtain rfl:=h.len
 have hml:(cs.map Prod.fst).length=cs.length:=List.length_map ..
 refine mL p _ c V _ ⟨fun z V'=>∃j:Nat,z.2.2.2=(j:Int)/\j<=cs.length/\z.1<=j/\GR 6 (EC 20000) V' z.1 z.2.1 z.2.2.1 ((List.range j).filterMap (Ev (cs.map Prod.fst))),fun z=>cs.length-z.2.2.2.toNat,⟨(0,0,[],0),by and_intros<;>first|rfl|trivial,0,rfl,Nat.zero_le _,Nat.le_refl _,GR.nil⟩,?_⟩
 rintro ⟨z1,z2,vs,z4⟩ V1 l1 ⟨j,e4,H7,Ti,hg⟩
 dsimp only at e4 hg Ti
 subst e4
 refine ⟨rfl,fun hlt=>?_,fun hlt lS cg bk hb=>?_⟩
 ·have hlt:(j:Int)<cs.length:=of_decide_eq_true hlt
  have hi:j<cs.length:=by omega
  have w:i64.wrap ((j:Int)+1)=((j+1:Nat):Int):=by rw [ay (by omega)];rfl
  have hm:(((j+1:Nat):Int)).tmod (cs.length:Int)=(((j+1)%cs.length:Nat):Int):=by rw [Int.ofNat_tmod]
  have hk:(j+1)%cs.length<cs.length:=Nat.mod_lt _ (by omega)
  dsimp only
  rw [w,hm]
  simp only [Int.toNat_natCast]
  obtain ⟨ps,a1,a2,a3,a4,a5,a6,a7,a8,a9,b1,b2,b3,b4,b5,b6,a,ha,k0,k1,k2,k3,k4,k5,k6,k7,k8,k9,k10,k11,k12,k13,k14,k15,k16,hr⟩:=im (h.le l1 fun _ _ g=>fE.le g l1) hi
  obtain ⟨rl,-,-,-⟩:=hr.both
  obtain ⟨-,c1,c2,c3,c4,c5,c6,c7,c8,c9,d1,d2,d3,d4,d5,d6,aa,Z8,m0,m1,m2,m3,m4,m5,m6,m7,m8,m9,m10,m11,m12,m13,m14,m15,m16,hr'⟩:=im (h.le l1 fun _ _ g=>fE.le g l1) hk
  obtain ⟨rl',-,-,-⟩:=hr'.both
  have sl:=hr.2.1
  have sl':=hr'.2.1
  have ev:Ev (cs.map Prod.fst) j=if 0<aU cs[j].1 cs[(j+1)%cs.length].1 then some (GX cs[j].1 cs[(j+1)%cs.length].1,GY cs[j].1 cs[(j+1)%cs.length].1) else none:=by
   unfold Ev
   rw [hml,ju (by omega:j<(cs.map Prod.fst).length),ju (by omega:(j+1)%cs.length<(cs.map Prod.fst).length),List.getElem_map,List.getElem_map,CI]
  generalize cs[j]=S at *
  generalize cs[(j+1)%cs.length]=T at *
  refine ⟨ps,⟨by omega,by omega⟩,_,_,_,_,_,_,_,_,_,_,_,_,_,_,_,_,_,a,ha,k0,k1,k2,k3,k4,k5,k6,k7,k8,k9,k10,k11,k12,k13,k14,k15,k16,by omega,ps,⟨by omega,by omega⟩,_,_,_,_,_,_,_,_,_,_,_,_,_,_,_,_,_,aa,Z8,m0,m1,m2,m3,m4,m5,m6,m7,m8,m9,m10,m11,m12,m13,m14,m15,m16,fun V2 l2=>(GO (rl.le l2) sl).mono ?_⟩
  rintro r V3 l3 g1
  have g10:=g1
  obtain ⟨_,_,_,_,_,_,rfl,-,-⟩:=g1
  refine ⟨_,_,_,_,_,_,rfl,fun V4 l4=>(GO (rl'.le (l2.trans (l3.trans l4))) sl').mono ?_⟩
  rintro r V5 l5 g2
  have g20:=g2
  obtain ⟨_,_,_,_,_,_,rfl,-,-⟩:=g2
  refine ⟨_,_,_,_,_,_,rfl,fun V6 l6=>(fJ (g10.le (l4.trans (l5.trans l6))) (g20.le l6) (iY sl).1 (iY sl).2 (iY sl').1 (iY sl').2 (by omega)).mono ?_⟩
  rintro r V7 l7 g3
  have kE:RR V7 r (aU S.1 T.1):=by rw [←CI];exact g3
  obtain ⟨_,_,_,rfl⟩:=kE.shape
  refine ⟨_,_,_,rfl,fun V8 l8=>(eQ (kE.le l8) (k:=5000) ((pY sl.kF sl'.kF).mono (by omega)) (by omega)).mono ?_⟩
  rintro r V9 l9 rfl
  have dI:V1.Le V9:=l2.trans (l3.trans (l4.trans (l5.trans (l6.trans (l7.trans (l8.trans l9))))))
  refine ⟨_,rfl,fun hc jk l10=>(HA (rl.le (dI.trans l10)) (rl'.le (dI.trans l10)) sl.kF sl'.kF (by omega)).mono ?_,fun hc=>⟨(z1,z2,vs,((j+1:Nat):Int)),by dsimp only;omega,by and_intros<;>first|rfl|trivial,j+1,rfl,hi,by dsimp only;omega,?_⟩⟩
  ·have hc:0<aU S.1 T.1:=aq.my.1 (of_decide_eq_true hc)
   rintro r jh bK ⟨YD,rfl,⟨_,_,_,_,_,_,rfl⟩,hme⟩
   have gm:=hme (by grind)
   obtain ⟨sx,sy⟩:=Sb sl.kF sl'.kF
   refine ⟨_,_,_,_,_,_,_,rfl,by omega,hg.le,hg.cap,rfl,RB,fun sp c' h1 h2=>⟨(z1+1,c',_,((j+1:Nat):Int)),by dsimp only;omega,by and_intros<;>first|rfl|trivial,j+1,rfl,hi,by dsimp only;omega,?_⟩⟩
   dsimp only
   rw [Ew,ev,if_pos hc]
   exact (hg.mono (V':=jh) fun _ _ g=>EC.le g (dI.trans (l10.trans bK))).snoc (a:=(GX S.1 T.1,GY S.1 T.1)) rfl ⟨gm,sx.mono (by omega),sy.mono (by omega)⟩ (by decide) h1 h2
  ·have hc:¬0<aU S.1 T.1:=fun h=>of_decide_eq_false hc (aq.my.2 h)
   dsimp only
   rw [Ew,ev,if_neg hc,Option.toList_none,List.append_nil]
   exact hg.mono fun _ _ g=>EC.le g dI
 ·have hlt:¬(j:Int)<cs.length:=of_decide_eq_false hlt
  obtain rfl:j=cs.length:=by omega
  rw [←hml,←MZ] at hg
  obtain rfl:=hg.len
  exact ⟨_,_,_,rfl,cI.fQ hb (hg.row.le fun _ _ g=>EC.le g cg) (by decide) hg.le⟩
def Si (l:List aq.V2)(k:Nat):Rat:=((List.range k).map fun i=>aq.cr (l.getD i (0,0)) (l.getD ((i+1)%l.length) (0,0))).sum
theorem DW (l:List aq.V2)(k:Nat):Si l (k+1)=Si l k+aq.cr (l.getD k (0,0)) (l.getD ((k+1)%l.length) (0,0)):=by
 unfold Si
 rw [List.range_succ,List.map_append,List.sum_append]
 simp [Rat.add_zero]
theorem EP {V:View}{p:OA}{n c:Nat}{l:List aq.V2}(h:cI 6 (EC 20000) V p n l)(hn:l.length<=100000) :
  ab prog 139 #[.slice p n c] V fun r V'=>RR V' r (tw l*((2:Int):Rat)⁻¹)/\Sz (100000*l.length+10) (tw l*((2:Int):Rat)⁻¹):=by
 obtain rfl:=h.len
 have step:∀k,k<=l.length->(∀i,i<l.length->Sz 20000 (l.getD i (0,0)).1/\Sz 20000 (l.getD i (0,0)).2)->Sz (100000*k+4) (Si l k):=by
  intro k
  induction k with
  | zero=>exact fun _ _=>MV _ (by omega)
  | succ k ih=>
   intro hk hs
   rw [DW]
   obtain ⟨s1,s2⟩:=hs k (by omega)
   obtain ⟨s3,s4⟩:=hs _ (Nat.mod_lt (k+1) (show l.length>0 by omega))
   exact ((ih (by omega) hs).add ((s1.mul s4).sub (s2.mul s3))).mono (by omega)
 have hsz:∀i,i<l.length->Sz 20000 (l.getD i (0,0)).1/\Sz 20000 (l.getD i (0,0)).2:=fun i hi=>by
  obtain ⟨-,_,_,_,_,_,_,_,-,-,-,-,-,-,-,g⟩:=pH h hi
  rw [ju hi]
  exact g.2
 refine D5 p _ c V _ ⟨fun z V'=>∃j:Nat,z.1=(j:Int)/\j<=l.length/\RR V' (.agg #[.int .i64 z.2.1,.int .i64 z.2.2.1,.pointer z.2.2.2]) (Si l j),fun z=>l.length-z.1.toNat,⟨(0,0,0,none),by and_intros<;>first|rfl|trivial,0,rfl,Nat.zero_le _,RR.zero _⟩,?_⟩
 rintro ⟨z1,z2,z3,z4⟩ V1 l1 ⟨j,e4,H7,hg⟩
 dsimp only at e4 hg
 subst e4
 refine ⟨rfl,fun hlt=>?_,fun hlt V6 l6=>?_⟩
 ·have hlt:(j:Int)<l.length:=of_decide_eq_true hlt
  have hi:j<l.length:=by omega
  have w:i64.wrap ((j:Int)+1)=((j+1:Nat):Int):=by rw [ay (by omega)];rfl
  have hm:(((j+1:Nat):Int)).tmod (l.length:Int)=(((j+1)%l.length:Nat):Int):=by rw [Int.ofNat_tmod]
  have hk:(j+1)%l.length<l.length:=Nat.mod_lt _ (by omega)
  dsimp only
  rw [w,hm]
  simp only [Int.toNat_natCast]
  obtain ⟨ps,x,y,q,x',y',q',a,ha,a0,a1,a2,a3,a4,a5,gu⟩:=pH (h.le l1 fun _ _ g=>EC.le g l1) hi
  obtain ⟨-,u,v,t,u',v',t',b,hb,b0,b1,b2,b3,b4,b5,gw⟩:=pH (h.le l1 fun _ _ g=>EC.le g l1) hk
  have et:=DW l j
  rw [ju hi,ju hk] at et
  have sj:=step j H7 hsz
  generalize l[j]=S at *
  generalize l[(j+1)%l.length]=T at *
  refine ⟨ps,⟨by omega,by omega⟩,_,_,_,_,_,_,a,ha,a0,a1,a2,a3,a4,a5,by omega,ps,⟨by omega,by omega⟩,_,_,_,_,_,_,b,hb,b0,b1,b2,b3,b4,b5,fun V2 l2=>(fJ (gu.1.le l2) (gw.1.le l2) gu.2.1 gu.2.2 gw.2.1 gw.2.2 (by omega)).mono ?_⟩
  rintro r V3 l3 g3
  have kE:RR V3 r (aq.cr S T):=g3
  obtain ⟨_,_,_,rfl⟩:=kE.shape
  refine ⟨_,_,_,rfl,fun V4 l4=>(jm (hg.le (l2.trans (l3.trans l4))) (kE.le l4) sj ((gu.2.1.mul gw.2.2).sub (gu.2.2.mul gw.2.1)) (by omega)).mono ?_⟩
  rintro r V5 l5 g5
  have Js:=g5
  obtain ⟨_,_,_,rfl⟩:=g5.shape
  exact ⟨_,_,_,rfl,(((j+1:Nat):Int),_,_,_),by dsimp only;omega,by and_intros<;>first|rfl|trivial,j+1,rfl,hi,by rw [et];exact Js⟩
 ·have hlt:¬(j:Int)<l.length:=of_decide_eq_false hlt
  obtain rfl:j=l.length:=by omega
  have sj:=step l.length (Nat.le_refl _) hsz
  refine (Cv (hg.le l6) sj (by omega)).mono ?_
  rintro r V7 l7 g7
  have Jt:=g7
  obtain ⟨_,_,_,rfl⟩:=g7.shape
  exact ⟨_,_,_,rfl,fun V8 l8=>⟨Jt.le l8,(sj.mul (dh ua)).mono (by omega)⟩⟩
theorem Cr {V:View}{p:OA}{n c:Nat}{cs:List Sd}(h:cI 17 fE V p n cs)(hn:cs.length<=100000) :
  ab prog 82 #[.slice p n c] V fun r V'=>RR V' r (tw (nD (cs.map Prod.fst))*((2:Int):Rat)⁻¹)/\Sz 10000000010 (tw (nD (cs.map Prod.fst))*((2:Int):Rat)⁻¹):=by
 refine rm p n c V _ fun V1 l1=>(lG (h.le l1 fun _ _ g=>fE.le g l1) hn).mono ?_
 rintro r V2 l2 ⟨q,m,e,rfl,g⟩
 have vl:=Hm (cs.map Prod.fst)
 rw [List.length_map] at vl
 refine ⟨_,_,_,rfl,fun V3 l3=>(EP (g.le l3 fun _ _ g=>EC.le g l3) (by omega)).mono ?_⟩
 rintro r V4 l4 ⟨g4,s4⟩
 have E7:=g4
 obtain ⟨_,_,_,rfl⟩:=g4.shape
 exact ⟨_,_,_,rfl,fun V5 l5=>⟨E7.le l5,s4.mono (by omega)⟩⟩
structure Er (V:View) (yi ye yu:Value):Prop where
 inv:Cd V 0 yi
 emp:Cd V 1 ye
 Yy:Cd V 2 yu
 si:EE yi
 se:EE ye
 su:EE yu
theorem Er.le {V V':View}{yi ye yu:Value}(h:Er V yi ye yu)(l:V.Le V'):Er V' yi ye yu:=⟨h.inv.le l,h.emp.le l,h.Yy.le l,h.si,h.se,h.su⟩
theorem rU {y:Value}(h:EE y):IsIface y/\cx y=false:=by obtain ⟨a,rfl⟩:=h;exact ⟨.inr ⟨_,_,rfl⟩,rfl⟩
theorem ij:IsIface .nilIface/\cx .nilIface=true:=⟨.inl rfl,rfl⟩
def Ce (ls:List L3)(bad S3:Prop)(some_:List Sd->Prop):Prop:=(xT ls=false/\bad)\/(xT ls=true/\bq ls [] []=none/\S3)\/(xT ls=true/\∃c,bq ls [] []=some c/\some_ c)
theorem Ce.bad {ls:List L3}{p q:Prop}{s:List Sd->Prop}(h:Ce ls p q s)(e:xT ls=false):p:=by
 rcases h with ⟨-,h⟩|⟨h,-⟩|⟨h,-⟩
 ·exact h
 ·rw [e] at h;cases h
 ·rw [e] at h;cases h
theorem Ce.S3 {ls:List L3}{p q:Prop}{s:List Sd->Prop}(h:Ce ls p q s)(e:xT ls=true)(e':bq ls [] []=none):q:=by
 rcases h with ⟨h,-⟩|⟨-,-,h⟩|⟨-,c,h,-⟩
 ·rw [e] at h;cases h
 ·exact h
 ·rw [e'] at h;cases h
theorem Ce.some {ls:List L3}{p q:Prop}{s:List Sd->Prop}{c:List Sd}(h:Ce ls p q s)(e:xT ls=true)(e':bq ls [] []=Option.some c):s c:=by
 rcases h with ⟨h,-⟩|⟨-,h,-⟩|⟨-,c',h,h'⟩
 ·rw [e] at h;cases h
 ·rw [e'] at h;cases h
 ·rw [e'] at h;cases h;exact h'
theorem Ce.imp {ls:List L3}{p q p' q':Prop}{s s':List Sd->Prop}(h:Ce ls p q s)(hp:p->p')(hq:q->q')(hs:∀c,bq ls [] []=Option.some c->s c->s' c):Ce ls p' q' s':=by
 rcases h with ⟨h,h'⟩|⟨h,h1,h'⟩|⟨h,c,h1,h'⟩
 ·exact .inl ⟨h,hp h'⟩
 ·exact .inr (.inl ⟨h,h1,hq h'⟩)
 ·exact .inr (.inr ⟨h,c,h1,hs c h1 h'⟩)
theorem mZ {ls:List L3}(h:xT ls=true):ls.length<=1024/\∀l∈ls,cS l=true:=by
 unfold xT at h
 rw [Bool.and_eq_true,decide_eq_true_eq,List.all_eq_true] at h
 exact h
theorem O7 {ls:List L3}(h:ls.length<=1024)(h':∀l∈ls,cS l=true):xT ls=true:=by
 unfold xT
 rw [decide_eq_true h,List.all_eq_true.2 h'];rfl
theorem zI:∀{ls M:List L3} {c c':List Sd},bq ls M c=some c'->c'.length<=c.length+ls.length
 | [],_,_,_,e=>by cases e;simp
 | l::r,M,c,c',e=>by
  unfold bq at e
  cases h:fW c l with
  | none=>rw [h] at e;cases e
  | some c1=>
   rw [h] at e
   have:=zI e
   have:=zJ h
   rw [List.length_cons];omega
theorem uN {ls:List L3}{c:List Sd}(e:bq ls [] []=some c)(h:xT ls=true):c.length<=100000:=by
 have:=zI e
 have:=(mZ h).1
 rw [List.length_nil] at *
 omega
def YT (V':View)(r:Value)(ls:List L3)(yi ye:Value):Prop:=Ce ls (r=.tuple #[.slice none 0 0,yi]) (r=.tuple #[.slice none 0 0,ye]) fun cs=>(∃q m e,r=.tuple #[.slice q m e,.nilIface]/\cI 17 fE V' q m cs/\m<=e)/\iE ls.reverse cs/\cs.length<=100000
theorem gH {V:View}{p:OA}{n c:Nat}{ls:List L3}(h:cI 6 oO V p n ls)(hb:∀l∈ls,Bd l){yi ye yu:Value}(E:Er V yi ye yu) :
  ab prog 69 #[.agg #[.slice p n c]] V fun r V'=>YT V' r ls yi ye:=by
 refine wo p n c V _ fun V1 l1=>(zv (h.le l1 fun _ _ g=>oO.le g l1) hb).mono ?_
 rintro r V2 l2 ⟨q,m,e,rfl,g⟩
 have L2:=l1.trans l2
 refine ⟨_,_,_,_,rfl,fun ho=>⟨yi,⟨_,rfl,(E.le L2).inv⟩,fun V3 l3=>.inl ⟨by simpa using ho,rfl⟩⟩,fun ho V4 l4=>?_⟩
 have ho:xT ls=true:=by simpa using ho
 have hg:=g ho
 refine (oY (hg.le l4 fun _ _ g=>yV.le g l4) (mZ ho).2 (by have:=(mZ ho).1;omega)).mono ?_
 rintro r V5 l5 ⟨q',m',e',rfl,hn,hs⟩
 refine ⟨_,_,_,_,rfl,fun hf=>⟨ye,⟨_,rfl,(E.le (L2.trans (l4.trans l5))).emp⟩,fun V6 l6=>.inr (.inl ⟨ho,by simpa using hf,rfl⟩)⟩,fun hf V7 l7=>?_⟩
 have hf:(bq ls [] []).isSome=true:=by simpa using hf
 obtain ⟨cs,hc⟩:=Option.isSome_iff_exists.1 hf
 have hC:=(uO iE.nil (fun m hm=>by cases hm) (mZ ho).2).1 cs hc
 rw [List.append_nil] at hC
 exact .inr (.inr ⟨ho,cs,hc,⟨_,_,_,rfl,(hs cs hc).1.le l7 fun _ _ g=>fE.le g l7,(hs cs hc).2⟩,hC,uN hc ho⟩)
theorem uz {V:View}{p:OA}{n c:Nat}{ls:List L3}(h:cI 6 oO V p n ls)(hb:∀l∈ls,Bd l){yi ye yu:Value}(E:Er V yi ye yu) :
  ab prog 18 #[.agg #[.slice p n c]] V fun r V'=>Ce ls (r=.tuple #[.agg #[.slice none 0 0],yi]) (r=.tuple #[.agg #[.slice none 0 0],ye]) fun cs=>∃q m e,r=.tuple #[.agg #[.slice q m e],.nilIface]/\cI 6 cd V' q m (cs.map Prod.fst)/\m<=e:=by
 refine sS p n c V _ fun V1 l1=>(gH (h.le l1 fun _ _ g=>oO.le g l1) hb (E.le l1)).mono ?_
 rintro r V2 l2 (⟨ho,rfl⟩|⟨ho,hc,rfl⟩|⟨ho,cs,hc,⟨q,m,e,rfl,hL,-⟩,hC,hl⟩)
 ·obtain ⟨i1,i2⟩:=rU E.si
  exact ⟨_,_,_,_,rfl,i1,fun _ V3 l3=>.inl ⟨ho,rfl⟩,fun hf=>by rw [i2] at hf;cases hf⟩
 ·obtain ⟨i1,i2⟩:=rU E.se
  exact ⟨_,_,_,_,rfl,i1,fun _ V3 l3=>.inr (.inl ⟨ho,hc,rfl⟩),fun hf=>by rw [i2] at hf;cases hf⟩
 ·refine ⟨_,_,_,_,rfl,ij.1,(fun hf=>by cases hf),fun _ V4 l4=>(EK (hL.le l4 fun _ _ g=>fE.le g l4) hl).mono ?_⟩
  rintro r V5 l5 ⟨q',m',e',rfl,g,hm⟩
  exact ⟨_,_,_,rfl,fun V6 l6=>.inr (.inr ⟨ho,cs,hc,_,_,_,rfl,g.le l6 fun _ _ g=>cd.le g l6,hm⟩)⟩
def fY (V:View)(v:Value)(c:Rat×Rat):Prop:=IU V v c.1 c.2
theorem fY.le {V V':View}{v:Value}{c:Rat×Rat}(h:fY V v c)(l:V.Le V'):fY V' v c:=IU.le h l
theorem NJ {b:Bool}{p:OA}{n c:Nat}{p':OA}{n' c':Nat}{d:Bool}{q:OA}{m e:Nat}{q':OA}{m' e':Nat}:∀v∈([.bool b,.slice p n c,.slice p' n' c',.bool d,.slice q m e,.slice q' m' e']:List Value),v.oneCell'=true:=by
 intro v hm
 simp only [List.mem_cons,List.not_mem_nil,or_false] at hm
 rcases hm with rfl|rfl|rfl|rfl|rfl|rfl<;>rfl
theorem oZ {V:View}{p:OA}{n c:Nat}{ls:List L3}(h:cI 6 oO V p n ls)(hb:∀l∈ls,Bd l){yi ye yu:Value}(E:Er V yi ye yu) :
  ab prog 23 #[.agg #[.slice p n c]] V fun r V'=>Ce ls (r=.tuple #[.slice none 0 0,yi]) (r=.tuple #[.slice none 0 0,ye]) fun cs=>∃q m e,r=.tuple #[.slice q m e,.nilIface]/\cI 6 fY V' q m (nD (cs.map Prod.fst))/\∀x∈nD (cs.map Prod.fst),Sz 20000 x.1/\Sz 20000 x.2:=by
 refine oD p n c V _ fun V1 l1=>(gH (h.le l1 fun _ _ g=>oO.le g l1) hb (E.le l1)).mono ?_
 rintro r V2 l2 (⟨ho,rfl⟩|⟨ho,hc,rfl⟩|⟨ho,cs,hc,⟨q,m,e,rfl,hL,-⟩,hC,hl⟩)
 ·obtain ⟨i1,i2⟩:=rU E.si
  exact ⟨_,_,_,_,rfl,i1,fun _ V3 l3=>.inl ⟨ho,rfl⟩,fun hf=>by rw [i2] at hf;cases hf⟩
 ·obtain ⟨i1,i2⟩:=rU E.se
  exact ⟨_,_,_,_,rfl,i1,fun _ V3 l3=>.inr (.inl ⟨ho,hc,rfl⟩),fun hf=>by rw [i2] at hf;cases hf⟩
 ·refine ⟨_,_,_,_,rfl,ij.1,(fun hf=>by cases hf),fun _ V4 l4=>(lG (hL.le l4 fun _ _ g=>fE.le g l4) hl).mono ?_⟩
  rintro r V5 l5 ⟨q',m',e',rfl,g⟩
  have vl:=Hm (cs.map Prod.fst)
  rw [List.length_map] at vl
  have R:∀{r:Value} {V':View},(∃q m e,r=.tuple #[.slice q m e,.nilIface]/\cI 6 fY V' q m (nD (cs.map Prod.fst))/\∀x∈nD (cs.map Prod.fst),Sz 20000 x.1/\Sz 20000 x.2)->Ce ls (r=.tuple #[.slice none 0 0,yi]) (r=.tuple #[.slice none 0 0,ye]) fun cs=>∃q m e,r=.tuple #[.slice q m e,.nilIface]/\cI 6 fY V' q m (nD (cs.map Prod.fst))/\∀x∈nD (cs.map Prod.fst),Sz 20000 x.1/\Sz 20000 x.2:=fun h=>.inr (.inr ⟨ho,cs,hc,h⟩)
  generalize nD (cs.map Prod.fst)=A at *
  have hsz:∀x∈A,Sz 20000 x.1/\Sz 20000 x.2:=fun x hx=>by
   obtain ⟨i,hi,rfl⟩:=List.mem_iff_getElem.1 hx
   obtain ⟨-,_,_,_,_,_,_,_,-,-,-,-,-,-,-,g⟩:=pH g hi
   exact g.2
  obtain rfl:=g.len
  refine ⟨_,_,_,rfl,fun z V'=>∃j:Nat,z.2.2.2=(j:Int)/\j<=A.length/\GR 6 fY V' z.1 z.2.1 z.2.2.1 (A.take j),fun z=>A.length-z.2.2.2.toNat,⟨(0,0,[],0),by and_intros<;>rfl,0,rfl,Nat.zero_le _,GR.nil⟩,?_⟩
  rintro ⟨z1,z2,vs,z4⟩ V6 l6 ⟨j,e4,H7,hg⟩
  dsimp only at e4 hg
  subst e4
  have zl:=hg.len
  rw [List.length_take] at zl
  refine ⟨rfl,fun hlt=>?_,fun hlt V9 l9 bk hbk=>?_⟩
  ·have hlt:(j:Int)<A.length:=of_decide_eq_true hlt
   have hi:j<A.length:=by omega
   have w:i64.wrap ((j:Int)+1)=((j+1:Nat):Int):=by rw [ay (by omega)];rfl
   dsimp only
   rw [Int.toNat_natCast,w]
   obtain ⟨ps,x,y,t,x',y',t',a,ha,a0,a1,a2,a3,a4,a5,gu⟩:=pH (g.le l6 fun _ _ g=>EC.le g l6) hi
   refine ⟨ps,⟨by omega,by omega⟩,_,_,_,_,_,_,a,ha,a0,a1,a2,a3,a4,a5,fun V7 l7=>(AF (gu.1.le l7) gu.2.1 gu.2.2 (by omega)).mono ?_⟩
   rintro r V8 l8 gr
   have g0:fY V8 r A[j]:=gr
   obtain ⟨_,_,_,_,_,_,_,_,_,_,_,_,_,_,rfl,-⟩:=gr
   refine ⟨_,_,_,_,_,_,_,_,_,_,_,_,_,_,rfl,by omega,hg.le,hg.cap,rfl,NJ,fun sp c' h1 h2=>⟨(z1+1,c',_,((j+1:Nat):Int)),by dsimp only;omega,by and_intros<;>rfl,j+1,rfl,hi,?_⟩⟩
   dsimp only
   rw [List.take_add_one,List.getElem?_eq_getElem hi]
   exact (hg.mono (V':=V8) fun _ _ g=>fY.le g (l7.trans l8)).snoc rfl g0 (by decide) h1 h2
  ·have hlt:¬(j:Int)<A.length:=of_decide_eq_false hlt
   obtain rfl:j=A.length:=by omega
   rw [List.take_length] at hg
   have e1:=hg.len
   refine R ⟨mA bk z2,z1,z2,rfl,?_,hsz⟩
   rw [e1]
   exact cI.fQ hbk (hg.row.le fun _ _ g=>fY.le g l9) (by decide) (by have:=hg.le;omega)
theorem xr {V:View}{p:OA}{n c:Nat}{ls:List L3}(h:cI 6 oO V p n ls)(hb:∀l∈ls,Bd l){yi ye yu:Value}(E:Er V yi ye yu) :
  ab prog 25 #[.agg #[.slice p n c]] V fun r V'=>Ce ls (r=.tuple #[.agg #[.bool false,.slice none 0 0,.slice none 0 0],yi]) (r=.tuple #[.agg #[.bool false,.slice none 0 0,.slice none 0 0],ye])
   fun cs=>(Co cs=false->r=.tuple #[.agg #[.bool false,.slice none 0 0,.slice none 0 0],yu])/\(Co cs=true->∃w,r=.tuple #[w,.nilIface]/\RA V' w (tw (nD (cs.map Prod.fst))*((2:Int):Rat)⁻¹)/\Sz 10000000010 (tw (nD (cs.map Prod.fst))*((2:Int):Rat)⁻¹)):=by
 refine wm p n c V _ fun V1 l1=>(gH (h.le l1 fun _ _ g=>oO.le g l1) hb (E.le l1)).mono ?_
 rintro r V2 l2 (⟨ho,rfl⟩|⟨ho,hc,rfl⟩|⟨ho,cs,hc,⟨q,m,e,rfl,hL,-⟩,hC,hl⟩)
 ·obtain ⟨i1,i2⟩:=rU E.si
  exact ⟨_,_,_,_,rfl,i1,fun _ V3 l3=>.inl ⟨ho,rfl⟩,fun hf=>by rw [i2] at hf;cases hf⟩
 ·obtain ⟨i1,i2⟩:=rU E.se
  exact ⟨_,_,_,_,rfl,i1,fun _ V3 l3=>.inr (.inl ⟨ho,hc,rfl⟩),fun hf=>by rw [i2] at hf;cases hf⟩
 ·have L2:=l1.trans l2
  refine ⟨_,_,_,_,rfl,ij.1,(fun hf=>by cases hf),fun _ V4 l4=>(ux (hL.le l4 fun _ _ g=>fE.le g l4) hl).mono ?_⟩
  rintro r V5 l5 rfl
  refine ⟨_,rfl,fun hf=>⟨yu,⟨_,rfl,(E.le (L2.trans (l4.trans l5))).Yy⟩,fun V6 l6=>.inr (.inr ⟨ho,cs,hc,fun _=>rfl,fun ht=>by rw [ht] at hf;cases hf⟩)⟩,fun hf V7 l7=>?_⟩
  have hf:Co cs=true:=by simpa using hf
  have lf:=l4.trans (l5.trans l7)
  refine (Cr (hL.le lf fun _ _ g=>fE.le g lf) hl).mono ?_
  rintro r V8 l8 ⟨g,sg⟩
  have g0:=g
  obtain ⟨_,_,_,rfl⟩:=g.shape
  refine ⟨_,_,_,rfl,fun V9 l9=>(AD (g0.le l9) sg (by omega)).mono ?_⟩
  rintro r jk l10 ga
  have Qy:=ga
  obtain ⟨_,_,_,_,_,_,_,rfl⟩:=ga.shape
  exact ⟨_,_,_,_,_,_,_,rfl,fun jh bK=>.inr (.inr ⟨ho,cs,hc,(fun ht=>by rw [hf] at ht;cases ht),fun _=>⟨_,rfl,Qy.le bK,sg⟩⟩)⟩
end Go.Proofs.Tryz
