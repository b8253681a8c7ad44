import Derived.Test.YtdhlkpfmlimjfaaGreatDoorA15
import Derived.Test.YtdhlkpfmlimjfaaGreatDoorA8
import Derived.Test.YtdhlkpfmlimjfaaGreatDoorA10
import Derived.Laws.IdiomCopy
import Derived.Lib.Overlaps
import Derived.Lib.JoinLaws
import Derived.Lib.AppendZerosOnto
import Derived.Test.YtdhlkpfmlimjfaaGreatDoorA6
import Derived.Shelf.RegionOpenPlain
import Derived.Lib.Walk
import Derived.Lib.SliceRun
import Derived.Laws.NewBlocks
import Derived.Test.YtdhlkpfmlimjfaaGreatDoorA14
import Derived.Test.YtdhlkpfmlimjfaaGreatDoorA13
set_option linter.unusedVariables false
open Go.IntKind (i64 u64 u32)
namespace Go.Proofs.Tryz
open Go.Eng Go.Big
def RSd (V:View)(v:Value)(s:Sd):Prop:=Dn V v s.1 s.2/\LK s
theorem RSd.le {V V':View}{v:Value}{s:Sd}(h:RSd V v s)(l:V.Le V'):RSd V' v s:=⟨h.1.le l,h.2⟩
theorem RSd.shape {V:View}{v:Value}{s:Sd}(h:RSd V v s):∃(x1:Int)(x2:Int)(p:OA)(y1:Int)(y2:Int)(q:OA)(z1:Int)(z2:Int)(r:OA)(u1:Int)(u2:Int)(t:OA)(w1:Int)(w2:Int)(o:OA),v=.agg #[.int .i64 x1,.int .i64 x2,.pointer p,.int .i64 y1,.int .i64 y2,.pointer q,.int .i64 z1,.int .i64 z2,.pointer r,.int .i64 u1,.int .i64 u2,.pointer t,.int .i64 w1,.int .i64 w2,.pointer o,.bool s.2.a,.bool s.2.b]:=by
 obtain ⟨x1,x2,p,y1,y2,q,z1,z2,r,u1,u2,t,w1,w2,o,e,-⟩:=h.1
 exact ⟨x1,x2,p,y1,y2,q,z1,z2,r,u1,u2,t,w1,w2,o,e⟩
theorem EB {x1:Int}{x2:Int}{p:OA}{y1:Int}{y2:Int}{q:OA}{z1:Int}{z2:Int}{r:OA}{u1:Int}{u2:Int}{t:OA}{w1:Int}{w2:Int}{o:OA}{c d:Bool}:∀v∈([.int .i64 x1,.int .i64 x2,.pointer p,.int .i64 y1,.int .i64 y2,.pointer q,.int .i64 z1,.int .i64 z2,.pointer r,.int .i64 u1,.int .i64 u2,.pointer t,.int .i64 w1,.int .i64 w2,.pointer o,.bool c,.bool d]:List Value),v.oneCell'=true:=by
 intro v hm
 simp only [List.mem_cons,List.not_mem_nil,or_false] at hm
 rcases hm with rfl|rfl|rfl|rfl|rfl|rfl|rfl|rfl|rfl|rfl|rfl|rfl|rfl|rfl|rfl|rfl|rfl<;>rfl
theorem Gs {V:View}{s:Sd}:∀xs,RSd V (.agg (List.toArray xs)) s->∀v∈xs,v.oneCell'=true:=by
 intro xs h
 obtain ⟨x1,x2,p,y1,y2,q,z1,z2,r,u1,u2,t,w1,w2,o,e⟩:=h.shape
 have e:=congrArg Array.toList (Value.agg.inj e)
 dsimp only at e
 subst e
 exact EB
theorem lst_rsd {V:View}{c:OA}{n:Nat}{al:List Sd}(h:Lst 17 RSd V c n al){i:Nat}(hi:i<al.length) :
  c.isSome=true/\∃(x1:Int)(x2:Int)(p:OA)(y1:Int)(y2:Int)(q:OA)(z1:Int)(z2:Int)(r:OA)(u1:Int)(u2:Int)(t:OA)(w1:Int)(w2:Int)(o:OA)(a:Addr),addrAdd c (i*17)=some a/\V.at (a.add 0) (.int .i64 x1)/\V.at (a.add 1) (.int .i64 x2)/\V.at (a.add 2) (.pointer p)/\V.at (a.add 3) (.int .i64 y1)/\V.at (a.add 4) (.int .i64 y2)/\V.at (a.add 5) (.pointer q)/\V.at (a.add 6) (.int .i64 z1)/\V.at (a.add 7) (.int .i64 z2)/\V.at (a.add 8) (.pointer r)/\V.at (a.add 9) (.int .i64 u1)/\V.at (a.add 10) (.int .i64 u2)/\V.at (a.add 11) (.pointer t)/\V.at (a.add 12) (.int .i64 w1)/\V.at (a.add 13) (.int .i64 w2)/\V.at (a.add 14) (.pointer o)/\V.at (a.add 15) (.bool al[i].2.a)/\V.at (a.add 16) (.bool al[i].2.b) /\
   RSd V (.agg #[.int .i64 x1,.int .i64 x2,.pointer p,.int .i64 y1,.int .i64 y2,.pointer q,.int .i64 z1,.int .i64 z2,.pointer r,.int .i64 u1,.int .i64 u2,.pointer t,.int .i64 w1,.int .i64 w2,.pointer o,.bool al[i].2.a,.bool al[i].2.b]) al[i]:=by
 obtain ⟨ad,h0,xs,h1,h2,h3⟩:=h.at_ i hi
 have h20:=h2
 obtain ⟨x1,x2,p,y1,y2,q,z1,z2,r,u1,u2,t,w1,w2,o,e⟩:=h2.shape
 have e:=congrArg Array.toList (Value.agg.inj e)
 dsimp only at e
 subst e
 refine ⟨?_,x1,x2,p,y1,y2,q,z1,z2,r,u1,u2,t,w1,w2,o,ad,h0,h3 0 _ rfl,h3 1 _ rfl,h3 2 _ rfl,h3 3 _ rfl,h3 4 _ rfl,h3 5 _ rfl,h3 6 _ rfl,h3 7 _ rfl,h3 8 _ rfl,h3 9 _ rfl,h3 10 _ rfl,h3 11 _ rfl,h3 12 _ rfl,h3 13 _ rfl,h3 14 _ rfl,h3 15 _ rfl,h3 16 _ rfl,h20⟩
 cases c with
 | none=>cases h0
 | some a=>rfl
theorem BW {V:View}{vs:List Value}{al:List Sd}(h:Row 17 RSd V vs al){i:Nat}(hi:i<al.length):∃(x1:Int)(x2:Int)(p:OA)(y1:Int)(y2:Int)(q:OA)(z1:Int)(z2:Int)(r:OA)(u1:Int)(u2:Int)(t:OA)(w1:Int)(w2:Int)(o:OA),i*17+17<=vs.length/\(vs.drop (i*17)).take 17=[.int .i64 x1,.int .i64 x2,.pointer p,.int .i64 y1,.int .i64 y2,.pointer q,.int .i64 z1,.int .i64 z2,.pointer r,.int .i64 u1,.int .i64 u2,.pointer t,.int .i64 w1,.int .i64 w2,.pointer o,.bool al[i].2.a,.bool al[i].2.b] /\
  RSd V (.agg #[.int .i64 x1,.int .i64 x2,.pointer p,.int .i64 y1,.int .i64 y2,.pointer q,.int .i64 z1,.int .i64 z2,.pointer r,.int .i64 u1,.int .i64 u2,.pointer t,.int .i64 w1,.int .i64 w2,.pointer o,.bool al[i].2.a,.bool al[i].2.b]) al[i]:=by
 obtain ⟨xs,h1,h2,h3⟩:=h.at_ i hi
 have hl:=h.nT (by decide)
 have h20:=h2
 obtain ⟨x1,x2,p,y1,y2,q,z1,z2,r,u1,u2,t,w1,w2,o,e⟩:=h2.shape
 have e:=congrArg Array.toList (Value.agg.inj e)
 dsimp only at e
 subst e
 refine ⟨x1,x2,p,y1,y2,q,z1,z2,r,u1,u2,t,w1,w2,o,by omega,?_,h20⟩
 apply List.ext_getElem?
 intro j
 rw [List.getElem?_take]
 split
 ·rename_i hj
  rw [List.getElem?_drop]
  exact h3 j _ (List.getElem?_eq_getElem (by show j<17;omega))▸(List.getElem?_eq_getElem (by show j<17;omega)).symm
 ·rename_i hj
  rw [List.getElem?_eq_none (by show 17<=j;omega)]
theorem RSd.both {V:View}{s:Sd}{x1:Int}{x2:Int}{p:OA}{y1:Int}{y2:Int}{q:OA}{z1:Int}{z2:Int}{r:OA}{u1:Int}{u2:Int}{t:OA}{w1:Int}{w2:Int}{o:OA}{c d:Bool}(h:RSd V (.agg #[.int .i64 x1,.int .i64 x2,.pointer p,.int .i64 y1,.int .i64 y2,.pointer q,.int .i64 z1,.int .i64 z2,.pointer r,.int .i64 u1,.int .i64 u2,.pointer t,.int .i64 w1,.int .i64 w2,.pointer o,.bool c,.bool d]) s) :
  RLi V (.agg #[.int .i64 x1,.int .i64 x2,.pointer p,.int .i64 y1,.int .i64 y2,.pointer q,.int .i64 z1,.int .i64 z2,.pointer r]) s.1/\xl V (.agg #[.int .i64 u1,.int .i64 u2,.pointer t,.int .i64 w1,.int .i64 w2,.pointer o,.bool s.2.a,.bool s.2.b]) s.2/\c=s.2.a/\d=s.2.b:=by
 obtain ⟨Tb,Tc,p',y1',y2',q',z1',z2',r',S6,S7,t',w1',w2',o',e,h1,h2⟩:=h.1
 have e:=congrArg Array.toList (Value.agg.inj e)
 simp only [List.cons.injEq,Value.bool.injEq,Value.int.injEq,Value.pointer.injEq,true_and,and_true] at e
 obtain ⟨rfl,rfl,rfl,rfl,rfl,rfl,rfl,rfl,rfl,rfl,rfl,rfl,rfl,rfl,rfl,rfl,rfl⟩:=e
 exact ⟨h1,h2,rfl,rfl⟩
theorem jz:∀{c d:List Sd} {l:L3} {v:Sp},bh (c++d) l v=(bh c l v).bind (bh d l)
 | [],_,_,_=>rfl
 | s::c,d,l,v=>by
  rw [List.cons_append]
  unfold bh
  split
  ·exact jz
  ·rfl
theorem oG {V:View}{cp:OA}{cn cc:Nat}{c:List Sd}{lv:Value}{l:L3}(h:Lst 17 RSd V cp cn c)(hl:RLi V lv l)(hb:Bd l)(hn:c.length<=1000000) :
  Acts prog 165 #[.slice cp cn cc,lv] V fun r V'=>∃w,r=.tuple #[w,.bool (bh c l fullSp).isSome]/\xl V' w ((bh c l fullSp).getD Sp.zero)/\((bh c l fullSp).getD Sp.zero).sz 100000:=by
 have hl0:=hl
 obtain rfl:=h.len
 obtain ⟨_,_,_,_,_,_,_,_,_,rfl,-,-,-⟩:=hl
 have Gg:∀{i:Nat} (hi:i<c.length) {s:Sp},bh (c.take i) l fullSp=some s->bh (c.take (i+1)) l fullSp=if eI l s c[i].1=true then some (eJ l s c[i].1) else none:=fun {i} hi {s} e=>by
  rw [List.take_add_one,List.getElem?_eq_getElem hi,jz,e]
  show bh [c[i]] l s=_
  unfold bh
  rfl
 refine oo cp _ cc _ _ _ _ _ _ _ _ _ V _ fun V1 l1=>Jq.mono ?_
 rintro r V2 l2 rfl
 have L2:=l1.trans l2
 refine ⟨_,_,_,_,_,_,_,_,rfl,fun z V'=>∃(i:Nat)(s:Sp),z.1=(i:Int)/\i<=c.length/\bh (c.take i) l fullSp=some s/\s.sz 100000/\z.2.2.2.2.2.2.2.1=s.a/\z.2.2.2.2.2.2.2.2=s.b/\xl V' (.agg #[.int .i64 z.2.1,.int .i64 z.2.2.1,.pointer z.2.2.2.1,.int .i64 z.2.2.2.2.1,.int .i64 z.2.2.2.2.2.1,.pointer z.2.2.2.2.2.2.1,.bool s.a,.bool s.b]) s,
  fun z=>c.length-z.1.toNat,⟨(0,0,0,none,0,0,none,true,true),by and_intros<;>rfl,0,fullSp,rfl,Nat.zero_le _,rfl,FL (by omega),rfl,rfl,⟨_,_,_,_,_,_,rfl,RR.zero _,RR.zero _⟩⟩,?_⟩
 rintro ⟨z1,x1,x2,p,y1,y2,q,ba,bb⟩ V3 l3 ⟨i,s,e1,hi,hp,hs,ea,eb,hv⟩
 dsimp only at e1 ea eb hv ⊢
 subst e1 ea eb
 have L3:=L2.trans l3
 refine ⟨rfl,fun hlt=>?_,fun hlt V7 l7=>?_⟩
 ·have hlt:(i:Int)<c.length:=of_decide_eq_true hlt
  have hi':i<c.length:=by omega
  have w:i64.wrap ((i:Int)+1)=((i+1:Nat):Int):=by rw [i64w (by omega)];rfl
  rw [Int.toNat_natCast,w]
  obtain ⟨ps,a1,a2,a3,a4,a5,a6,a7,a8,a9,b1,b2,b3,b4,b5,b6,a,ha,h0,h1,h2,h3,h4,h5,h6,h7,h8,h9,h10,h11,h12,GV,De,GW,h16,hr⟩:=lst_rsd (h.le L3 fun _ _ g=>RSd.le g L3) hi'
  obtain ⟨rl,ri,-,-⟩:=hr.both
  have pa:=Gg hi' hp
  have sd:=hr.2
  refine ⟨ps,⟨by omega,by omega⟩,_,_,_,_,_,_,_,_,_,_,_,_,_,_,_,_,_,a,ha,h0,h1,h2,h3,h4,h5,h6,h7,h8,h9,h10,h11,h12,GV,De,GW,h16,fun V4 l4=>(xD (hl0.le (L3.trans l4)) (hv.le l4) (rl.le l4) (k:=100000) (hb.szl.up (by omega)) hs (sd.1.szl.up (by omega)) (by omega)).mono ?_⟩
  rintro r V5 l5 ⟨w5,rfl,g⟩
  have g0:=g
  obtain ⟨_,_,_,_,_,_,rfl,-,-⟩:=g
  refine ⟨_,_,_,_,_,_,_,_,_,rfl,fun hf V6 l6=>?_,fun hf=>⟨(((i+1:Nat):Int),_,_,_,_,_,_,_,_),by dsimp only;omega,by and_intros<;>rfl,i+1,eJ l s c[i].1,rfl,hi',?_,B6 hb.szl sd.1.szl hs (by omega),rfl,rfl,g0⟩⟩
  ·have hf:eI l s c[i].1=false:=by simpa using hf
   have e:bh c l fullSp=none:=by
    have:=jz (c:=c.take (i+1)) (d:=c.drop (i+1)) (l:=l) (v:=fullSp)
    rw [List.take_append_drop,pa,hf] at this
    exact this
   rw [e]
   exact ⟨_,rfl,⟨_,_,_,_,_,_,rfl,RR.zero _,RR.zero _⟩,IW _ (by omega),IW _ (by omega)⟩
  ·have hf:eI l s c[i].1=true:=by simpa using hf
   rw [pa,if_pos hf]
 ·have hlt:¬(i:Int)<c.length:=of_decide_eq_false hlt
  obtain rfl:i=c.length:=by omega
  rw [List.take_length] at hp
  rw [hp]
  exact ⟨_,rfl,hv.le l7,hs⟩
def IV (c:List Sd)(l:L3):Int:=if (bh c l fullSp).isSome=true then 0 else cw c l
theorem vG {V:View}{cp:OA}{cn cc:Nat}{c:List Sd}{lv:Value}{l:L3}(h:Lst 17 RSd V cp cn c)(hl:RLi V lv l)(hb:Bd l)(hn:c.length<=1000000) :
  Acts prog 166 #[.slice cp cn cc,lv] V fun r V'=>r=.int .i64 (IV c l):=by
 have hl0:=hl
 obtain rfl:=h.len
 obtain ⟨_,_,_,_,_,_,_,_,_,rfl,-,-,-⟩:=hl
 refine nj cp _ cc _ _ _ _ _ _ _ _ _ V _ fun V1 l1=>(oG (h.le l1 fun _ _ g=>RSd.le g l1) (hl0.le l1) hb hn).mono ?_
 rintro r V2 l2 ⟨w,rfl,g,-⟩
 obtain ⟨_,_,_,_,_,_,rfl,-,-⟩:=g
 have L2:=l1.trans l2
 refine ⟨_,_,_,_,_,_,_,_,_,rfl,fun hp V3 l3=>by unfold IV;rw [if_pos hp],fun hp=>?_⟩
 have hp:(bh c l fullSp).isSome=false:=hp
 have e0:IV c l=cw c l:=by unfold IV;rw [if_neg (by rw [hp];exact Bool.false_ne_true)]
 rw [e0]
 refine ⟨fun z V'=>∃i:Nat,z=(i:Int)/\i<=c.length/\cw c l=cw (c.drop i) l,fun z=>c.length-z.toNat,⟨0,by and_intros<;>rfl,0,rfl,Nat.zero_le _,rfl⟩,?_⟩
 rintro z V4 l4 ⟨i,rfl,hi,hpl⟩
 have L4:=L2.trans l4
 refine ⟨rfl,fun hlt=>?_,fun hlt V15 eZ=>?_⟩
 ·have hlt:(i:Int)<c.length:=of_decide_eq_true hlt
  have hi':i<c.length:=by omega
  have w:i64.wrap ((i:Int)+1)=((i+1:Nat):Int):=by rw [i64w (by omega)];rfl
  rw [Int.toNat_natCast,w]
  obtain ⟨ps,a1,a2,a3,a4,a5,a6,a7,a8,a9,b1,b2,b3,b4,b5,b6,a,ha,h0,h1,h2,h3,h4,h5,h6,h7,h8,h9,h10,h11,h12,GV,De,GW,h16,hr⟩:=lst_rsd (h.le L4 fun _ _ g=>RSd.le g L4) hi'
  obtain ⟨rl,ri,-,-⟩:=hr.both
  have sd:=hr.2
  have ed:c.drop i=c[i]::c.drop (i+1):=List.drop_eq_getElem_cons hi'
  rw [ed] at hpl
  have hpl:cw c l=if (aj l (fC c[i].1 c[i].2.df) (fD c[i].1 c[i].2.df)).num.sign≠0 then (aj l (fC c[i].1 c[i].2.df) (fD c[i].1 c[i].2.df)).num.sign else if c[i].1=l then 1 else cw (c.drop (i+1)) l:=hpl.trans (by rfl)
  generalize c[i]=S at *
  have NF:=Gw sd.2
  refine ⟨ps,⟨by omega,by omega⟩,_,_,_,_,_,_,_,_,_,_,_,_,_,_,_,_,_,a,ha,h0,h1,h2,h3,h4,h5,h6,h7,h8,h9,h10,h11,h12,GV,De,GW,h16,fun V5 l5=>(xC (ri.le l5) sd.2 (by omega)).mono ?_⟩
  rintro r V6 l6 g
  have g0:=g
  obtain ⟨_,_,_,rfl⟩:=g.shape
  refine ⟨_,_,_,rfl,fun V7 l7=>(MO (rl.le (l5.trans (l6.trans l7))) (g0.le l7) (k:=300000) (sd.1.szl.up (by omega)) (NF.mono (by omega)) (by omega)).mono ?_⟩
  rintro r V8 l8 gp
  have gp0:=gp
  obtain ⟨_,_,_,_,_,_,rfl,-,-⟩:=gp
  have sx:=Iv (sd.1.szl.up (show 1000<=300000 by omega)) (NF.mono (show 2*100000+10<=300000 by omega))
  have sy:=Iw (sd.1.szl.up (show 1000<=300000 by omega)) (NF.mono (show 2*100000+10<=300000 by omega))
  refine ⟨_,_,_,_,_,_,rfl,fun V9 l9=>(H4 (hl0.le (L4.trans (l5.trans (l6.trans (l7.trans (l8.trans l9)))))) (gp0.le l9) (hb.szl.up (by omega)) sx sy (by omega)).mono ?_⟩
  rintro r V10 l10 rfl
  refine ⟨_,rfl,fun hs V11 l11=>?_,fun hs V12 l12=>(vY (rl.le (l5.trans (l6.trans (l7.trans (l8.trans (l9.trans (l10.trans l12))))))) (hl0.le (L4.trans (l5.trans (l6.trans (l7.trans (l8.trans (l9.trans (l10.trans l12)))))))) (k:=1000) sd.1.szl hb.szl (by omega)).mono ?_⟩
  ·rw [hpl,if_pos (by simpa using hs)]
  ·rintro r V13 l13 rfl
   rw [if_neg (by simpa using hs)] at hpl
   refine ⟨_,rfl,fun he V14 eY=>?_,fun he=>⟨((i+1:Nat):Int),by dsimp only;omega,by and_intros<;>rfl,i+1,rfl,hi',?_⟩⟩
   ·rw [hpl,if_pos (of_decide_eq_true he)]
   ·rw [hpl,if_neg (of_decide_eq_false he)]
 ·have hlt:¬(i:Int)<c.length:=of_decide_eq_false hlt
  obtain rfl:i=c.length:=by omega
  rw [hpl,List.drop_length]
  rfl
end Go.Proofs.Tryz
namespace Go.Eng
open Go.Lib
variable {P:Program}
theorem ig (w:World)(dT sT ty elem:TypeId)(sz b o dLen dCap:Nat)(a:Addr)(sLen sCap:Nat)(cs:List Value)
  (hu:P.underlying dT=some (.slice elem))(hs:(P.info? elem).map (·.size)=some sz)(hn:cs.length=Nat.min sLen dLen*sz)
  (hsrc:∀j v,cs[j]?=some v->w.cell? (a.add j)=some v)(hc:∀j,j<cs.length->(w.cell? ⟨b,o+j,none⟩).isSome=true)(hf:∀j,j<cs.length->w.frozen? ⟨b,o+j,none⟩=false)(h1:∀v∈cs,v.oneCell'=true) :
  (Builtin.copy_ #[dT,sT] ty #[.slice (some ⟨b,o,none⟩) dLen dCap,.slice (some a) sLen sCap]).run P w=.ok (goInt (Nat.min sLen dLen)) (w.setCells b o cs):=by
 have hl:=run_loadCells_list (P:=P) w a cs hsrc
 have hst:=run_storeCells_cells (P:=P) b o cs 0 w (by simpa using hc) (by simpa using hf) h1
 cases hq:P.info? elem with
 | none=>simp [hq] at hs
 | some i=>
  have hi:i.size=sz:=by simpa [hq] using hs
  simp [Builtin.copy_,run_underlying hu,Builtin.lenOf,Builtin.firstCells,sizeOf,typeInfo,hq,hi,←hn,hl,hst]
theorem xd (w:World){o:Oper}{a:Act}{K:Act->World->Prop}{Q:Exit->Act->World->Prop}(d s:Operand)(t t':TypeId)
  (ho:o.op=.call { callee:=.builtin .copy,args:=#[d,s],argTypes:=#[t,t'] })(v u:Value)(hd:a.eval d=v)(hs:a.eval s=u){v':Value}{w':World}
  (hr:(Builtin.copy_ #[t,t'] o.type #[v,u]).run P w=.ok v' w')(h:K (a.put o.dst v') w'):o.wp P a w K Q:=by
 unfold Oper.wp execOp
 simp only [ho,resolve,invoke,builtin,Sem.run_bind,Sem.run_pure,Result.andThen_ok,List.map_toArray,List.map_cons,List.map_nil,hd,hs,hr]
 exact h
theorem iX (w:World){ops:Array Oper}{rest:List Oper}{o:Oper}{a:Act}{Q:Exit->Act->World->Prop}(hgd:o.guard=none)(d s:Operand)(t t':TypeId)
  (ho:o.op=.call { callee:=.builtin .copy,args:=#[d,s],argTypes:=#[t,t'] })(v u:Value)(hd:a.eval d=v)(hs:a.eval s=u){v':Value}{w':World}
  (hr:(Builtin.copy_ #[t,t'] o.type #[v,u]).run P w=.ok v' w')(h:wpList P ops Q rest (a.put o.dst v') w'):wpList P ops Q (o::rest) a w:=
 wpList_plain hgd fun _ hK=>xd w d s t t' ho v u hd hs hr (hK _ _ h)
theorem kk {ops:Array Oper}{o:Oper}{a:Act}{w:World}{K:Act->World->Prop}{Q:Exit->Act->World->Prop}{E:Prop}
  (hg:o.guard=none)(d x:Operand)(dT sT:TypeId)(hop:o.op=Op.call { callee:=Callee.builtin Builtin.copy,args:=#[d,x],argTypes:=#[dT,sT] })
  (v u:Value)(hd:a.eval d=v)(hx:a.eval x=u){v':Value}{w':World}(hr:(Builtin.copy_ #[dT,sT] o.type #[v,u]).run P w=.ok v' w')(hK:K (a.put o.dst v') w') :
  if Region.wanted o (yielded ops a.tmps)=true then Oper.wp P o a w K Q else E:=by
 have hw:Region.wanted o (yielded ops a.tmps)=true:=by simp [Region.wanted,hg]
 rw [if_pos hw]
 unfold Oper.wp
 simp [execOp,hop,resolve,invoke,builtin,hd,hx,hr,Result.andThen]
 exact hK
theorem dP {w:World}{b o:Nat}{vs:List Value}{ty:TypeId}(h:w.heap[b]?=some (.cells vs.toArray ty (0,0))):w.frozen? ⟨b,o,none⟩=false:=by simp [World.frozen?,h]
theorem vh {w:World}{b:Nat}{vs:List Value}{ty:TypeId}(h:w.heap[b]?=some (.cells vs.toArray ty (0,0))):w.shape? b=some (ty,vs.length):=by simp [World.shape?,h]
theorem bu {w:World}{b o:Nat}{vs:List Value}{ty:TypeId}(h:w.heap[b]?=some (.cells vs.toArray ty (0,0))):w.cell? ⟨b,o,none⟩=vs[o]?:=cell_of_row h
theorem qS (X:Nat->Prop)(w:World):dE X w w.drew:=⟨Nat.le_refl _,fun _ _ _=>rfl,rfl,rfl,rfl⟩
theorem nO (X:Nat->Prop)(w:World)(o:Obj):dE X w (w.alloc o):=⟨by rw [show (w.alloc o).heap.size=w.heap.size+1 from Array.size_push ..];omega,fun b hb _=>bD w o hb,rfl,rfl,rfl⟩
theorem Ap {w:World}{g:Nat}{old cs:Array Value}{ty:TypeId}(h:w.heap[g]?=some (.cells old ty (0,0))):dE (·=g) w (w.setRow g cs):=by
 refine ⟨?_,fun b hb hn=>?_,?_,?_,?_⟩
 ·rw [dg h,Array.size_setIfInBounds];exact Nat.le_refl _
 ·rw [dg h,Array.getElem?_setIfInBounds_ne (fun e=>hn e.symm)]
 all_goals simp [World.setRow,h]
theorem bZ {b:Nat}{ty:TypeId}:∀(xs:List Value)(o:Nat)(vs:List Value)(w:World),w.heap[b]?=some (.cells vs.toArray ty (0,0))->o+xs.length<=vs.length ->
  (w.setCells b o xs).heap[b]?=some (.cells (vs.take o++xs++vs.drop (o+xs.length)).toArray ty (0,0))/\dE (·=b) w (w.setCells b o xs)
 | [],o,vs,w,h,hl=>⟨by rw [World.setCells,List.append_nil,List.length_nil,Nat.add_zero,List.take_append_drop];exact h,dE.refl _ _⟩
 | x::xs,o,vs,w,h,hl=>by
  rw [List.length_cons] at hl
  have e1:w.setCell ⟨b,o,none⟩ x=w.setRow b (vs.toArray.setIfInBounds o x):=setCell_eq_setRow w b o vs.toArray ty (0,0) x h
  have e2:vs.toArray.setIfInBounds o x=(vs.set o x).toArray:=by simp
  rw [World.setCells,e1,e2]
  have h2:(w.setRow b (vs.set o x).toArray).heap[b]?=some (.cells (vs.set o x).toArray ty (0,0)):=setRow_heap w b vs.toArray _ ty (0,0) h
  obtain ⟨g1,g2⟩:=bZ xs (o+1) (vs.set o x) _ h2 (by rw [List.length_set];omega)
  refine ⟨?_,(Ap h).trans g2⟩
  rw [g1]
  congr 3
  rw [List.take_set,List.take_add_one,List.getElem?_eq_getElem (by omega),List.drop_set_of_lt (by omega),List.length_cons,show o+1+xs.length=o+(xs.length+1) by omega]
  rw [List.set_append_right _ _ (by rw [List.length_take];omega),List.length_take,Nat.min_eq_left (by omega),Nat.sub_self]
  simp
end Go.Eng
namespace Go.Proofs.Tryz
open Go.Eng Go.RowKit Go.Lib
theorem mE:∃i z,prog.info? 193=some i/\i.zero=some z/\i.size=17/\i.bytes=128/\z.cells.size=17:=by
 have h:=gL 193 _ rfl
 unfold iP at h
 split at h
 ·rename_i i d e1 e2
  split at h
  ·rename_i z ez
   have h:=Option.some.inj h
   injection h with h1 h2 h3 h4
   refine ⟨i,z,e1,ez,h2,h3,?_⟩
   have:=congrArg List.length h4
   rw [List.length_map,Array.length_toList] at this
   rw [this]
   rfl
  ·cases h
 ·cases h
theorem cS (b o j:Nat):(⟨b,o,none⟩:Addr).add j=⟨b,o+j,none⟩:=by
 unfold Addr.add
 split
 ·rename_i h;subst h;rfl
 ·rfl
theorem Hg (w:World){t:TypeId}{i:TypeInfo}(h:prog.info? t=some i):(Go.sizeOf t).run prog w=.ok i.size w:=by
 simp [sizeOf,typeInfo,h]
set_option maxHeartbeats 4000000 in
set_option maxRecDepth 100000 in
theorem CG (b n c i vb:Nat)(cs vs:List Value)(w:World)(hi:i<n)(hroom:n+1<=c)(hn63:n<=1000000)(hvb:vb≠b)(hcl:c*17<=cs.length)(hvl:vs.length=17)
  (hb:w.heap[b]?=some (.cells cs.toArray 193 (0,0)))(hv:w.heap[vb]?=some (.cells vs.toArray 193 (0,0)))
  (h1c:∀v∈(cs.take (n*17)).drop (i*17),v.oneCell'=true)(h1v:∀v∈vs,v.oneCell'=true) :
  Calls prog 172 #[.slice (some ⟨b,0,none⟩) n c,.int .i64 i,.slice (some ⟨vb,0,none⟩) 1 1] w fun e w'=>
   e=.returned (.slice (some ⟨b,0,none⟩) (n+1) c)/\w'=(w.drew.setCells b ((i+1)*17) ((cs.take (n*17)).drop (i*17))).setCells b (i*17) vs:=by
 obtain ⟨ti,z,e1,e2,e3,e4,e5⟩:=mE
 have hz2:¬((i:Int)=(n:Int)):=by omega
 have hsz:(prog.info? 193).map (·.size)=some 17:=by rw [e1];simp [e3]
 have uT:=underlying112
 have uV:=underlying111
 have rz:∀w,(Go.sizeOf 193).run prog w=.ok 17 w:=fun w=>by rw [Hg w e1,e3]
 have ru:=run_underlying uT
 have rv:=run_underlying uV
 have hov:∀lb cb,(callFunc 217 #[.slice (some ⟨vb,0,none⟩) 1 1,.slice (some ⟨b,(i+1)*17,none⟩) lb cb]).run prog w=.ok (.value (.bool false)) w:=fun lb cb=>by
  rw [run_callFunc_extern func217 (by kernel_rfl) (by kernel_rfl) (by kernel_rfl) (e:=Extern.SlicesOverlaps.overlaps #[111,111] #[4]) (by kernel_rfl),
   Lib.run_overlaps_apart w 111 4 193 uV 17 rz ⟨vb,0,none⟩ ⟨b,(i+1)*17,none⟩ 1 1 lb cb hvb _ _ _ _ (vh hv) (vh hb) (by omega) (dP hv) (dP hv)]
  rfl
 obtain ⟨mid,hmid⟩:∃mid,mid=(cs.take (n*17)).drop (i*17):=⟨_,rfl⟩
 rw [←hmid] at h1c ⊢
 have hml:mid.length=(n-i)*17:=by rw [hmid,List.length_drop,List.length_take];omega
 have hcell:∀(W:World)(o:Nat),W.heap[b]?=some (.cells cs.toArray 193 (0,0))->o<cs.length->(W.cell? ⟨b,o,none⟩).isSome=true:=fun W o hW ho=>by rw [bu hW,List.getElem?_eq_getElem ho];rfl
 have hbd:(w.drew).heap[b]?=some (.cells cs.toArray 193 (0,0)):=hb
 have hmn:∀x:Nat,Nat.min (n+1-i) (n+1-(i+1))=n-i:=fun _=>by simp only [Nat.min_def];split<;>omega
 have hcp1:∀ty dc sc,(Builtin.copy_ #[112,112] ty #[.slice (some ⟨b,(i+1)*17,none⟩) (n+1-(i+1)) dc,.slice (some ⟨b,i*17,none⟩) (n+1-i) sc]).run prog w.drew=  .ok (goInt ((n-i:Nat):Int)) (w.drew.setCells b ((i+1)*17) mid):=fun ty dc sc=>by
  have:=ig (P:=prog) w.drew 112 112 ty 193 17 b ((i+1)*17) (n+1-(i+1)) dc ⟨b,i*17,none⟩ (n+1-i) sc mid uT hsz (by rw [hmn 0,hml])
   (fun j v hj=>by
    rw [cS b,bu hbd]
    rw [hmid,List.getElem?_drop,List.getElem?_take] at hj
    split at hj
    ·exact hj
    ·cases hj)
   (fun j hj=>hcell _ _ hbd (by rw [hml] at hj;omega)) (fun j hj=>dP hbd) h1c
  rw [hmn 0] at this
  exact this
 obtain ⟨g1,g2⟩:=bZ mid ((i+1)*17) cs w.drew hbd (by rw [hml];omega)
 obtain ⟨W1,hW1⟩:∃W1,W1=w.drew.setCells b ((i+1)*17) mid:=⟨_,rfl⟩
 rw [←hW1] at hcp1 g1 g2 ⊢
 have JG:Nat.min 1 (n+1-i)=1:=by simp only [Nat.min_def];split<;>omega
 have hvw:vb<w.heap.size:=(Array.getElem?_eq_some_iff.1 hv).1
 have hv1:W1.heap[vb]?=some (.cells vs.toArray 193 (0,0)):=by rw [g2.a_ vb hvw hvb];exact hv
 have hcp2:∀ty dc,(Builtin.copy_ #[112,111] ty #[.slice (some ⟨b,i*17,none⟩) (n+1-i) dc,.slice (some ⟨vb,0,none⟩) 1 1]).run prog W1=.ok (goInt 1) (W1.setCells b (i*17) vs):=fun ty dc=>by
  have:=ig (P:=prog) W1 112 111 ty 193 17 b (i*17) (n+1-i) dc ⟨vb,0,none⟩ 1 1 vs uT hsz (by rw [JG,hvl])
   (fun j v hj=>by rw [cS vb,Nat.zero_add,bu hv1];exact hj)
   (fun j hj=>by rw [bu g1,List.getElem?_eq_getElem (by rw [hvl] at hj;simp only [List.length_append,List.length_take,List.length_drop,hml];omega)];rfl) (fun j hj=>dP g1) h1v
  rw [JG] at this
  exact this
 clear g1 g2 hmid h1c hW1
 have mixed:=mixed
 have hw1:i64.wrap ((i:Int)+1)=(i:Int)+1:=by rw [IntKind.wrap_i64];omega
 have hb1:(0:Int)<=(i:Int)+1:=by omega
 have hin:i<=n:=by omega
 have htn:((i:Int)+1).toNat=i+1:=by omega
 have hb2:¬(c=i+1):=by omega
 have hb3:(i:Int)<=(n:Int)+1:=by omega
 have hb4:¬(c=i):=by omega
 go_enter func172,ntmps172
 go_wp2_with (simp only [hov])
 go_region_law_o (refine kk rfl _ _ 112 112 rfl (.slice (some ⟨b,(i+1)*17,none⟩) (n+1-(i+1)) (c-(i+1))) (.slice (some ⟨b,i*17,none⟩) (n+1-i) (c-i)) (by simp [Act.eval,Act.put]) (by simp [Act.eval,Act.put]) (hcp1 3 _ _) ?_)
 go_wp2_with (at_builtin;refine iX _ rfl _ _ 112 111 rfl _ _ rfl rfl (hcp2 _ _) ?_)
 go_ret
 exact ⟨rfl,rfl⟩
set_option maxHeartbeats 4000000 in
set_option maxRecDepth 100000 in
theorem FY (b n c vb:Nat)(cs vs:List Value)(w:World)(hroom:n+1<=c)(hn63:n<=1000000)(hcl:c*17<=cs.length)(hvl:vs.length=17)
  (hb:w.heap[b]?=some (.cells cs.toArray 193 (0,0)))(hv:w.heap[vb]?=some (.cells vs.toArray 193 (0,0)))(h1v:∀v∈vs,v.oneCell'=true) :
  Calls prog 172 #[.slice (some ⟨b,0,none⟩) n c,.int .i64 n,.slice (some ⟨vb,0,none⟩) 1 1] w fun e w'=>
   e=.returned (.slice (some ⟨b,0,none⟩) (n+1) c)/\w'=w.setCells b (0+n*17) vs:=by
 obtain ⟨ti,z,e1,e2,e3,e4,e5⟩:=mE
 have uT:=underlying112
 have uV:=underlying111
 have ru:=run_underlying uT
 have rv:=run_underlying uV
 have mixed:=mixed
 have hsrc:Src prog ti.size 111 (.slice (some ⟨vb,0,none⟩) 1 1) 1 vs w:=Src.ofSlice w uV ⟨vb,0,none⟩ 1 1 vs (by rw [e3,hvl]) (fun j u hj=>by rw [cS vb,Nat.zero_add,bu hv];exact hj) h1v
 have hc:∀j,j<vs.length->(w.cell? ⟨b,0+n*ti.size+j,none⟩).isSome=true:=fun j hj=>by rw [bu hb,e3,List.getElem?_eq_getElem (by rw [hvl] at hj;omega)];rfl
 have hf:∀j,j<vs.length->w.frozen? ⟨b,0+n*ti.size+j,none⟩=false:=fun j hj=>dP hb
 go_enter func172,ntmps172
 go_wp2_with (at_builtin;refine wpList_append_room_src _ rfl _ _ 112 111 rfl 193 ti uT e1 b 0 n c rfl _ rfl 1 vs hsrc hroom hc hf ?_)
 go_ret
 exact ⟨rfl,by rw [Nat.zero_add]⟩
set_option maxHeartbeats 4000000 in
set_option maxRecDepth 100000 in
theorem vW (b n c vb:Nat)(cs vs:List Value)(w:World)(hnc:n<=c)(hroom:c<n+1)(hn63:n<=1000000)(hcl:c*17<=cs.length)(hvl:vs.length=17)
  (hb:w.heap[b]?=some (.cells cs.toArray 193 (0,0)))(hv:w.heap[vb]?=some (.cells vs.toArray 193 (0,0)))(h1v:∀v∈vs,v.oneCell'=true) :
  ∃z:Array Value,z.size=17/\Calls prog 172 #[.slice (some ⟨b,0,none⟩) n c,.int .i64 n,.slice (some ⟨vb,0,none⟩) 1 1] w fun e w'=>
   e=.returned (.slice (some ⟨w.heap.size,0,none⟩) (n+1) (grownCap w (n+1) c 193)) /\
   w'=w.drew.alloc (.cells ((cs.take (n*17)++vs).toArray++Builtin.zeroCells z (grownCap w (n+1) c 193-(n+1))) 193):=by
 obtain ⟨ti,z,e1,e2,e3,e4,e5⟩:=mE
 refine ⟨z.cells,e5,?_⟩
 have uT:=underlying112
 have uV:=underlying111
 have ru:=run_underlying uT
 have rv:=run_underlying uV
 have mixed:=mixed
 have hsrc:Src prog ti.size 111 (.slice (some ⟨vb,0,none⟩) 1 1) 1 vs w:=Src.ofSlice w uV ⟨vb,0,none⟩ 1 1 vs (by rw [e3,hvl]) (fun j u hj=>by rw [cS vb,Nat.zero_add,bu hv];exact hj) h1v
 have hbd:(w.drew).heap[b]?=some (.cells cs.toArray 193 (0,0)):=hb
 have hold:(Builtin.firstCells ti.size n (.slice (some ⟨b,0,none⟩) n c)).run prog w.drew=.ok (cs.take (n*17)).toArray w.drew:=by
  rw [e3]
  exact run_firstCells_some w.drew 17 n ⟨b,0,none⟩ n c (cs.take (n*17)) (by rw [List.length_take];omega) (fun j v hj=>by
   rw [cS b,Nat.zero_add,bu hbd]
   rw [List.getElem?_take] at hj
   split at hj
   ·exact hj
   ·cases hj)
 have hrun:∀ty,(Builtin.append_ #[112,111] ty #[.slice (some ⟨b,0,none⟩) n c,.slice (some ⟨vb,0,none⟩) 1 1]).run prog w=_:=fun ty=>
  run_append_grow_src w 112 111 ty 193 ti z uT e1 e2 (some ⟨b,0,none⟩) n c (cs.take (n*17)) hold _ 1 vs hsrc hroom (by omega) (by rw [e4];exact growslice_fits hroom (by omega))
 obtain ⟨zc,hzc⟩:∃zc,zc=z.cells:=⟨_,rfl⟩
 rw [←hzc] at hrun ⊢
 obtain ⟨ROW,hROW⟩:∃ROW:Array Value,ROW=(cs.take (n*17)++vs).toArray++Builtin.zeroCells zc (grownCap w (n+1) c 193-(n+1)):=⟨_,rfl⟩
 rw [←hROW] at hrun ⊢
 clear hzc e5 hold hROW
 go_enter func172,ntmps172
 go_wp2_with (at_builtin;refine Lib.wpList_append_run _ rfl _ _ _ _ rfl _ _ rfl rfl _ _ (hrun _) ?_)
 all_goals (go_ret;exact ⟨rfl,rfl⟩)
set_option maxHeartbeats 4000000 in
set_option maxRecDepth 100000 in
theorem Ea (b n c i vb:Nat)(cs vs:List Value)(w:World)(hi:i<n)(hnc:n<=c)(hroom:c<n+1)(hn63:n<=1000000)(hvb:vb≠b)(hcl:c*17<=cs.length)(hvl:vs.length=17)
  (hb:w.heap[b]?=some (.cells cs.toArray 193 (0,0)))(hv:w.heap[vb]?=some (.cells vs.toArray 193 (0,0)))
  (h1c:∀v∈(cs.take (n*17)).drop (i*17),v.oneCell'=true)(h1v:∀v∈vs,v.oneCell'=true) :
  ∃z:Array Value,z.size=17/\Calls prog 172 #[.slice (some ⟨b,0,none⟩) n c,.int .i64 i,.slice (some ⟨vb,0,none⟩) 1 1] w fun e w'=>
   e=.returned (.slice (some ⟨w.heap.size,0,none⟩) (n+1) (grownCap w (n+1) c 193)) /\
   w'=(((w.alloc (.cells ((cs.take (i*17)).toArray++Builtin.zeroCells z (n+1-i)++Builtin.zeroCells z (grownCap w (n+1) c 193-(n+1))) 193)).drew.setCells w.heap.size (i*17) vs).drew).setCells w.heap.size ((i+1)*17) ((cs.take (n*17)).drop (i*17)):=by
 obtain ⟨ti,z,e1,e2,e3,e4,e5⟩:=mE
 refine ⟨z.cells,e5,?_⟩
 have uT:=underlying112
 have uV:=underlying111
 have uI:=underlying3
 have ru:=run_underlying uT
 have rv:=run_underlying uV
 have rz:∀w,(Go.sizeOf 193).run prog w=.ok 17 w:=fun w=>by rw [Hg w e1,e3]
 have mixed:=mixed
 have hz2:¬((i:Int)=(n:Int)):=by omega
 have hz3:(c:Int)<(n:Int)+1:=by omega
 have hsz:(prog.info? 193).map (·.size)=some 17:=by rw [e1];simp [e3]
 have hbw:b<w.heap.size:=(Array.getElem?_eq_some_iff.1 hb).1
 have hvw:vb<w.heap.size:=(Array.getElem?_eq_some_iff.1 hv).1
 have hkk:(n:Int)+1-(i:Int)=((n+1-i:Nat):Int):=by omega
 have hik:i+(n+1-i)=n+1:=by omega
 have hbd:(w.drew).heap[b]?=some (.cells cs.toArray 193 (0,0)):=hb
 have hold:(Builtin.firstCells ti.size i (.slice (some ⟨b,0,none⟩) i c)).run prog w.drew=.ok (cs.take (i*17)).toArray w.drew:=by
  rw [e3]
  exact run_firstCells_some w.drew 17 i ⟨b,0,none⟩ i c (cs.take (i*17)) (by rw [List.length_take];omega) (fun j v hj=>by
   rw [cS b,Nat.zero_add,bu hbd]
   rw [List.getElem?_take] at hj
   split at hj
   ·exact hj
   ·cases hj)
 obtain ⟨zc,hzc⟩:∃zc,zc=z.cells:=⟨_,rfl⟩
 rw [←hzc] at e5 ⊢
 have hrz:∀ty,(Builtin.append_ #[112,3] ty #[.slice (some ⟨b,0,none⟩) i c,.int .i64 ((n:Int)+1-(i:Int))]).run prog w =
   .ok (.slice (some ⟨w.heap.size,0,none⟩) (n+1) (grownCap w (n+1) c 193)) (w.drew.alloc (.cells ((cs.take (i*17)).toArray++Builtin.zeroCells zc (n+1-i)++Builtin.zeroCells zc (grownCap w (n+1) c 193-(n+1))) 193)):=fun ty=>by
  have h:=Lib.run_append_grow_zeros w 112 3 ty 193 ti z .i64 .i64 uT uI e1 e2 (some ⟨b,0,none⟩) i c (cs.take (i*17)) hold (n+1-i) (by omega) (by omega) (by omega) (by omega) (by rw [e4];omega) (by rw [e4,hik];exact growslice_fits hroom (by omega))
  rw [hik,←hzc] at h
  rw [hkk]
  exact h
 obtain ⟨G,hG⟩:∃G,G=grownCap w (n+1) c 193:=⟨_,rfl⟩
 obtain ⟨ROW,hROW⟩:∃ROW:List Value,ROW.toArray=(cs.take (i*17)).toArray++Builtin.zeroCells zc (n+1-i)++Builtin.zeroCells zc (G-(n+1)):=⟨((cs.take (i*17)).toArray++Builtin.zeroCells zc (n+1-i)++Builtin.zeroCells zc (G-(n+1))).toList,by simp⟩
 rw [←hG] at hrz ⊢
 rw [←hROW] at hrz ⊢
 have hRl:(n+1)*17<=ROW.length:=by
  have:=congrArg Array.size hROW
  simp [Builtin.zeroCells,e5] at this
  omega
 obtain ⟨mid,hmid⟩:∃mid,mid=(cs.take (n*17)).drop (i*17):=⟨_,rfl⟩
 rw [←hmid] at h1c ⊢
 have hml:mid.length=(n-i)*17:=by rw [hmid,List.length_drop,List.length_take];omega
 obtain ⟨W1,hW1⟩:∃W1,W1=w.drew.alloc (.cells ROW.toArray 193):=⟨_,rfl⟩
 rw [←hW1] at hrz
 have hN:W1.heap[w.heap.size]?=some (.cells ROW.toArray 193 (0,0)):=by rw [hW1];exact Array.getElem?_push_size
 have hB:W1.heap[b]?=some (.cells cs.toArray 193 (0,0)):=by rw [hW1];exact (bD w.drew _ hbw).trans hb
 have hV:W1.heap[vb]?=some (.cells vs.toArray 193 (0,0)):=by rw [hW1];exact (bD w.drew _ hvw).trans hv
 have HN:Nat.min 1 (n+1-i)=1:=by simp only [Nat.min_def];split<;>omega
 have hcpA:∀(W:World),W.heap=W1.heap->∀ty dc,(Builtin.copy_ #[112,111] ty #[.slice (some ⟨w.heap.size,i*17,none⟩) (n+1-i) dc,.slice (some ⟨vb,0,none⟩) 1 1]).run prog W=.ok (goInt 1) (W.setCells w.heap.size (i*17) vs):=fun W hW ty dc=>by
  have:=ig (P:=prog) W 112 111 ty 193 17 w.heap.size (i*17) (n+1-i) dc ⟨vb,0,none⟩ 1 1 vs uT hsz (by rw [HN,hvl])
   (fun j v hj=>by rw [cS vb,Nat.zero_add,bu (by rw [hW];exact hV)];exact hj)
   (fun j hj=>by rw [bu (by rw [hW];exact hN),List.getElem?_eq_getElem (by omega)];rfl) (fun j hj=>dP (by rw [hW];exact hN)) h1v
  rw [HN] at this
  exact this
 have hbN:b≠w.heap.size:=by omega
 have HO:Nat.min (n-i) (n+1-(i+1))=n-i:=by simp only [Nat.min_def];split<;>omega
 have hcpB:∀(W:World),W.heap=W1.heap->∀ty dc sc,(Builtin.copy_ #[112,112] ty #[.slice (some ⟨w.heap.size,(i+1)*17,none⟩) (n+1-(i+1)) dc,.slice (some ⟨b,i*17,none⟩) (n-i) sc]).run prog (W.setCells w.heap.size (i*17) vs).drew=.ok (goInt ((n-i:Nat):Int)) ((W.setCells w.heap.size (i*17) vs).drew.setCells w.heap.size ((i+1)*17) mid):=fun W hW ty dc sc=>by
  obtain ⟨g1,g2⟩:=bZ vs (i*17) ROW W (by rw [hW];exact hN) (by omega)
  have hb2:(W.setCells w.heap.size (i*17) vs).drew.heap[b]?=some (.cells cs.toArray 193 (0,0)):=by
   have:=g2.a_ b (by rw [hW];exact (Array.getElem?_eq_some_iff.1 hB).1) hbN
   rw [hW,hB] at this
   exact this
  have hn2:(W.setCells w.heap.size (i*17) vs).drew.heap[w.heap.size]?=_:=g1
  have:=ig (P:=prog) (W.setCells w.heap.size (i*17) vs).drew 112 112 ty 193 17 w.heap.size ((i+1)*17) (n+1-(i+1)) dc ⟨b,i*17,none⟩ (n-i) sc mid uT hsz (by rw [HO,hml])
   (fun j v hj=>by
    rw [cS b,bu hb2]
    rw [hmid,List.getElem?_drop,List.getElem?_take] at hj
    split at hj
    ·exact hj
    ·cases hj)
   (fun j hj=>by rw [bu hn2,List.getElem?_eq_getElem (by rw [hml] at hj;simp only [List.length_append,List.length_take,List.length_drop,hvl];omega)];rfl) (fun j hj=>dP hn2) h1c
  rw [HO] at this
  exact this
 have hGn:n+1<=G:=by rw [hG];exact grownCap_ge w _ _ _
 have hG63:G<=9223372036854775807:=by
  have:=grownCap_le_maxLen w (n+1) c 193 (by unfold maxLen;omega)
  rw [←hG] at this
  unfold maxLen at this
  omega
 have hGi:¬(G=i):=by omega
 have hGim:¬(G=i+1):=by omega
 have hci:¬(c=i):=by omega
 have hA:=hcpA ((w.alloc (.cells ROW.toArray 193)).drew) (by rw [hW1];rfl)
 have hA':=hcpA W1 rfl
 have hB':=hcpB ((w.alloc (.cells ROW.toArray 193)).drew) (by rw [hW1];rfl)
 subst hW1
 have hw1:i64.wrap ((i:Int)+1)=(i:Int)+1:=by rw [IntKind.wrap_i64];omega
 have hw2:i64.wrap ((n:Int)+1)=(n:Int)+1:=by rw [IntKind.wrap_i64];omega
 have hb1:(0:Int)<=(i:Int)+1:=by omega
 have hin:i<=n:=by omega
 have htn:((i:Int)+1).toNat=i+1:=by omega
 have hb3:(i:Int)<=(n:Int):=by omega
 clear hkk hik hold hROW hG hRl hcpA hcpB hN hB hV hzc e5 hmid h1c HN HO hml
 go_enter func172,ntmps172
 go_wp2_with (first
  | (at_builtin;refine Lib.wpList_append_run _ rfl _ _ _ _ rfl _ _ rfl rfl _ _ (hrz _) ?_)
  | (at_builtin;refine iX _ rfl _ _ 112 111 rfl _ _ rfl rfl (hA _ _) ?_))
 go_region_law_o (refine kk rfl _ _ 112 112 rfl (.slice (some ⟨w.heap.size,(i+1)*17,none⟩) (n+1-(i+1)) (G-(i+1))) (.slice (some ⟨b,i*17,none⟩) (n-i) (c-i)) (by simp [Act.eval,Act.put]) (by simp [Act.eval,Act.put]) (hB' 3 (G-(i+1)) (c-i)) ?_)
 go_wp2
 go_ret
 exact ⟨rfl,rfl⟩
end Go.Proofs.Tryz
namespace Go.Proofs.Tryz
open Go.Eng
theorem Iy {α:Type}{A B:List α}{k:Nat}(h:k<=A.length):(A.take k++B).drop k=B:=by
 rw [List.drop_append_of_le_length (by rw [List.length_take];omega),List.drop_eq_nil_of_le (by rw [List.length_take];omega),List.nil_append]
theorem KK {α:Type}{A B:List α}{j k:Nat}(hj:j<=k)(h:k<=A.length):(A.take k++B).take j=A.take j:=by
 rw [List.take_append_of_le_length (by rw [List.length_take];omega),List.take_take,Nat.min_eq_left hj]
theorem DH {V:View}{ob vb n c i:Nat}{vs xs:List Value}(hs:V.w.heap[ob]?=some (.cells vs.toArray 193 (0,0)))(hx:V.X ob)(hv:V.w.heap[vb]?=some (.cells xs.toArray 193 (0,0)))
  (hne:ob≠vb)(hi:i<=n)(hnc:n<=c)(hc:n<=1000000)(hcl:c*17<=vs.length)(hl:xs.length=17)(h1c:∀v∈(vs.take (n*17)).drop (i*17),v.oneCell'=true)(h1v:∀v∈xs,v.oneCell'=true) :
  Acts prog 172 #[.slice (some ⟨ob,0,none⟩) n c,.int .i64 i,.slice (some ⟨vb,0,none⟩) 1 1] V fun r V'=>∃(q c':Nat)(sp:List Value),r=.slice (some ⟨q,0,none⟩) (n+1) c' /\
   V'.w.heap[q]?=some (.cells (vs.take (i*17)++(xs++(vs.take (n*17)).drop (i*17))++sp).toArray 193 (0,0))/\(V.w.heap.size<=q\/q=ob)/\n+1<=c'/\c'*17<=(n+1)*17+sp.length /\
   V'.w.heap[vb]?=some (.cells xs.toArray 193 (0,0)):=by
 refine ⟨⟨f172,func172,rfl,by kernel_rfl⟩,?_⟩
 have hbw:ob<V.w.heap.size:=(Array.getElem?_eq_some_iff.1 hs).1
 have hvw:vb<V.w.heap.size:=(Array.getElem?_eq_some_iff.1 hv).1
 have hml:((vs.take (n*17)).drop (i*17)).length=(n-i)*17:=by rw [List.length_drop,List.length_take];omega
 by_cases hr:n+1<=c
 ·by_cases hin:i<n
  ·refine (CG ob n c i vb vs xs V.w hin hr hc (fun e=>hne e.symm) hcl hl hs hv h1c h1v).mono ?_
   rintro e w' ⟨e1,rfl⟩
   obtain ⟨g1,g2⟩:=bZ ((vs.take (n*17)).drop (i*17)) ((i+1)*17) vs V.w.drew hs (by rw [hml];omega)
   have tl:(vs.take ((i+1)*17)).length=(i+1)*17:=by rw [List.length_take];omega
   obtain ⟨g3,g4⟩:=bZ xs (i*17) _ _ g1 (by simp only [List.length_append,tl,hml];omega)
   have ex:=((qS (·=ob) V.w).trans g2).trans g4
   refine ⟨_,e1,ex.mono fun b e=>e▸hx,ob,c,vs.drop ((i+1)*17+((vs.take (n*17)).drop (i*17)).length),rfl,?_,.inr rfl,hr,?_,?_⟩
   ·refine g3.trans ?_
    congr 3
    rw [List.append_assoc,hl,List.append_assoc (vs.take ((i+1)*17)),KK (by omega) (by omega),show i*17+17=(i+1)*17 by omega,Iy (by omega)]
    simp only [List.append_assoc]
   ·rw [List.length_drop,hml];omega
   ·exact (ex.a_ vb hvw fun e=>hne e.symm).trans hv
  ·obtain rfl:i=n:=by omega
   refine (FY ob i c vb vs xs V.w hr hc hcl hl hs hv h1v).mono ?_
   rintro e w' ⟨e1,rfl⟩
   obtain ⟨g3,g4⟩:=bZ xs (0+i*17) vs V.w hs (by omega)
   refine ⟨_,e1,g4.mono fun b e=>e▸hx,ob,c,vs.drop (0+i*17+xs.length),rfl,?_,.inr rfl,hr,?_,?_⟩
   ·refine g3.trans ?_
    congr 3
    rw [show (vs.take (i*17)).drop (i*17)=[] from List.drop_eq_nil_of_le (by rw [List.length_take];omega),Nat.zero_add,List.append_nil]
   ·rw [List.length_drop];omega
   ·exact (g4.a_ vb hvw fun e=>hne e.symm).trans hv
 ·by_cases hin:i<n
  ·obtain ⟨z,hz,bU⟩:=Ea ob n c i vb vs xs V.w hin hnc (by omega) hc (fun e=>hne e.symm) hcl hl hs hv h1c h1v
   refine bU.mono ?_
   rintro e w' ⟨e1,rfl⟩
   have hG:=Go.grownCap_ge V.w (n+1) c 193
   generalize Go.grownCap V.w (n+1) c 193=G at *
   obtain ⟨ROW,hROW⟩:∃ROW:List Value,ROW.toArray=(vs.take (i*17)).toArray++Builtin.zeroCells z (n+1-i)++Builtin.zeroCells z (G-(n+1)):=⟨((vs.take (i*17)).toArray++Builtin.zeroCells z (n+1-i)++Builtin.zeroCells z (G-(n+1))).toList,by simp⟩
   have Jz:ROW=vs.take (i*17)++((Builtin.zeroCells z (n+1-i)).toList++(Builtin.zeroCells z (G-(n+1))).toList):=by
    have:=congrArg Array.toList hROW
    simpa using this
   have hzl:∀k,(Builtin.zeroCells z k).toList.length=k*17:=fun k=>by simp [Builtin.zeroCells,hz]
   have Lv:(vs.take (i*17)).length=i*17:=by rw [List.length_take];omega
   have hRl:ROW.length=i*17+(n+1-i)*17+(G-(n+1))*17:=by rw [Jz];simp only [List.length_append,hzl,Lv];omega
   rw [←hROW]
   have hN:(V.w.alloc (.cells ROW.toArray 193)).drew.heap[V.w.heap.size]?=some (.cells ROW.toArray 193 (0,0)):=Array.getElem?_push_size
   have x1:dE (·=ob) V.w (V.w.alloc (.cells ROW.toArray 193)).drew:=(nO _ _ _).trans (qS _ _)
   obtain ⟨g1,g2⟩:=bZ xs (i*17) ROW _ hN (by omega)
   obtain ⟨g3,g4⟩:=bZ ((vs.take (n*17)).drop (i*17)) ((i+1)*17) _ (World.drew _) g1 (by simp only [List.length_append,List.length_take,List.length_drop,hml];omega)
   have NI:V.w.heap.size<=_:=x1.size
   have OK:∀{X:Nat->Prop},dE X V.w _:=fun {X}=>by
    refine ⟨Nat.le_trans NI (Nat.le_trans g2.size g4.size),fun b hb _=>?_,?_,?_,?_⟩
    ·exact (g4.a_ b (Nat.lt_of_lt_of_le hb (Nat.le_trans NI g2.size)) (by omega)).trans ((g2.a_ b (Nat.lt_of_lt_of_le hb NI) (by omega)).trans ((nO (fun _=>False) V.w (.cells ROW.toArray 193)).a_ b hb id))
    ·exact g4.os.trans (g2.os.trans x1.os)
    ·exact g4.tape.trans (g2.tape.trans x1.tape)
    ·exact g4.out.trans (g2.out.trans x1.out)
   refine ⟨_,e1,OK,V.w.heap.size,G,(ROW.drop ((n+1)*17)),rfl,?_,.inl (Nat.le_refl _),hG,?_,?_⟩
   ·refine g3.trans ?_
    have e2:ROW.take (i*17)=vs.take (i*17):=by rw [Jz,List.take_append_of_le_length (by rw [Lv];exact Nat.le_refl _),List.take_of_length_le (by rw [Lv];exact Nat.le_refl _)]
    have l1:(ROW.take (i*17)++xs).length=(i+1)*17:=by rw [List.length_append,e2,Lv,hl];omega
    have e3:(ROW.take (i*17)++xs++ROW.drop (i*17+xs.length)).take ((i+1)*17)=ROW.take (i*17)++xs:=by rw [←l1,List.take_left'];rfl
    have e4:(ROW.take (i*17)++xs++ROW.drop (i*17+xs.length)).drop ((i+1)*17+((vs.take (n*17)).drop (i*17)).length)=ROW.drop ((n+1)*17):=by
     rw [List.drop_append,List.drop_eq_nil_of_le (by rw [l1];omega),List.nil_append,List.drop_drop,l1,hml,hl]
     congr 1;omega
    rw [e3,e4,e2]
    simp only [List.append_assoc]
   ·rw [List.length_drop,hRl];omega
   ·exact (@OK fun _=>False).a_ vb hvw id |>.trans hv
  ·obtain rfl:i=n:=by omega
   obtain ⟨z,hz,bU⟩:=vW ob i c vb vs xs V.w hnc (by omega) hc hcl hl hs hv h1v
   refine bU.mono ?_
   rintro e w' ⟨e1,rfl⟩
   have hG:=Go.grownCap_ge V.w (i+1) c 193
   generalize Go.grownCap V.w (i+1) c 193=G at *
   have hzl:∀k,(Builtin.zeroCells z k).toList.length=k*17:=fun k=>by simp [Builtin.zeroCells,hz]
   have ex:∀{X:Nat->Prop} {o:Obj},dE X V.w (V.w.drew.alloc o):=(qS _ _).trans (nO _ _ _)
   refine ⟨_,e1,ex,V.w.heap.size,G,(Builtin.zeroCells z (G-(i+1))).toList,rfl,?_,.inl (Nat.le_refl _),hG,?_,?_⟩
   ·refine (Array.getElem?_push_size (xs:=V.w.heap)).trans ?_
    congr 2
    rw [show (vs.take (i*17)).drop (i*17)=[] from List.drop_eq_nil_of_le (by rw [List.length_take];omega),List.append_nil]
    apply Array.ext'
    simp
   ·rw [hzl];omega
   ·exact ((ex (X:=fun _=>False)).a_ vb hvw id).trans hv
end Go.Proofs.Tryz
namespace Go.Proofs.Tryz
open Go.Eng Go.Big
theorem uv {V:View}{v:Value}{p:Rat×Rat}(h:RPt V v p.1 p.2){k:Nat}(s1:Sz k p.1)(s2:Sz k p.2)(hk:k<=1099511627776) :
  Acts prog 215 #[v] V fun r V'=>r=.int .i64 (Sec.half p):=by
 obtain ⟨x1,x2,q,y1,y2,q',rfl,hx,hy⟩:=h
 refine sG x1 x2 q y1 y2 q' V _ fun V1 l1=>(eF (hy.le l1) s2 hk).mono ?_
 rintro r V2 l2 rfl
 have l12:=l1.trans l2
 refine ⟨_,rfl,fun h1 V3 l3=>?_,fun h1=>⟨fun h2 V4 l4=>(eF (hx.le (l12.trans l4)) s1 hk).mono ?_,fun h2=>⟨fun h3 V12 Rn=>?_,fun h3 V13 l13=>(eF (hx.le (l12.trans l13)) s1 hk).mono ?_⟩⟩⟩
 ·have h1:p.2.num.sign>0:=of_decide_eq_true h1
  unfold Sec.half;rw [if_pos (.inl h1)]
 ·have h1:¬p.2.num.sign>0:=of_decide_eq_false h1
  have h2:p.2.num.sign=0:=by simpa using h2
  rintro r V5 l5 rfl
  refine ⟨_,rfl,fun h3 V6 l6=>?_,fun h3=>⟨fun h4 V7 l7=>?_,fun h4 V8 l8=>(eF (hx.le (l12.trans (l4.trans (l5.trans l8)))) s1 hk).mono ?_⟩⟩
  ·have h3:p.1.num.sign>0:=of_decide_eq_true h3
   unfold Sec.half;rw [if_pos (.inr ⟨h2,h3⟩)]
  ·have h4:p.2.num.sign<0:=of_decide_eq_true h4
   omega
  ·have h3:¬p.1.num.sign>0:=of_decide_eq_false h3
   have hn:¬(p.2.num.sign>0\/p.2.num.sign=0/\p.1.num.sign>0):=by omega
   rintro r V9 l9 rfl
   refine ⟨_,rfl,fun h5 V10 l10=>?_,fun h5 V11 l11=>?_⟩
   ·have h5:p.1.num.sign<0:=of_decide_eq_true h5
    unfold Sec.half;rw [if_neg hn,if_pos (.inr h5)]
   ·have h5:¬p.1.num.sign<0:=of_decide_eq_false h5
    unfold Sec.half;rw [if_neg hn,if_neg (by omega)]
 ·have h1:¬p.2.num.sign>0:=of_decide_eq_false h1
  have h2:¬p.2.num.sign=0:=by simpa using h2
  have h3:p.2.num.sign<0:=of_decide_eq_true h3
  unfold Sec.half;rw [if_neg (by omega),if_pos (.inl h3)]
 ·have h1:¬p.2.num.sign>0:=of_decide_eq_false h1
  have h2:¬p.2.num.sign=0:=by simpa using h2
  have h3:¬p.2.num.sign<0:=of_decide_eq_false h3
  omega
theorem Gt (q:Rat):-1<=q.num.sign/\q.num.sign<=1:=by
 rcases Int.lt_trichotomy q.num 0 with h|h|h
 ·rw [Int.sign_eq_neg_one_of_neg h];omega
 ·rw [h];decide
 ·rw [Int.sign_eq_one_of_pos h];omega
theorem xF {V:View}{v w:Value}{a b:Rat×Rat}(h:RPt V v a.1 a.2)(h':RPt V w b.1 b.2){k:Nat}(s1:Sz k a.1)(s2:Sz k a.2)(s3:Sz k b.1)(s4:Sz k b.2)(hk:4*k+3<274877906944) :
  Acts prog 170 #[v,w] V fun r V'=>r=.int .i64 (Sec.ang a b):=by
 have h0:=h
 have h0':=h'
 obtain ⟨x1,x2,q,y1,y2,q',rfl,-⟩:=h
 obtain ⟨u1,u2,t,w1,w2,t',rfl,-⟩:=h'
 refine wP x1 x2 q y1 y2 q' u1 u2 t w1 w2 t' V _ fun V1 l1=>(uv (h0.le l1) s1 s2 (by omega)).mono ?_
 rintro r V2 l2 rfl
 refine ⟨_,rfl,fun V3 l3=>(uv (h0'.le (l1.trans (l2.trans l3))) s3 s4 (by omega)).mono ?_⟩
 rintro r V4 l4 rfl
 have eY:=l1.trans (l2.trans (l3.trans l4))
 refine ⟨_,rfl,fun g V5 l5=>?_,fun g=>⟨fun g' V6 l6=>?_,fun g' V7 l7=>(qA (h0.le (eY.trans l7)) (h0'.le (eY.trans l7)) s1 s2 s3 s4 hk).mono ?_⟩⟩
 ·unfold Sec.ang;rw [if_pos (of_decide_eq_true g)]
 ·unfold Sec.ang;rw [if_neg (of_decide_eq_false g),if_pos (of_decide_eq_true g')]
 ·rintro r V8 l8 gc
  have QC:=gc
  obtain ⟨c0,c1,c2,rfl⟩:=gc.shape
  refine ⟨_,_,_,rfl,fun V9 l9=>(eF (QC.le l9) (oB s1 s2 s3 s4) (by omega)).mono ?_⟩
  rintro r V10 l10 rfl
  refine ⟨_,rfl,fun V11 l11=>?_⟩
  have bd:=Gt (a.1*b.2-a.2*b.1)
  rw [i64w (by omega)]
  unfold Sec.ang;rw [if_neg (of_decide_eq_false g),if_neg (of_decide_eq_false g')]
  show _=Value.int .i64 (-(a.1*b.2-a.2*b.1).num.sign)
  congr 1;omega
def I2 (V:View)(v:Value)(c:Rat×Rat):Prop:=RPt V v c.1 c.2/\Sz 100000 c.1/\Sz 100000 c.2
theorem I2.le {V V':View}{v:Value}{c:Rat×Rat}(h:I2 V v c)(l:V.Le V'):I2 V' v c:=⟨h.1.le l,h.2⟩
theorem I2.shape {V:View}{v:Value}{c:Rat×Rat}(h:I2 V v c):∃(x y:Int)(p:OA)(xb yb:Int)(pb:OA),v=.agg #[.int .i64 x,.int .i64 y,.pointer p,.int .i64 xb,.int .i64 yb,.pointer pb]:=by
 obtain ⟨⟨x1,x2,p,y1,y2,q,e,-⟩,-⟩:=h;exact ⟨_,_,_,_,_,_,e⟩
def eP (a b:Rat×Rat):Bool:=Sec.eP a b
theorem G9 {V:View}{v:Value}{l:L3}(h:RLi V v l)(hb:Bd l):Acts prog 171 #[v] V fun r V'=>RPt V' r (Sec.dirL l).1 (Sec.dirL l).2:=jh h hb.szl.1 hb.szl.2.1 hb.szl.2.2 (by omega)
theorem wJ {l:L3}(hb:Bd l):Sz 1000 (Sec.dirL l).1/\Sz 1000 (Sec.dirL l).2:=⟨hb.szl.2.1,hb.szl.1.neg⟩
theorem Bx {V:View}{v lv:Value}{s:Sd}{l:L3}(h:RSd V v s)(hl:RLi V lv l)(hb:Bd l):Acts prog 169 #[v,lv] V fun r V'=>r=.int .i64 (Sec.ang (Sec.dirL s.1) (Sec.dirL l)):=by
 have hl0:=hl
 obtain ⟨_,_,_,_,_,_,_,_,_,_,_,_,_,_,_,rfl⟩:=h.shape
 obtain ⟨rl,ri,-,-⟩:=h.both
 have sd:=h.2.1
 obtain ⟨_,_,_,_,_,_,_,_,_,rfl,-,-,-⟩:=hl
 refine lU _ _ _ _ _ _ _ _ _ _ _ _ _ _ _ _ _ _ _ _ _ _ _ _ _ _ V _ fun V1 l1=>(G9 (rl.le l1) sd).mono ?_
 rintro r V2 l2 g
 have g0:=g
 obtain ⟨_,_,_,_,_,_,rfl,-,-⟩:=g
 refine ⟨_,_,_,_,_,_,rfl,fun V3 l3=>(G9 (hl0.le (l1.trans (l2.trans l3))) hb).mono ?_⟩
 rintro r V4 l4 g'
 have g0':=g'
 obtain ⟨_,_,_,_,_,_,rfl,-,-⟩:=g'
 refine ⟨_,_,_,_,_,_,rfl,fun V5 l5=>(xF (g0.le (l3.trans (l4.trans l5))) (g0'.le l5) (wJ sd).1 (wJ sd).2 (wJ hb).1 (wJ hb).2 (by omega)).mono ?_⟩
 rintro r V6 l6 rfl
 exact ⟨_,rfl,fun V7 l7=>rfl⟩
theorem CD {i j:Nat}(hi:i<=1000000)(hj:j<=1000000):i64.wrap ((u64.wrap (i64.wrap ((i:Int)+(j:Int)))).fdiv (2^1))=(((i+j) / 2:Nat):Int):=by
 have e1:i64.wrap ((i:Int)+(j:Int))=(i:Int)+(j:Int):=i64w (by omega)
 have e2:u64.wrap ((i:Int)+(j:Int))=(i:Int)+(j:Int):=aH (by omega)
 have:((i:Int)+(j:Int)).fdiv (2^1)=(((i+j) / 2:Nat):Int):=by
  rw [Int.fdiv_eq_ediv_of_nonneg _ (by decide)]
  omega
 rw [e1,e2,this,i64w (by omega)]
theorem Cj {V:View}{lb n c:Nat}{vs:List Value}{r:List Sd}{lv:Value}{l:L3}(hw:V.w.heap[lb]?=some (.cells vs.toArray 193 (0,0)))(hx:V.X lb)(hr:Row 17 RSd V vs r)(hn:n=r.length)(hs:n<=1000000)(hl:RLi V lv l)(hb:Bd l)
  (asc:r.Pairwise fun s u=>Sec.ang (Sec.dirL s.1) (Sec.dirL u.1)<0) :
  Acts prog 168 #[.slice (some ⟨lb,0,none⟩) n c,lv,.func (.func 169) #[] #[]] V fun q V'=>∃(i:Nat)(b:Bool),q=.tuple #[.int .i64 i,.bool b]/\i<=n/\(∀v:Sp,j9 (l,v) r=r.take i++(l,v)::r.drop i) /\
   V'.w.heap[lb]?=some (.cells vs.toArray 193 (0,0)):=by
 have hl0:=hl
 subst hn
 obtain ⟨_,_,_,_,_,_,_,_,_,rfl,-,-,-⟩:=hl
 refine gO lb _ c vs _ _ _ _ _ _ _ _ _ V _ hw hx ⟨fun z V'=>∃i j:Nat,z.1=(i:Int)/\z.2=(j:Int)/\Bs r l i j,fun z=>z.2.toNat-z.1.toNat,⟨(0,(r.length:Int)),by and_intros<;>rfl,0,r.length,rfl,rfl,Bs.start r l⟩,?_⟩
 rintro ⟨z1,z2⟩ V1 l1 ⟨i,j,e1,e2,bs⟩
 dsimp only at e1 e2
 subst e1 e2
 have ble:=bs.le
 have SI:=bs.len
 have hr1:=hr.le (V':=V1) fun _ _ g=>RSd.le g l1
 refine ⟨rfl,fun hlt=>?_,fun hlt=>?_⟩
 ·have hlt:(i:Int)<(j:Int):=of_decide_eq_true hlt
  dsimp only
  rw [CD (by omega) (by omega)]
  have hlj:(i+j) / 2<j:=by omega
  have Q1:i<=(i+j) / 2:=by omega
  generalize (i+j) / 2=h at *
  have Mq:h<r.length:=by omega
  have w:i64.wrap ((h:Int)+1)=((h+1:Nat):Int):=by rw [i64w (by omega)];rfl
  rw [Int.toNat_natCast,w,Nat.zero_add]
  obtain ⟨a1,a2,a3,a4,a5,a6,a7,a8,a9,b1,b2,b3,b4,b5,b6,eV,LY,hs1⟩:=BW hr1 Mq
  refine ⟨by omega,⟨by omega,by omega⟩,_,_,_,_,_,_,_,_,_,_,_,_,_,_,_,_,_,⟨eV,LY⟩,fun V2 l2=>(Bx (hs1.le l2) (hl0.le (l1.trans l2)) hb).mono ?_⟩
  rintro q V3 l3 rfl
  refine ⟨_,rfl,fun hc=>⟨(((h+1:Nat):Int),(j:Int)),by dsimp only;omega,by and_intros<;>rfl,h+1,j,rfl,rfl,bs.up asc hlj Mq (of_decide_eq_true hc)⟩,fun hc=>⟨((i:Int),(h:Int)),by dsimp only;omega,by and_intros<;>rfl,i,h,rfl,rfl,bs.down Q1 Mq (of_decide_eq_false hc)⟩⟩
 ·have hlt:¬(i:Int)<(j:Int):=of_decide_eq_false hlt
  obtain rfl:i=j:=by omega
  dsimp only
  refine ⟨fun hin=>?_,fun hin V7 l7 hw7=>⟨i,false,rfl,by omega,fun v=>bs.done v,hw7⟩⟩
  have hin:(i:Int)<(r.length:Int):=of_decide_eq_true hin
  have hil:i<r.length:=by omega
  rw [Int.toNat_natCast,Nat.zero_add]
  obtain ⟨a1,a2,a3,a4,a5,a6,a7,a8,a9,b1,b2,b3,b4,b5,b6,eV,LY,hs1⟩:=BW hr1 hil
  refine ⟨⟨by omega,by omega⟩,_,_,_,_,_,_,_,_,_,_,_,_,_,_,_,_,_,⟨eV,LY⟩,fun V4 l4=>(Bx (hs1.le l4) (hl0.le (l1.trans l4)) hb).mono ?_⟩
  rintro q V5 l5 rfl
  exact ⟨_,rfl,fun V6 l6 Rh=>⟨i,_,rfl,by omega,fun v=>bs.done v,Rh⟩⟩
theorem le_moved {V V':View}{P:Prop}{b:Nat}(l:V.Le V')(h:P->V.w.heap.size<=b\/V.H b):V.Le (V'.shut.hideG P b):=fun x o hx=>by
 have h1:=l x o hx
 refine ⟨fun hh=>hh.elim h1.1 ?_,h1.2⟩
 rintro ⟨hp,rfl,-⟩
 rcases h hp with h|h
 ·have:=(Array.getElem?_eq_some_iff.1 hx.2).1
  omega
 ·exact hx.1 h
theorem Cv {c:List Sd}{l:L3}{i:Nat}(hi:i<c.length):jO (c.take (i+1)) l=jO (c.take i) l++if eI c[i].1 c[i].2 l=true then [(c[i].1,eJ c[i].1 c[i].2 l)] else []:=by
 unfold jO
 rw [List.take_add_one,List.getElem?_eq_getElem hi,List.filterMap_append]
 congr 1
 show List.filterMap _ [c[i]]=_
 by_cases h:eI c[i].1 c[i].2 l=true
 ·simp [h]
 ·simp [h]
theorem qH (c:List Sd)(l:L3):(jO c l).length<=c.length:=List.length_filterMap_le ..
theorem Al {c:List Sd}{l:L3}{v:Sp}(h:bh c l fullSp=some v):clipC c l=some (j9 (l,v) (jO c l)):=by unfold clipC;rw [h]
theorem Ak {c:List Sd}{l:L3}(h:bh c l fullSp=none):clipC c l=if 0<cw c l then some c else none:=by unfold clipC;rw [h]
set_option maxHeartbeats 1000000 in
theorem c_Cell_Clip {V:View}{cp:OA}{cn cc:Nat}{c:List Sd}{lv:Value}{l:L3}(h:Lst 17 RSd V cp cn c)(hl:RLi V lv l)(hb:Bd l)(hn:c.length<=100000)(asc:c.Pairwise fun s u=>Sec.ang (Sec.dirL s.1) (Sec.dirL u.1)<0) :
  Acts prog 133 #[.slice cp cn cc,lv] V fun r V'=>∃q m e,r=.tuple #[.slice q m e,.bool (clipC c l).isSome]/\(∀c',clipC c l=some c'->Lst 17 RSd V' q m c'/\(cn<=cc->m<=e)):=by
 have hl0:=hl
 have h0:=h
 obtain rfl:=h.len
 obtain ⟨_,_,_,_,_,_,_,_,_,rfl,-,-,-⟩:=hl
 refine oh cp _ cc _ _ _ _ _ _ _ _ _ V _ fun V1 l1=>(oG (h.le l1 fun _ _ g=>RSd.le g l1) (hl0.le l1) hb (by omega)).mono ?_
 rintro r V2 l2 ⟨w,rfl,gv,sv⟩
 have OR:=gv
 obtain ⟨_,_,_,_,_,_,rfl,-,-⟩:=gv
 have L2:=l1.trans l2
 refine ⟨_,_,_,_,_,_,_,_,_,rfl,fun hp V3 l3=>(vG (h0.le (L2.trans l3) fun _ _ g=>RSd.le g (L2.trans l3)) (hl0.le (L2.trans l3)) hb (by omega)).mono ?_,fun hp=>?_⟩
 ·have hp:bh c l fullSp=none:=by simpa using hp
  rintro r V4 l4 rfl
  have e1:IV c l=cw c l:=by unfold IV;rw [hp];rfl
  have e2:=Ak hp
  refine ⟨_,rfl,fun V5 l5=>⟨cp,c.length,cc,?_,fun c' e=>?_⟩⟩
  ·rw [e1,e2]
   by_cases hc:0<cw c l
   ·rw [if_pos hc,decide_eq_true hc];rfl
   ·rw [if_neg hc,decide_eq_false hc];rfl
  ·rw [e2] at e
   split at e
   ·cases e
    have L5:=L2.trans (l3.trans (l4.trans l5))
    exact ⟨h0.le L5 fun _ _ g=>RSd.le g L5,id⟩
   ·cases e
 have hp:(bh c l fullSp).isSome=true:=by simpa using hp
 obtain ⟨v,ev⟩:=Option.isSome_iff_exists.1 hp
 rw [ev] at OR sv ⊢
 have e2:=Al ev
 have w1:i64.wrap ((c.length:Int)+1)=((c.length+1:Nat):Int):=by rw [i64w (by omega)];rfl
 rw [w1,Int.toNat_natCast]
 refine ⟨by omega,by omega,by omega,fun z V'=>∃i:Nat,z.2.2.2=(i:Int)/\i<=c.length/\GR 17 RSd V' z.1 z.2.1 z.2.2.1 (jO (c.take i) l)/\z.2.1≠0,fun z=>c.length-z.2.2.2.toNat,
  ⟨(0,c.length+1,mc (c.length+1) [.int .i64 0,.int .i64 0,.pointer none,.int .i64 0,.int .i64 0,.pointer none,.int .i64 0,.int .i64 0,.pointer none,.int .i64 0,.int .i64 0,.pointer none,.int .i64 0,.int .i64 0,.pointer none,.bool false,.bool false],0),by and_intros<;>first|rfl|omega,0,rfl,Nat.zero_le _,⟨rfl,Nat.zero_le _,?_,Row.nil⟩,by dsimp only;omega⟩,?_⟩
 ·show _<=(List.replicate (c.length+1) _).flatten.length
  rw [List.length_flatten,List.map_replicate,List.sum_replicate_nat]
  exact Nat.le_refl _
 rintro ⟨z1,z2,vs,z4⟩ V6 l6 ⟨i,e4,ile,hg,hc0⟩
 dsimp only at e4 hg hc0
 subst e4
 have L6:=L2.trans l6
 have gl:=hg.len
 have gle:=hg.le
 have DY:=hg.cap
 try dsimp only at gl gle DY
 have OQ:=qH (c.take i) l
 rw [List.length_take] at OQ
 refine ⟨rfl,fun hlt=>?_,fun hlt=>⟨fun hv0=>?_,fun hv0 V14 eY bk g1 g2=>?_⟩⟩
 ·have hlt:(i:Int)<c.length:=of_decide_eq_true hlt
  have hi':i<c.length:=by omega
  have w:i64.wrap ((i:Int)+1)=((i+1:Nat):Int):=by rw [i64w (by omega)];rfl
  dsimp only
  rw [Int.toNat_natCast,w]
  obtain ⟨ps,a1,a2,a3,a4,a5,a6,a7,a8,a9,b1,b2,b3,b4,b5,b6,a,ha,k0,k1,k2,k3,k4,k5,k6,k7,k8,k9,k10,k11,k12,k13,k14,k15,k16,hr⟩:=lst_rsd (h0.le L6 fun _ _ g=>RSd.le g L6) hi'
  obtain ⟨rl,ri,-,-⟩:=hr.both
  have sd:=hr.2
  have ct:=Cv (l:=l) hi'
  generalize c[i]=S at *
  refine ⟨ps,⟨by omega,by omega⟩,_,_,_,_,_,_,_,_,_,_,_,_,_,_,_,_,_,a,ha,k0,k1,k2,k3,k4,k5,k6,k7,k8,k9,k10,k11,k12,k13,k14,k15,k16,fun V7 l7=>(xD (rl.le l7) (ri.le l7) (hl0.le (L6.trans l7)) (k:=100000) (sd.1.szl.up (by omega)) sd.2 (hb.szl.up (by omega)) (by omega)).mono ?_⟩
  rintro r V8 l8 ⟨w8,rfl,g⟩
  have g0:=g
  obtain ⟨_,_,_,_,_,_,rfl,-,-⟩:=g
  have O1:=hg.mono (V':=V8) fun _ _ g=>RSd.le g (l7.trans l8)
  refine ⟨_,_,_,_,_,_,_,_,_,rfl,fun hf=>⟨by omega,gle,DY,rfl,EB,fun sp c' h1 h2=>⟨(z1+1,c',_,((i+1:Nat):Int)),by dsimp only;omega,by and_intros<;>rfl,i+1,rfl,hi',?_,by dsimp only;omega⟩⟩,fun hf=>⟨(z1,z2,vs,((i+1:Nat):Int)),by dsimp only;omega,by and_intros<;>rfl,i+1,rfl,hi',?_,hc0⟩⟩
  ·have hf:eI S.1 S.2 l=true:=hf
   dsimp only
   rw [ct,if_pos hf]
   exact O1.snoc (a:=(S.1,eJ S.1 S.2 l)) rfl ⟨⟨_,_,_,_,_,_,_,_,_,_,_,_,_,_,_,rfl,rl.le (l7.trans l8),g0⟩,sd.1,B6 sd.1.szl hb.szl sd.2 (by omega)⟩ (by decide) h1 h2
  ·have hf:¬eI S.1 S.2 l=true:=by rw [show eI S.1 S.2 l=false from hf];exact Bool.false_ne_true
   dsimp only
   rw [ct,if_neg hf,List.append_nil]
   exact O1
 ·have hv0:vs=[]:=hv0
  rw [hv0] at DY
  simp at DY
  omega
 have hlt:¬(i:Int)<c.length:=of_decide_eq_false hlt
 obtain rfl:i=c.length:=by omega
 rw [List.take_length] at hg gl
 have OQ:=qH c l
 have hv0:vs≠[]:=hv0
 have Lp:∀b,mA b z2=some ⟨b,0,none⟩:=fun b=>by unfold mA;rw [if_neg hc0]
 dsimp only
 rw [Lp]
 have Dm:=L6.trans eY
 refine (Cj (V:=V14.lend [vb vs V14.w.heap.size bk]) (r:=jO c l) (l:=l) (g1 hv0) ⟨by simp [vb_ne hv0],g2 hv0⟩ (hg.row.le fun _ _ g=>RSd.le g fun b o h=>eY b o h) gl (by omega) (RLi.le (V:=V) (V':=V14.lend _) hl0 fun b o h=>Dm b o h) hb (xR asc)).mono ?_
 rintro r V15 eZ ⟨at_,fb,rfl,hat,hins,e5⟩
 refine ⟨_,_,rfl,hv0,vs,hv0,e5,fun me eU bk1 bk2 k1 k2 k3 k4 k5=>?_⟩
 rw [Lp]
 have l146:V14.Le me:=fun b o h=>eU b o (eZ b o h)
 have hvw:me.w.heap.size>bk1:=(Array.getElem?_eq_some_iff.1 (k1 hv0)).1
 have HV:Row 17 RSd me vs (jO c l):=hg.row.le fun _ _ g=>RSd.le g (eY.trans l146)
 have hone:∀u∈(vs.take (z1*17)).drop (at_*17),u.oneCell'=true:=fun u hu=>by
  obtain ⟨m,hm,e⟩:=List.mem_iff_getElem.1 (List.mem_of_mem_drop hu)
  have hm':m<(jO c l).length*17:=by rw [List.length_take,gl] at hm;omega
  have:=List.getElem?_eq_getElem hm
  rw [e,List.getElem?_take,if_pos (by rw [gl];exact hm')] at this
  exact row_one_cell hg.row (by decide) (fun xs _=>Gs xs) hm' this
 refine (DH (V:=me.lend [vb vs me.w.heap.size bk1,bk2]) (ob:=bk1) (vb:=bk2) (n:=z1) (c:=z2) (i:=at_) (vs:=vs) (xs:=[_,_,_,_,_,_,_,_,_,_,_,_,_,_,_,_,_]) (k1 hv0) ⟨by simp [vb_ne hv0],k2 hv0⟩ k3 (k5 hv0) hat gle (by omega) DY rfl hone EB).mono ?_
 rintro r pS dX ⟨q,c',sp,rfl,f1,f2,f3,f4,f5⟩
 have f2':me.w.heap.size<=q\/(vs≠[]/\q=bk1):=f2.imp id fun e=>⟨hv0,e⟩
 refine ⟨q,_,fun _=>f1,fun _=>f2',some ⟨q,0,none⟩,z1+1,c',?_,_,_,_,_,_,_,_,_,_,_,_,_,_,_,_,_,_,f5,fun sQ fB Jc m1=>⟨mA Jc c',z1+1,c',?_,fun c'' e=>?_⟩⟩
 ·unfold mA;rw [if_neg (by omega)]
 ·rw [e2];rfl
 ·rw [e2] at e
  obtain rfl:=Option.some.inj e
  have Ee:me.Le sQ:=fun b o hx=>fB b o (le_moved (V:=me.lend _) (V':=pS) (P:=_) (b:=q) dX (fun _=>f2.elim .inl fun e=>.inr (by rw [e];exact k2 hv0)) b o hx)
  have hR:=AZ (sp:=sp) (HV.le fun _ _ g=>RSd.le g Ee) (k:=at_) (by omega) (xs:=[_,_,_,_,_,_,_,_,_,_,_,_,_,_,_,_,_]) (a:=(l,v)) rfl ⟨⟨_,_,_,_,_,_,_,_,_,_,_,_,_,_,_,rfl,hl0.le (Dm.trans (l146.trans Ee)),OR.le (l6.trans (eY.trans (l146.trans Ee)))⟩,hb,sv⟩ (by decide)
  rw [hins v]
  have hlen:z1+1=((jO c l).take at_++(l,v)::(jO c l).drop at_).length:=by
   rw [List.length_append,List.length_cons,List.length_take,List.length_drop];omega
  rw [hlen]
  rw [←gl] at hR
  exact ⟨Lst.of_mrow m1 hR (by decide) (by rw [←hlen];exact f3),fun _=>by rw [←hlen];exact f3⟩
def LG (k:Nat)(V:View)(v:Value)(c:Rat×Rat):Prop:=RPt V v c.1 c.2/\Sz k c.1/\Sz k c.2
theorem LG.le {k:Nat}{V V':View}{v:Value}{c:Rat×Rat}(h:LG k V v c)(l:V.Le V'):LG k V' v c:=⟨h.1.le l,h.2⟩
end Go.Proofs.Tryz
namespace Go.Proofs.Tryz
open Go.Eng
set_option maxRecDepth 100000
end Go.Proofs.Tryz
namespace Go.Proofs.Tryz
open Go.Eng Go.Big
def RLv (V:View)(v:Value)(l:L3):Prop:=RL V v l.1 l.2.1 l.2.2
theorem RLv.le {V V':View}{v:Value}{l:L3}(h:RLv V v l)(e:V.Le V'):RLv V' v l:=RL.le h e
theorem rlv_shape {V:View}{v:Value}{l:L3}(h:RLv V v l):∃(b1:Bool)(p1:OA)(n1 c1:Nat)(b2:Bool)(p2:OA)(n2 c2:Nat)(b3:Bool)(p3:OA)(n3 c3:Nat),v=.agg #[.bool b1,.slice p1 n1 c1,.bool b2,.slice p2 n2 c2,.bool b3,.slice p3 n3 c3]:=by
 obtain ⟨_,_,_,_,_,_,_,_,_,e,-⟩:=h;exact ⟨_,_,_,_,_,_,_,_,_,_,_,_,e⟩
theorem one6 {b:Bool}{p:OA}{n c:Nat}{b':Bool}{p':OA}{n' c':Nat}{b'':Bool}{p'':OA}{n'' c'':Nat}:∀v∈([.bool b,.slice p n c,.bool b',.slice p' n' c',.bool b'',.slice p'' n'' c'']:List Value),v.oneCell'=true:=by
 intro v hm
 simp only [List.mem_cons,List.not_mem_nil,or_false] at hm
 rcases hm with rfl|rfl|rfl|rfl|rfl|rfl<;>rfl
theorem yp (x:Sd):∀r:List Sd,(j9 x r).length=r.length+1
 | []=>rfl
 | s::r=>by
  unfold j9
  split
  ·rw [List.length_cons,yp x r,List.length_cons]
  ·rfl
theorem clipC_len {c c':List Sd}{l:L3}(e:clipC c l=some c'):c'.length<=c.length+1:=by
 unfold clipC at e
 split at e
 ·cases e
  rw [yp]
  have:=qH c l
  omega
 ·split at e
  ·cases e;omega
  ·cases e
theorem c_Cell_API {V:View}{p:OA}{n c:Nat}{cs:List Sd}(h:Lst 17 RSd V p n cs)(hn:cs.length<=100000) :
  Acts prog 41 #[.slice p n c] V fun r V'=>∃q m e,r=.agg #[.slice q m e]/\Lst 6 RLv V' q m (cs.map Prod.fst)/\m<=e:=by
 obtain rfl:=h.len
 refine pF p _ c V _ ⟨fun z V'=>∃j:Nat,z.1=(j:Int)/\j<=cs.length/\GR 6 RLv V' z.2.1 z.2.2.1 z.2.2.2 ((cs.map Prod.fst).take j),fun z=>cs.length-z.1.toNat,⟨(0,0,0,[]),by and_intros<;>rfl,0,rfl,Nat.zero_le _,GR.nil⟩,?_⟩
 rintro ⟨z1,z2,z3,vs⟩ V1 l1 ⟨j,e4,jle,hg⟩
 dsimp only at e4 hg
 subst e4
 have zl:=hg.len
 rw [List.length_take,List.length_map] at zl
 refine ⟨rfl,fun hlt=>?_,fun hlt V4 l4 bk hb=>?_⟩
 ·have hlt:(j:Int)<cs.length:=of_decide_eq_true hlt
  have hi:j<cs.length:=by omega
  have w:i64.wrap ((j:Int)+1)=((j+1:Nat):Int):=by rw [i64w (by omega)];rfl
  dsimp only
  rw [Int.toNat_natCast,w]
  obtain ⟨ps,a1,a2,a3,a4,a5,a6,a7,a8,a9,b1,b2,b3,b4,b5,b6,a,ha,k0,k1,k2,k3,k4,k5,k6,k7,k8,k9,k10,k11,k12,k13,k14,k15,k16,hr⟩:=lst_rsd (h.le l1 fun _ _ g=>RSd.le g l1) hi
  obtain ⟨rl,ri,-,-⟩:=hr.both
  obtain ⟨s1,s2,s3⟩:=hr.2.1.sz
  refine ⟨ps,⟨by omega,by omega⟩,_,_,_,_,_,_,_,_,_,_,_,_,_,_,_,_,_,a,ha,k0,k1,k2,k3,k4,k5,k6,k7,k8,k9,k10,k11,k12,k13,k14,k15,k16,fun V2 l2=>(Cm (rl.le l2) s1 s2 s3 (by omega)).mono ?_⟩
  rintro r V3 l3 gr
  have g0:RLv V3 r cs[j].1:=RLi.api gr
  obtain ⟨_,_,_,_,_,_,_,_,_,_,_,_,rfl⟩:=rlv_shape g0
  refine ⟨_,_,_,_,_,_,_,_,_,_,_,_,rfl,by omega,hg.le,hg.cap,rfl,one6,fun sp c' h1 h2=>⟨(((j+1:Nat):Int),z2+1,c',_),by dsimp only;omega,by and_intros<;>rfl,j+1,rfl,hi,?_⟩⟩
  dsimp only
  rw [List.take_add_one,List.getElem?_map,List.getElem?_eq_getElem hi]
  exact (hg.mono (V':=V3) fun _ _ g=>RLv.le g (l2.trans l3)).snoc rfl g0 (by decide) h1 h2
 ·have hlt:¬(j:Int)<cs.length:=of_decide_eq_false hlt
  obtain rfl:j=cs.length:=by omega
  rw [List.take_of_length_le (by rw [List.length_map];exact Nat.le_refl _)] at hg
  obtain rfl:=hg.len
  exact ⟨_,_,_,rfl,Lst.of_mrow hb (hg.row.le fun _ _ g=>RLv.le g l4) (by decide) hg.le,hg.le⟩
end Go.Proofs.Tryz
namespace Go.Proofs.Tryz
open Go.Eng
set_option maxRecDepth 100000
end Go.Proofs.Tryz
namespace Go.Proofs.Tryz
open Go.Eng Go.Big
def inC (c:List Sd)(p:Rat×Rat):Bool:=c.all fun s=>decide (0<aj s.1 p.1 p.2)
def partsC:Tr->List Sd->List (List Sd×Bool)
 | .leaf b,c=>[(c,b)]
 | .node l x y,c=>(match clipC c l with|some d=>partsC x d|none=>[])++(match clipC c (revL l) with|some d=>partsC y d|none=>[])
theorem GU {S M:List L3}(hsub:∀m∈S,m∈M)(hk:∀m∈M,okL m=true)(JD:∀p:Sec.V2,(∀m∈S,0<=aj m p.1 p.2)->∀m∈M,0<=aj m p.1 p.2){q:Sec.V2}(hq:Sec.pos M q){x:L3}(hx:x∈S){p:Sec.V2}(p0:aj x p.1 p.2=0)(p1:∀m∈S,m≠x->0<aj m p.1 p.2):∀m∈M,m≠x->0<aj m p.1 p.2:=by
 have hp:∀s∈S,0<=aj s p.1 p.2:=fun s hs=>by
  by_cases es:s=x
  ·rw [es,p0];decide
  ·exact Rat.le_of_lt (p1 s hs es)
 intro m hm hne
 have h0:=JD p hp m hm
 by_cases hz:aj m p.1 p.2=0
 ·exfalso
  have Ry:=hk x (hsub x hx)
  by_cases hc:Sec.cr (Sec.dirL m) (Sec.dirL x)=0
  ·rcases BX (hk m hm) Ry hz p0 hc with g|g
   ·exact hne g
   ·have a1:=hq m hm
    have a2:=hq x (hsub x hx)
    rw [g,val_rev] at a1
    grind
  ·have hcn:Sec.nv m (Sec.dirL x)≠0:=fun g=>hc (by unfold Sec.nv Sec.dirL at g;unfold Sec.cr Sec.dirL;dsimp only at g ⊢;grind)
   have hx0:Sec.nv x (Sec.dirL x)=0:=by unfold Sec.nv Sec.dirL;dsimp only;grind
   obtain ⟨v,hv,hxv⟩:∃v:Sec.V2,Sec.nv m v<0/\Sec.nv x v=0:=by
    by_cases g:Sec.nv m (Sec.dirL x)<0
    ·exact ⟨_,g,hx0⟩
    ·refine ⟨(-(Sec.dirL x).1,-(Sec.dirL x).2),?_,?_⟩
     ·have:Sec.nv m (-(Sec.dirL x).1,-(Sec.dirL x).2)=-Sec.nv m (Sec.dirL x):=by unfold Sec.nv;dsimp only;grind
      rw [this];grind
     ·have:Sec.nv x (-(Sec.dirL x).1,-(Sec.dirL x).2)=-Sec.nv x (Sec.dirL x):=by unfold Sec.nv;dsimp only;grind
      rw [this,hx0];decide
   obtain ⟨t,t0,ht⟩:=Sec.rY ((S.filter fun s=>decide (s≠x)).map fun s=>(aj s p.1 p.2,Sec.nv s v)) (fun y hy=>by
    obtain ⟨s,hs,rfl⟩:=List.mem_map.1 hy
    obtain ⟨h1,h2⟩:=List.mem_filter.1 hs
    exact p1 s h1 (of_decide_eq_true h2))
   have key:∀s∈S,0<=aj s (p.1+t*v.1) (p.2+t*v.2):=fun s hs=>by
    rw [Sec.fr]
    by_cases es:s=x
    ·rw [es,p0,hxv]
     have:(0:Rat)+t*0=0:=by grind
     rw [this];decide
    ·exact Rat.le_of_lt (ht _ (List.mem_map.2 ⟨s,List.mem_filter.2 ⟨hs,decide_eq_true es⟩,rfl⟩))
   have:=JD (p.1+t*v.1,p.2+t*v.2) key m hm
   dsimp only at this
   rw [Sec.fr,hz] at this
   have:=Sec.mp t0 (show -Sec.nv m v>0 by grind)
   grind
 ·grind
theorem lq {M:List L3}{c:List Sd}(h:CanC M c)(hk:∀m∈M,okL m=true){l:L3}(hl:okL l=true)(e:clipC c l=none):clipC c (revL l)=some c:=by
 have p1:(bh c l fullSp).isSome=false:=by
  unfold clipC at e
  cases ep:bh c l fullSp with
  | some v=>rw [ep] at e;cases e
  | none=>rfl
 have n1:¬0<cw c l:=by
  unfold clipC at e
  cases ep:bh c l fullSp with
  | some v=>rw [ep] at e;cases e
  | none=>
   rw [ep] at e
   dsimp only at e
   split at e
   ·cases e
   ·assumption
 have p2:(bh c (revL l) fullSp).isSome=false:=by
  cases g:(bh c (revL l) fullSp).isSome
  ·rfl
  ·obtain ⟨x,x0,x1⟩:=(kd h hk (ok_rev hl)).1 g
   rw [val_rev] at x0
   rw [(kd h hk hl).2 ⟨x,by grind,x1⟩] at p1;cases p1
 obtain ⟨q,hq⟩:=h.pos
 have hz:aj l q.1 q.2≠0:=fun z=>by rw [(kd h hk hl).2 ⟨q,z,hq⟩] at p1;cases p1
 have hn:¬∃q,Sec.pos M q/\0<aj l q.1 q.2:=by
  rcases (rM h hk hl).2 p1 with ⟨g,-⟩|⟨-,g⟩
  ·rw [g] at n1;exact absurd (by decide) n1
  ·exact g
 have hp:cw c (revL l)=1:=by
  rcases (rM h hk (ok_rev hl)).2 p2 with ⟨g,-⟩|⟨-,g⟩
  ·exact g
  ·exfalso
   refine g ⟨q,hq,?_⟩
   rw [val_rev]
   have:¬0<aj l q.1 q.2:=fun k=>hn ⟨q,hq,k⟩
   grind
 unfold clipC
 cases ep:bh c (revL l) fullSp with
 | some v=>rw [ep] at p2;cases p2
 | none=>
  dsimp only
  rw [if_pos (by rw [hp];decide)]
theorem nZ {P:L3->Prop}(hr:∀l,P l->P (revL l))(hP:∀l,P l->okL l=true):∀{t:Tr} {M:List L3} {c:List Sd},CanC M c->(∀m∈M,P m)->t.All P->∀p∈partsC t c,∃M',CanC M' p.1/\(∀m∈M',P m)/\∀m∈M,m∈M'
 | .leaf b,M,c,h,hk,_,p,hp=>by
  unfold partsC at hp
  rw [List.mem_singleton.1 hp]
  exact ⟨M,h,hk,fun m hm=>hm⟩
 | .node l x y,M,c,h,hk,ht,p,hp=>by
  obtain ⟨hl,hx,hy⟩:=ht
  unfold partsC at hp
  have half:∀{m:L3} {z:Tr},P m->(∀{M:List L3} {c:List Sd},CanC M c->(∀m∈M,P m)->∀p∈partsC z c,∃M',CanC M' p.1/\(∀m∈M',P m)/\∀m∈M,m∈M')->p∈(match clipC c m with|some d=>partsC z d|none=>[])->∃M',CanC M' p.1/\(∀m∈M',P m)/\∀m∈M,m∈M':=fun {m z} hm ih hp=>by
   cases ec:clipC c m with
   | some d=>
    rw [ec] at hp
    obtain ⟨M',a,b,c'⟩:=ih ((clip_ok h (fun m hm=>hP m (hk m hm)) (hP m hm)).1 d ec) (fun n hn=>(List.mem_cons.1 hn).elim (fun g=>g▸hm) (hk n)) p hp
    exact ⟨M',a,b,fun n hn=>c' n (List.mem_cons_of_mem _ hn)⟩
   | none=>rw [ec] at hp;cases hp
  rcases List.mem_append.1 hp with hp|hp
  ·exact half hl (fun h hk=>nZ hr hP h hk hx) hp
  ·exact half (hr l hl) (fun h hk=>nZ hr hP h hk hy) hp
def BJ (c:List Sd)(q:Sec.V2):Prop:=∀s∈c,0<aj s.1 q.1 q.2
theorem ie:∀{t:Tr} {M:List L3} {c:List Sd},CanC M c->(∀m∈M,okL m=true)->t.All (fun l=>okL l=true)->∀{x:Sec.V2},(∀s∈c,0<=aj s.1 x.1 x.2)->∃p∈partsC t c,∀s∈p.1,0<=aj s.1 x.1 x.2
 | .leaf b,M,c,_,_,_,x,hx=>⟨(c,b),by unfold partsC;exact List.mem_singleton.2 rfl,hx⟩
 | .node l a b,M,c,h,hk,ht,x,hx=>by
  obtain ⟨hl,ha,hb⟩:=ht
  have half:∀{m:L3} {z:Tr},okL m=true->(∀{M:List L3} {c:List Sd},CanC M c->(∀m∈M,okL m=true)->∀{x:Sec.V2},(∀s∈c,0<=aj s.1 x.1 x.2)->∃p∈partsC z c,∀s∈p.1,0<=aj s.1 x.1 x.2)->∀{d:List Sd},clipC c m=some d->(∀s∈d,0<=aj s.1 x.1 x.2)->∃p∈(match clipC c m with|some d=>partsC z d|none=>[]),∀s∈p.1,0<=aj s.1 x.1 x.2:=fun {m z} hm ih {d} ec hd=>by
   rw [ec]
   exact ih ((clip_ok h hk hm).1 d ec) (fun n hn=>(List.mem_cons.1 hn).elim (fun g=>g▸hm) (hk n)) hd
  have cl:∀{m:L3},okL m=true->0<=aj m x.1 x.2->∀{d:List Sd},clipC c m=some d->∀s∈d,0<=aj s.1 x.1 x.2:=fun {m} hm h0 {d} ec s hs=>by
   rcases List.mem_cons.1 (((clip_ok h hk hm).1 d ec).mem s hs).1 with g|g
   ·rw [g];exact h0
   ·exact mo h hk hx s.1 g
  have left:∀{d:List Sd},clipC c l=some d->(∀s∈d,0<=aj s.1 x.1 x.2)->∃p∈partsC (.node l a b) c,∀s∈p.1,0<=aj s.1 x.1 x.2:=fun ec hd=>by
   obtain ⟨p,p1,p2⟩:=half hl (fun h hk=>ie h hk ha) ec hd
   exact ⟨p,by unfold partsC;exact List.mem_append_left _ p1,p2⟩
  have right:∀{d:List Sd},clipC c (revL l)=some d->(∀s∈d,0<=aj s.1 x.1 x.2)->∃p∈partsC (.node l a b) c,∀s∈p.1,0<=aj s.1 x.1 x.2:=fun ec hd=>by
   obtain ⟨p,p1,p2⟩:=half (ok_rev hl) (fun h hk=>ie h hk hb) ec hd
   exact ⟨p,by unfold partsC;exact List.mem_append_right _ p1,p2⟩
  by_cases h0:0<=aj l x.1 x.2
  ·cases ec:clipC c l with
   | some d=>exact left ec (cl hl h0 ec)
   | none=>exact right (lq h hk hl ec) hx
  ·have h1:0<=aj (revL l) x.1 x.2:=by rw [val_rev];grind
   cases ec:clipC c (revL l) with
   | some d=>exact right ec (cl (ok_rev hl) h1 ec)
   | none=>
    have:=lq h hk (ok_rev hl) ec
    rw [rev_rev] at this
    exact left this hx
def touchC (c d:List Sd):Bool:=c.any fun s=>d.any fun u=>ovB s.1 s.2 u.1 u.2
def LD (a b:List L3):Prop:=∃l∈a,revL l∈b/\∃t:Rat,∀m∈a++b,m≠l->m≠revL l->0<aj m (fC l t) (fD l t)
theorem BO (s:Sp)(t:Rat):s.neg.jP t↔s.jP (-t):=by
 obtain ⟨lo,hi,a,b⟩:=s
 unfold Sp.neg Sp.jP
 cases a<;>cases b<;>simp<;>grind
theorem EE {l m:L3}{s u:Sp}:ovB l s m u=true↔(m=l\/m=revL l)/\∃t,s.jP t/\(CO m u l).jP t:=by
 unfold ovB Fo
 rw [Bool.and_eq_true,Bool.or_eq_true,decide_eq_true_eq,decide_eq_true_eq,Bool.not_eq_true',kD]
 refine and_congr Iff.rfl ⟨fun ⟨t,h⟩=>⟨t,mI.1 h⟩,fun ⟨t,h⟩=>⟨t,mI.2 h⟩⟩
theorem E3 {l:L3}(h:okL l=true):revL l≠l:=fun e=>by
 have h1:=yH h
 rw [←e,pT] at h1
 have e1:=congrArg Sec.dirL e
 rw [pT] at e1
 have e2:=congrArg Prod.fst e1
 have e3:=congrArg Prod.snd e1
 dsimp only at e2 e3 h1
 grind
theorem C6 {M N:List L3}{c d:List Sd}(h:CanC M c)(hk:∀m∈M,okL m=true)(h':CanC N d)(hk':∀m∈N,okL m=true)(Ml:¬∃q,BJ c q/\BJ d q) :
  touchC c d=true↔LD (c.map Prod.fst) (d.map Prod.fst):=by
 have key:touchC c d=true↔∃s∈c,∃u∈d,ovB s.1 s.2 u.1 u.2=true:=by
  unfold touchC
  rw [List.any_eq_true]
  exact ⟨fun ⟨s,h1,h2⟩=>⟨s,h1,List.any_eq_true.1 h2⟩,fun ⟨s,h1,h2⟩=>⟨s,h1,List.any_eq_true.2 h2⟩⟩
 rw [key]
 have inC:∀{q},Sec.pos M q->BJ c q:=fun hq s hs=>hq _ (h.mem s hs).1
 have Rm:∀{q},Sec.pos N q->BJ d q:=fun hq s hs=>hq _ (h'.mem s hs).1
 constructor
 ·rintro ⟨s,hs,u,hu,ho⟩
  obtain ⟨hm,t,ht,pW⟩:=EE.1 ho
  obtain ⟨sm,sg,si⟩:=h.mem s hs
  obtain ⟨um,ug,ui⟩:=h'.mem u hu
  have z0:=(i_ (ib (hk _ sm)) t).1
  have s1:=(si t).1 ht
  rcases hm with hm|hm
  ·exfalso
   unfold CO at pW
   rw [if_pos hm] at pW
   have u1:=(ui t).1 pW
   rw [hm] at u1
   obtain ⟨q,a1,a2,a3⟩:=Sec.qQ (M:=M) (l:=s.1) (x:=(fC s.1 t,fD s.1 t)) (yH (hk _ sm)) z0 s1 (N.filter fun m=>decide (m≠s.1)) (fun m hm=>by
    obtain ⟨g1,g2⟩:=List.mem_filter.1 hm
    exact u1 m g1 (of_decide_eq_true g2))
   refine Ml ⟨q,inC a1,Rm fun m hm=>?_⟩
   by_cases e:m=s.1
   ·rw [e];exact a2
   ·exact a3 m (List.mem_filter.2 ⟨hm,decide_eq_true e⟩)
  ·have hne:u.1≠s.1:=by rw [hm];exact E3 (hk _ sm)
   unfold CO at pW
   rw [if_neg hne,BO] at pW
   have u1:=(ui (-t)).1 pW
   rw [hm,Bt,Bu] at u1
   refine ⟨s.1,List.mem_map.2 ⟨s,hs,rfl⟩,List.mem_map.2 ⟨u,hu,hm⟩,t,fun m hm' n1 n2=>?_⟩
   rcases List.mem_append.1 hm' with g|g
   ·obtain ⟨v,hv,rfl⟩:=List.mem_map.1 g
    exact s1 _ (h.mem v hv).1 n1
   ·obtain ⟨v,hv,rfl⟩:=List.mem_map.1 g
    exact u1 _ (h'.mem v hv).1 n2
 ·rintro ⟨l,hl,hr,t,ht⟩
  obtain ⟨s,hs,rfl⟩:=List.mem_map.1 hl
  obtain ⟨u,hu,eu⟩:=List.mem_map.1 hr
  obtain ⟨sm,sg,si⟩:=h.mem s hs
  obtain ⟨um,ug,ui⟩:=h'.mem u hu
  have z0:=(i_ (ib (hk _ sm)) t).1
  obtain ⟨q,hq⟩:=h.pos
  obtain ⟨q',hq'⟩:=h'.pos
  have nc:∀m∈c.map Prod.fst,m≠revL s.1:=fun m hm e=>by
   obtain ⟨v,hv,rfl⟩:=List.mem_map.1 hm
   have a1:=hq _ (h.mem v hv).1
   have a2:=hq _ sm
   rw [e,val_rev] at a1
   grind
  have nd:∀m∈d.map Prod.fst,m≠s.1:=fun m hm e=>by
   obtain ⟨v,hv,rfl⟩:=List.mem_map.1 hm
   have a1:=hq' _ (h'.mem v hv).1
   have a2:=hq' _ um
   rw [eu,val_rev] at a2
   rw [e] at a1
   grind
  have NG:∀m∈c.map Prod.fst,m∈M:=fun m hm=>by obtain ⟨v,hv,rfl⟩:=List.mem_map.1 hm;exact (h.mem v hv).1
  have NH:∀m∈d.map Prod.fst,m∈N:=fun m hm=>by obtain ⟨v,hv,rfl⟩:=List.mem_map.1 hm;exact (h'.mem v hv).1
  have g1:s.2.jP t:=(si t).2 (GU (p:=(fC s.1 t,fD s.1 t)) NG hk (fun p hp=>mo h hk fun v hv=>hp _ (List.mem_map.2 ⟨v,hv,rfl⟩)) hq hl z0 fun m hm hne=>ht m (List.mem_append_left _ hm) hne (nc m hm))
  have z1:aj u.1 (fC s.1 t) (fD s.1 t)=0:=by rw [eu,val_rev,z0];rfl
  have g2:u.2.jP (-t):=by
   refine (ui (-t)).2 ?_
   rw [eu,Bt,Bu,←eu]
   exact GU (p:=(fC s.1 t,fD s.1 t)) NH hk' (fun p hp=>mo h' hk' fun v hv=>hp _ (List.mem_map.2 ⟨v,hv,rfl⟩)) hq' (List.mem_map.2 ⟨u,hu,rfl⟩) z1 fun m hm hne=>ht m (List.mem_append_right _ hm) (nd m hm) (by rw [←eu];exact hne)
  refine ⟨s,hs,u,hu,EE.2 ⟨.inr eu,t,g1,?_⟩⟩
  unfold CO
  rw [if_neg (by rw [eu];exact E3 (hk _ sm)),BO]
  exact g2
theorem Dv:∀(L:List Rat) {lo hi:Rat},lo<hi->∃t,lo<t/\t<hi/\∀r∈L,t≠r
 | [],lo,hi,h=>⟨(lo+hi) / 2,by grind,by grind,(fun r hr=>by cases hr)⟩
 | r::L,lo,hi,h=>by
  by_cases c:lo<r/\r<hi
  ·obtain ⟨t,h1,h2,h3⟩:=Dv L c.1
   refine ⟨t,h1,by grind,fun x hx=>?_⟩
   rcases List.mem_cons.1 hx with rfl|hx
   ·grind
   ·exact h3 x hx
  ·obtain ⟨t,h1,h2,h3⟩:=Dv L h
   refine ⟨t,h1,h2,fun x hx=>?_⟩
   rcases List.mem_cons.1 hx with rfl|hx
   ·intro e;subst e;exact c ⟨h1,h2⟩
   ·exact h3 x hx
theorem D0 {s:Sp}(h:s.mB):∃lo hi,lo<hi/\∀t,lo<t->t<hi->s.jP t:=by
 obtain ⟨t,ht⟩:=kD.1 h.2
 obtain ⟨lo,hi,a,b⟩:=s
 unfold Sp.jP at *
 dsimp only at *
 cases a<;>cases b<;>simp at ht ⊢
 ·exact ⟨lo,hi,by grind,fun t h1 h2=>⟨h1,h2⟩⟩
 ·exact ⟨lo,lo+1,by grind,fun t h1 h2=>h1⟩
 ·exact ⟨hi-1,hi,by grind,fun t h1 h2=>h2⟩
 ·exact ⟨0,1,by decide⟩
theorem Gb {m l:L3}(hm:okL m=true)(hl:okL l=true){t:Rat}(ht:t≠eT m l):m=l\/m=revL l\/aj m (fC l t) (fD l t)≠0:=by
 by_cases hd:gU m l=0
 ·by_cases hz:aj m (fC l t) (fD l t)=0
  ·have z0:=(i_ (ib hl) t).1
   have hc:Sec.cr (Sec.dirL m) (Sec.dirL l)=0:=by rw [HA];exact hd
   rcases BX (p:=(fC l t,fD l t)) hm hl hz z0 hc with g|g
   ·exact .inl g
   ·exact .inr (.inl g)
  ·exact .inr (.inr hz)
 ·refine .inr (.inr fun hz=>ht ?_)
  rw [sk] at hz
  have hi:=Rat.mul_inv_cancel _ hd
  unfold eT
  grind
theorem Tr.ky {P:L3->Prop}:∀{t:Tr},(∀l∈t.Hc,P l)->t.All P
 | .leaf _,_=>trivial
 | .node l x y,h=>⟨h l (List.mem_cons_self ..),ky fun m hm=>h m (List.mem_cons_of_mem _ (List.mem_append_left _ hm)),ky fun m hm=>h m (List.mem_cons_of_mem _ (List.mem_append_right _ hm))⟩
theorem Tr.f_ {P:L3->Prop}:∀{t:Tr},t.All P->∀l∈t.Hc,P l
 | .leaf _,_,l,hl=>by cases hl
 | .node l x y,h,m,hm=>by
  rcases List.mem_cons.1 hm with rfl|hm
  ·exact h.1
  ·rcases List.mem_append.1 hm with hm|hm
   ·exact f_ h.2.1 m hm
   ·exact f_ h.2.2 m hm
theorem Hw {M:List L3}{c:List Sd}(h:CanC M c)(hk:∀m∈M,okL m=true){l:L3}(hl:okL l=true){x y:Tr}(hx:x.All fun l=>okL l=true)(hy:y.All fun l=>okL l=true){d e:List Sd}(ed:clipC c l=some d)(ee:clipC c (revL l)=some e) :
  ∃p∈partsC x d,∃p'∈partsC y e,touchC p.1 p'.1=true:=by
 have hd:=(clip_ok h hk hl).1 d ed
 have he:=(clip_ok h hk (ok_rev hl)).1 e ee
 have okD:∀m∈l::M,okL m=true:=fun n hn=>(List.mem_cons.1 hn).elim (fun g=>g▸hl) (hk n)
 have SY:∀m∈revL l::M,okL m=true:=fun n hn=>(List.mem_cons.1 hn).elim (fun g=>g▸ok_rev hl) (hk n)
 have hp:(bh c l fullSp).isSome=true:=by
  refine (rM h hk hl).1.2 ⟨?_,?_⟩
  ·obtain ⟨q,hq⟩:=hd.pos
   exact ⟨q,fun m hm=>hq m (List.mem_cons_of_mem _ hm),hq l (List.mem_cons_self ..)⟩
  ·obtain ⟨q,hq⟩:=he.pos
   have:=hq (revL l) (List.mem_cons_self ..)
   rw [val_rev] at this
   exact ⟨q,fun m hm=>hq m (List.mem_cons_of_mem _ hm),by grind⟩
 obtain ⟨v,hv⟩:=Option.isSome_iff_exists.1 hp
 obtain ⟨vg,vi⟩:=kJ iK hv
 obtain ⟨lo,hi,hlt,hin⟩:=D0 vg
 obtain ⟨t,t1,t2,t3⟩:=Dv ((M++(x.Hc++y.Hc)).map fun m=>eT m l) hlt
 have hc:=((vi t).1 (hin t t1 t2)).2
 have z0:=(i_ (ib hl) t).1
 have gen:∀m,okL m=true->m∈M++(x.Hc++y.Hc)->m=l\/m=revL l\/aj m (fC l t) (fD l t)≠0:=fun m hm hmem=>Gb hm hl (t3 _ (List.mem_map.2 ⟨m,hmem,rfl⟩))
 generalize hX:(fC l t,fD l t)=X at *
 have e1:fC l t=X.1:=by rw [←hX]
 have e2:fD l t=X.2:=by rw [←hX]
 rw [e1,e2] at z0 hc gen
 obtain ⟨P,hP⟩:∃P:L3->Prop,P=fun m=>okL m=true/\(m=l\/m=revL l\/aj m X.1 X.2≠0):=⟨_,rfl⟩
 have Pr:∀m,P m->P (revL m):=fun m hm=>by
  rw [hP] at hm ⊢
  refine ⟨ok_rev hm.1,?_⟩
  rcases hm.2 with g|g|g
  ·exact .inr (.inl (by rw [g]))
  ·exact .inl (by rw [g,rev_rev])
  ·refine .inr (.inr ?_)
   rw [val_rev];grind
 have K7:∀m,P m->okL m=true:=fun m hm=>by rw [hP] at hm;exact hm.1
 have PM:∀m∈M,P m:=fun m hm=>by rw [hP];exact ⟨hk m hm,gen m (hk m hm) (List.mem_append_left _ hm)⟩
 have Pl:P l:=by rw [hP];exact ⟨hl,.inl rfl⟩
 have Px:x.All P:=Tr.ky fun m hm=>by rw [hP];exact ⟨Tr.f_ hx m hm,gen m (Tr.f_ hx m hm) (List.mem_append_right _ (List.mem_append_left _ hm))⟩
 have Py:y.All P:=Tr.ky fun m hm=>by rw [hP];exact ⟨Tr.f_ hy m hm,gen m (Tr.f_ hy m hm) (List.mem_append_right _ (List.mem_append_right _ hm))⟩
 have half:∀{m:L3} {z:Tr} {f:List Sd},(m=l\/m=revL l)->CanC (m::M) f->z.All P->∃p∈partsC z f,∃M',CanC M' p.1/\(∀n∈M',okL n=true)/\m∈M'/\m∈p.1.map Prod.fst/\∀n∈M',n≠m->0<aj n X.1 X.2:=fun {m z f} hm hf hz=>by
  have Pm:P m:=by
   rcases hm with g|g
   ·rw [g];exact Pl
   ·rw [g];exact Pr l Pl
  have m0:aj m X.1 X.2=0:=by
   rcases hm with g|g
   ·rw [g];exact z0
   ·rw [g,val_rev,z0];rfl
  have N2:∀n∈m::M,P n:=fun n hn=>(List.mem_cons.1 hn).elim (fun g=>g▸Pm) (PM n)
  have cl:∀s∈f,0<=aj s.1 X.1 X.2:=fun s hs=>by
   rcases List.mem_cons.1 (hf.mem s hs).1 with g|g
   ·rw [g,m0];decide
   ·exact mo h hk (fun u hu=>Rat.le_of_lt (hc u hu)) s.1 g
  obtain ⟨p,p1,p2⟩:=ie hf (fun n hn=>K7 n (N2 n hn)) (Tr.All.imp K7 hz) cl
  obtain ⟨M',w1,w2,w3⟩:=nZ Pr K7 hf N2 hz p p1
  have mm:=w3 m (List.mem_cons_self ..)
  have Ko:∀n∈M',okL n=true:=fun n hn=>K7 n (w2 n hn)
  obtain ⟨q,hq⟩:=w1.pos
  have strict:∀n∈M',n≠m->0<aj n X.1 X.2:=fun n hn hne=>by
   have a1:=mo w1 Ko p2 n hn
   have a2:=w2 n hn
   rw [hP] at a2
   have nr:n≠revL m:=fun g=>by
    have b1:=hq n hn
    have b2:=hq m mm
    rw [g,val_rev] at b1
    grind
   rcases a2.2 with g|g|g
   ·rcases hm with k|k
    ·exact absurd (g.trans k.symm) hne
    ·exact absurd (by rw [g,k,rev_rev]) nr
   ·rcases hm with k|k
    ·exact absurd (by rw [g,k]) nr
    ·exact absurd (g.trans k.symm) hne
   ·grind
  obtain ⟨v,hv⟩:=w1.all m mm ⟨X,m0,strict⟩
  exact ⟨p,p1,M',w1,Ko,mm,List.mem_map.2 ⟨_,hv,rfl⟩,strict⟩
 obtain ⟨p,p1,M1,a1,a2,a3,a4,a5⟩:=half (.inl rfl) hd Px
 obtain ⟨p',M4,M2,b1,b2,b3,b4,b5⟩:=half (.inr rfl) he Py
 refine ⟨p,p1,p',M4,(C6 a1 a2 b1 b2 ?_).2 ⟨l,a4,b4,t,fun m hm n1 n2=>?_⟩⟩
 ·rintro ⟨q,h1,h2⟩
  have c1:=a1.int a2 h1 l a3
  have c2:=b1.int b2 h2 (revL l) b3
  rw [val_rev] at c2
  grind
 ·rw [e1,e2]
  rcases List.mem_append.1 hm with g|g
  ·obtain ⟨u,hu,rfl⟩:=List.mem_map.1 g
   exact a5 _ (a1.mem u hu).1 n1
  ·obtain ⟨u,hu,rfl⟩:=List.mem_map.1 g
   exact b5 _ (b1.mem u hu).1 n2
theorem EN {t:Tr}{M:List L3}{c:List Sd}(h:CanC M c)(hk:∀m∈M,okL m=true)(ht:t.All fun l=>okL l=true):partsC t c≠[]:=fun e=>by
 obtain ⟨q,hq⟩:=h.pos
 obtain ⟨p,hp,-⟩:=ie h hk ht (x:=q) fun s hs=>Rat.le_of_lt (hq _ (h.mem s hs).1)
 rw [e] at hp;cases hp
def zT (L:List (List Sd×Bool)):Prop:=∀S:Nat->Prop,(∀i j (hi:i<L.length) (hj:j<L.length),i<j->touchC L[i].1 L[j].1=true->(S i↔S j))->S 0->∀i,i<L.length->S i
theorem DN {A B:List (List Sd×Bool)}(ha:zT A)(hb:zT B)(hbr:∃p∈A,∃p'∈B,touchC p.1 p'.1=true):zT (A++B):=fun S hS h0=>by
 obtain ⟨p,hp,p',hp',ht⟩:=hbr
 obtain ⟨i0,hi0,rfl⟩:=List.mem_iff_getElem.1 hp
 obtain ⟨j0,hj0,rfl⟩:=List.mem_iff_getElem.1 hp'
 have lA:∀i (hi:i<A.length) (h:i<(A++B).length),(A++B)[i]=A[i]:=fun i hi h=>List.getElem_append_left hi
 have lB:∀j (hj:j<B.length) (h:A.length+j<(A++B).length),(A++B)[A.length+j]=B[j]:=fun j hj h=>by
  rw [List.getElem_append_right (by omega)];simp
 have len:(A++B).length=A.length+B.length:=List.length_append
 have hA:∀i,i<A.length->S i:=ha S (fun i j hi hj hlt ht=>hS i j (by omega) (by omega) hlt (by rw [lA i hi,lA j hj];exact ht)) h0
 have OC:∀i j (hi:i<B.length) (hj:j<B.length),i<j->touchC B[i].1 B[j].1=true->(S (A.length+i)↔S (A.length+j)):=fun i j hi hj hlt ht=>hS _ _ (by omega) (by omega) (by omega) (by rw [lB i hi,lB j hj];exact ht)
 have s0:S (A.length+j0):=(hS i0 (A.length+j0) (by omega) (by omega) (by omega) (by rw [lA i0 hi0,lB j0 hj0];exact ht)).1 (hA i0 hi0)
 have sB:S (A.length+0):=Classical.byContradiction fun hn=>by
  exact hb (fun j=>¬S (A.length+j)) (fun i j hi hj hlt ht=>not_congr (OC i j hi hj hlt ht)) hn j0 hj0 s0
 have hB:∀j,j<B.length->S (A.length+j):=hb (fun j=>S (A.length+j)) OC sB
 intro i hi
 by_cases c:i<A.length
 ·exact hA i c
 ·have:=hB (i-A.length) (by omega)
  rwa [show A.length+(i-A.length)=i by omega] at this
theorem jA:∀{t:Tr} {M:List L3} {c:List Sd},CanC M c->(∀m∈M,okL m=true)->t.All (fun l=>okL l=true)->zT (partsC t c)
 | .leaf b,M,c,_,_,_=>fun S _ h0 i hi=>by
  unfold partsC at hi
  have:i=0:=by simp at hi;exact hi
  rw [this];exact h0
 | .node l x y,M,c,h,hk,ht=>by
  obtain ⟨hl,hx,hy⟩:=ht
  have cx:∀{m:L3} {z:Tr},okL m=true->z.All (fun l=>okL l=true)->(∀{M:List L3} {c:List Sd},CanC M c->(∀m∈M,okL m=true)->zT (partsC z c))->∀{d:List Sd},clipC c m=some d->zT (partsC z d):=fun {m z} hm hz ih {d} ec=>ih ((clip_ok h hk hm).1 d ec) (fun n hn=>(List.mem_cons.1 hn).elim (fun g=>g▸hm) (hk n))
  unfold partsC
  cases ed:clipC c l with
  | some d=>
   have c1:=cx hl hx (fun h hk=>jA h hk hx) ed
   cases ee:clipC c (revL l) with
   | some e=>exact DN c1 (cx (ok_rev hl) hy (fun h hk=>jA h hk hy) ee) (Hw h hk hl hx hy ed ee)
   | none=>dsimp only;rw [List.append_nil];exact c1
  | none=>
   cases ee:clipC c (revL l) with
   | some e=>exact cx (ok_rev hl) hy (fun h hk=>jA h hk hy) ee
   | none=>rw [lq h hk hl ed] at ee;cases ee
theorem c_Cell_Divide {V:View}{cp:OA}{cn cc:Nat}{c:List Sd}{lv:Value}{l:L3}(h:Lst 17 RSd V cp cn c)(hc:cn<=cc)(hl:RLi V lv l)(hb:Bd l)(hn:c.length<=100000)(asc:c.Pairwise fun s u=>Sec.ang (Sec.dirL s.1) (Sec.dirL u.1)<0) :
  Acts prog 177 #[.slice cp cn cc,lv] V fun r V'=>∃p n m q k e,r=.tuple #[.slice p n m,.slice q k e,.bool (clipC c l).isSome,.bool (clipC c (revL l)).isSome]/\(∀d,clipC c l=some d->Lst 17 RSd V' p n d/\n<=m)/\(∀d,clipC c (revL l)=some d->Lst 17 RSd V' q k d/\k<=e):=by
 have hl0:=hl
 obtain ⟨_,_,_,_,_,_,_,_,_,rfl,-,-,-⟩:=hl
 refine vc_geo_Cell_Divide cp cn cc _ _ _ _ _ _ _ _ _ V _ fun V1 l1=>(c_Cell_Clip (h.le l1 fun _ _ g=>RSd.le g l1) (hl0.le l1) hb hn asc).mono ?_
 rintro r V2 l2 ⟨p,n,m,rfl,h1⟩
 have l02:=l1.trans l2
 refine ⟨_,_,_,_,rfl,fun V3 l3=>(k_Reverse (hl0.le (l02.trans l3)) hb.szl (by omega)).mono ?_⟩
 rintro r V4 l4 gr
 have gr0:RLi V4 r (revL l):=gr
 obtain ⟨_,_,_,_,_,_,_,_,_,rfl,-,-,-⟩:=gr
 have l04:=l02.trans (l3.trans l4)
 refine ⟨_,_,_,_,_,_,_,_,_,rfl,fun V5 l5=>(c_Cell_Clip (h.le (l04.trans l5) fun _ _ g=>RSd.le g (l04.trans l5)) (gr0.le l5) hb.rev hn asc).mono ?_⟩
 rintro r V6 l6 ⟨q,k,e,rfl,h2⟩
 refine ⟨_,_,_,_,rfl,fun V7 l7=>⟨_,_,_,_,_,_,rfl,fun d ed=>?_,fun d ed=>?_⟩⟩
 ·obtain ⟨g1,g2⟩:=h1 d ed
  have l27:=l3.trans (l4.trans (l5.trans (l6.trans l7)))
  exact ⟨g1.le l27 fun _ _ g=>RSd.le g l27,g2 hc⟩
 ·obtain ⟨g1,g2⟩:=h2 d ed
  exact ⟨g1.le l7 fun _ _ g=>RSd.le g l7,g2 hc⟩
def RPrt (V:View)(v:Value)(p:List Sd×Bool):Prop:=∃q n e b,v=.agg #[.slice q n e,.pointer b]/\Lst 17 RSd V q n p.1/\n<=e/\RT V b (.leaf p.2)
theorem RPrt.le {V V':View}{v:Value}{p:List Sd×Bool}(h:RPrt V v p)(l:V.Le V'):RPrt V' v p:=by
 obtain ⟨q,n,e,b,rfl,h1,h2,h3⟩:=h
 exact ⟨q,n,e,b,rfl,h1.le l fun _ _ g=>RSd.le g l,h2,RT.le l h3⟩
theorem one2p {q:OA}{n e:Nat}{b:OA}:∀v∈([.slice q n e,.pointer b]:List Value),v.oneCell'=true:=fun v hv=>by
 simp only [List.mem_cons,List.not_mem_nil,or_false] at hv
 rcases hv with rfl|rfl<;>rfl
theorem c_bsp_parts:∀(t:Tr) {V:View} {q cp:OA} {cn cc lb n m:Nat} {c:List Sd} {M:List L3} {vs:List Value} {o:List (List Sd×Bool)},RT V q t->t.All Okb->CanC M c->(∀x∈M,okL x=true)->Lst 17 RSd V cp cn c->cn<=cc->c.length+t.size<=90000 ->
  (vs≠[]->V.w.heap[lb]?=some (.cells vs.toArray 115 (0,0)))->(vs≠[]->V.X lb)->GR 2 RPrt V n m vs o->(vs≠[]->0<n)->n+t.size+1<=1000000 ->
  Acts prog 138 #[.pointer q,.slice cp cn cc,.slice (mA lb m) n m] V fun r V'=>∃(bm:Nat)(vm:List Value)(n' c':Nat),(vm≠[]->V'.w.heap[bm]?=some (.cells vm.toArray 115 (0,0)))/\(vm≠[]->V.w.heap.size<=bm\/(vs≠[]/\bm=lb)) /\
   r=.slice (mA bm c') n' c'/\GR 2 RPrt (V'.hideG (vm≠[]) bm) n' c' vm (o++partsC t c)/\(vm≠[]->0<n')/\n'<=n+t.size+1:=by
 intro t
 have or3:∀{A B:Prop},A\/B\/False->A\/B:=fun h=>h.imp id fun h=>h.elim id False.elim
 induction t with
 | leaf i=>
  intro V q cp cn cc lb n m c M vs o h ha hC hk hL hcc hlen hw hx hg hpos hn
  refine vc_bsp_T_parts q cp cn cc lb n m vs V _ hw hx fun V1 l1=>(c_bsp_IsLeaf (h.le l1)).mono ?_
  rintro r V2 l2 rfl
  have l02:=l1.trans l2
  refine ⟨_,rfl,fun hl=>⟨by omega,hg.le,hg.cap,rfl,one2p,fun sp c3 k1 k2 V3 bk hle e2 e3=>⟨bk,_,n+1,c3,e2,fun h=>or3 (e3 h),rfl,?_,fun _=>by omega,by omega⟩⟩,(fun hl=>by cases hl)⟩
  exact (hg.mono fun _ _ g=>RPrt.le g (l02.trans hle)).snoc (a:=(c,i)) rfl ⟨_,_,_,_,rfl,hL.le (l02.trans hle) fun _ _ g=>RSd.le g (l02.trans hle),hcc,RT.le (l02.trans hle) h⟩ (by decide) k1 k2
 | node ln a b iha ihb=>
  intro V q cp cn cc lb n m c M vs o h ha hC hk hL hcc hlen hw hx hg hpos hn
  refine vc_bsp_T_parts q cp cn cc lb n m vs V _ hw hx fun V1 l1=>(c_bsp_IsLeaf (h.le l1)).mono ?_
  rintro r V2 l2 rfl
  have l02:=l1.trans l2
  refine ⟨_,rfl,(fun hl=>by cases hl),fun _=>?_⟩
  obtain ⟨bb,u1,u2,u3,v1,v2,v3,w1,w2,w3,pl,pr,i,rfl,hb,hln,ha',hbb⟩:=h.le l02
  obtain ⟨⟨hok,hbd⟩,haa,hab⟩:=ha
  simp only [Tr.size] at hn hlen
  have hat:∀{W:View},V2.Le W->∀j v,([.int .i64 u1,.int .i64 u2,.pointer u3,.int .i64 v1,.int .i64 v2,.pointer v3,.int .i64 w1,.int .i64 w2,.pointer w3,.pointer pl,.pointer pr,.bool i]:List Value)[j]?=some v->W.at ((⟨bb,0,none⟩:Addr).add j) v:=by
   intro W hW j v hv;rw [add_zero'];exact blk_at (xs:=[_,_,_,_,_,_,_,_,_,_,_,_]) (hW _ _ hb) hv
  have h0:=View.Le.refl V2
  have lenA:∀d,clipC c ln=some d->d.length+a.size<=90000:=fun d ed=>by have:=clipC_len ed;omega
  have lenB:∀d,clipC c (revL ln)=some d->d.length+b.size<=90000:=fun d ed=>by have:=clipC_len ed;omega
  have canA:∀d,clipC c ln=some d->CanC (ln::M) d:=(clip_ok hC hk hok).1
  have canB:∀d,clipC c (revL ln)=some d->CanC (revL ln::M) d:=(clip_ok hC hk (ok_rev hok)).1
  have okA:∀x∈ln::M,okL x=true:=fun x hx=>(List.mem_cons.1 hx).elim (fun g=>g▸hok) (hk x)
  have okB:∀x∈revL ln::M,okL x=true:=fun x hx=>(List.mem_cons.1 hx).elim (fun g=>g▸ok_rev hok) (hk x)
  refine ⟨rfl,rfl,_,_,_,_,_,_,_,_,_,⟨bb,0,none⟩,rfl,hat h0 0 _ rfl,hat h0 1 _ rfl,hat h0 2 _ rfl,hat h0 3 _ rfl,hat h0 4 _ rfl,hat h0 5 _ rfl,hat h0 6 _ rfl,hat h0 7 _ rfl,hat h0 8 _ rfl,fun V4 l4=>(c_Cell_Divide (hL.le (l02.trans l4) fun _ _ g=>RSd.le g (l02.trans l4)) hcc (l:=ln) (hln.le l4) hbd (by omega) hC.asc).mono ?_⟩
  rintro r V5 l5 ⟨p1,n1,c1,p2,n2,c2,rfl,hd1,hd2⟩
  have l25:=l4.trans l5
  have l05:=l02.trans l25
  have hg5:GR 2 RPrt V5 n m vs o:=hg.mono fun _ _ g=>RPrt.le g l05
  have eP:partsC (.node ln a b) c=(match clipC c ln with|some d=>partsC a d|none=>[])++(match clipC c (revL ln) with|some d=>partsC b d|none=>[]):=rfl
  rw [eP]
  refine ⟨_,_,_,_,_,_,_,_,rfl,fun b1=>?_,fun b1=>?_⟩
  ·obtain ⟨d,ed⟩:=Option.isSome_iff_exists.1 b1
   obtain ⟨gd,gc⟩:=hd1 d ed
   rw [ed]
   refine ⟨rfl,rfl,pl,rdc (l25 _ _ hb) 9 rfl,fun V6 l6 bk f1 f2=>?_⟩
   refine (iha (V:=V6.lend [vb vs V6.w.heap.size bk]) (lb:=bk) (RT.le (V:=V2) (V':=V6.lend _) (fun b o h=>(l25.trans l6) b o h) ha') haa (canA d ed) okA (gd.le (V:=V5) (V':=V6.lend _) (fun b o h=>l6 b o h) fun _ _ g=>RSd.le g fun b o h=>l6 b o h) gc (lenA d ed) f1 (fun h=>⟨by simp [vb_ne h],f2 h⟩) (hg5.mono (V':=V6.lend _) fun _ _ g=>RPrt.le g fun b o h=>l6 b o h) hpos (by omega)).mono ?_
   rintro r V7 l7 ⟨bm,vm,n3,c3,a1,a2,rfl,a3,a4,a5⟩
   have l67:V6.Le (V7.shut.hideG (vm≠[]) bm):=le_moved (V:=V6) (V':=V7) (fun b o h=>l7 b o h) fun h=>(a2 h).imp id fun (g:vs≠[]/\bm=bk)=>by rw [g.2];exact f2 g.1
   have l57:=l6.trans l67
   have a3':GR 2 RPrt (V7.shut.hideG (vm≠[]) bm) n3 c3 vm (o++partsC a d):=a3.mono fun _ _ g=>RPrt.le g fun b o h=>h
   refine ⟨bm,vm,a1,a2,none,n3,c3,rfl,fun b2=>?_,fun b2 V11 bk32 hle e2 e3=>⟨bk32,vm,n3,c3,e2,fun h=>or3 (e3 h),rfl,?_,a4,by simp only [Tr.size];omega⟩⟩
   ·obtain ⟨d',ed'⟩:=Option.isSome_iff_exists.1 b2
    obtain ⟨gd',gc'⟩:=hd2 d' ed'
    rw [ed']
    refine ⟨rfl,rfl,pr,rdc ((l25.trans l57) _ _ hb) 10 rfl,fun V8 l8 bk27 f3 f4=>?_⟩
    have l58:=l57.trans l8
    refine (ihb (V:=V8.lend [vb vm V8.w.heap.size bk27]) (lb:=bk27) (RT.le (V:=V2) (V':=V8.lend _) (fun b o h=>(l25.trans l58) b o h) hbb) hab (canB d' ed') okB (gd'.le (V:=V5) (V':=V8.lend _) (fun b o h=>l58 b o h) fun _ _ g=>RSd.le g fun b o h=>l58 b o h) gc' (lenB d' ed') f3 (fun h=>⟨by simp [vb_ne h],f4 h⟩) (a3'.mono (V':=V8.lend _) fun _ _ g=>RPrt.le g fun b o h=>l8 b o h) a4 (by omega)).mono ?_
    rintro r V9 l9 ⟨bm',vm',n4,c4,x1,x2,rfl,x3,x4,x5⟩
    refine ⟨bm',vm',x1,x2,none,n4,c4,rfl,fun V10 bk31 hle e2 e3=>⟨bk31,vm',n4,c4,e2,fun h=>or3 (e3 h),rfl,?_,x4,by simp only [Tr.size];omega⟩⟩
    rw [←List.append_assoc]
    exact x3.mono fun _ _ g=>RPrt.le g fun b o h=>hle b o h
   ·have ed':clipC c (revL ln)=none:=Option.isNone_iff_eq_none.1 (by rw [←Option.not_isSome,b2];rfl)
    rw [ed']
    dsimp only
    rw [List.append_nil]
    exact a3'.mono fun _ _ g=>RPrt.le g hle
  ·have ed:clipC c ln=none:=Option.isNone_iff_eq_none.1 (by rw [←Option.not_isSome,b1];rfl)
   rw [ed]
   refine ⟨fun b2=>?_,fun b2 V15 bk40 hle e2 e3=>⟨bk40,vs,n,m,e2,fun h=>or3 (e3 h),rfl,?_,hpos,by simp only [Tr.size];omega⟩⟩
   ·obtain ⟨d',ed'⟩:=Option.isSome_iff_exists.1 b2
    obtain ⟨gd',gc'⟩:=hd2 d' ed'
    rw [ed']
    refine ⟨rfl,rfl,pr,rdc (l25 _ _ hb) 10 rfl,fun V12 l12 bk35 f3 f4=>?_⟩
    refine (ihb (V:=V12.lend [vb vs V12.w.heap.size bk35]) (lb:=bk35) (RT.le (V:=V2) (V':=V12.lend _) (fun b o h=>(l25.trans l12) b o h) hbb) hab (canB d' ed') okB (gd'.le (V:=V5) (V':=V12.lend _) (fun b o h=>l12 b o h) fun _ _ g=>RSd.le g fun b o h=>l12 b o h) gc' (lenB d' ed') f3 (fun h=>⟨by simp [vb_ne h],f4 h⟩) (hg5.mono (V':=V12.lend _) fun _ _ g=>RPrt.le g fun b o h=>l12 b o h) hpos (by omega)).mono ?_
    rintro r V13 l13 ⟨bm',vm',n4,c4,x1,x2,rfl,x3,x4,x5⟩
    refine ⟨bm',vm',x1,x2,none,n4,c4,rfl,fun V14 bk39 hle e2 e3=>⟨bk39,vm',n4,c4,e2,fun h=>or3 (e3 h),rfl,?_,x4,by simp only [Tr.size];omega⟩⟩
    exact x3.mono fun _ _ g=>RPrt.le g fun b o h=>hle b o h
   ·have ed':clipC c (revL ln)=none:=Option.isNone_iff_eq_none.1 (by rw [←Option.not_isSome,b2];rfl)
    rw [ed']
    show GR 2 RPrt _ n m vs (o++([]++[]))
    rw [List.append_nil,List.append_nil]
    exact hg5.mono fun _ _ g=>RPrt.le g hle
theorem c_bsp_Parts {V:View}{q:OA}{t:Tr}(h:RT V q t)(ha:t.All Okb)(hs:t.size<=80000) :
  Acts prog 95 #[.pointer q] V fun r V'=>∃p n c,r=.slice p n c/\Lst 2 RPrt V' p n (partsC t []):=by
 refine vc_bsp_T_Parts q V _ fun V1 l1=>(c_bsp_parts t (V:=V1) (lb:=0) (vs:=[]) (o:=[]) (m:=0) (n:=0) (cp:=none) (cn:=0) (cc:=0) (c:=[]) (M:=[]) (h.le l1) ha CanC.nil (fun x hx=>by cases hx) Lst.nil (Nat.le_refl _) (by simp;omega) (fun h=>absurd rfl h) (fun h=>absurd rfl h) GR.nil (fun h=>absurd rfl h) (by omega)).mono ?_
 rintro r V2 l2 ⟨bm,vm,n,c,a1,a2,rfl,a3,a4,a5⟩
 refine ⟨bm,vm,a1,fun h=>(a2 h).imp id fun g=>absurd rfl g.1,none,n,c,rfl,fun V3 l3 bk hb=>?_⟩
 have gl:=a3.len
 rw [List.nil_append] at a3 gl
 rw [gl]
 exact ⟨_,_,_,rfl,Lst.of_mrow hb (a3.row.le fun _ _ g=>RPrt.le g fun b o h=>l3 b o h) (by decide) (by rw [←gl];exact a3.le)⟩
end Go.Proofs.Tryz
