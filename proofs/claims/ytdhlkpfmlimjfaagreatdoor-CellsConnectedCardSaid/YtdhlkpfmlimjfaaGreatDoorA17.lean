import Derived.Test.YtdhlkpfmlimjfaaGreatDoorA13
import Derived.Test.YtdhlkpfmlimjfaaGreatDoorA16
import Derived.Test.YtdhlkpfmlimjfaaGreatDoorA9
import Derived.Test.YtdhlkpfmlimjfaaGreatDoorA15
import Derived.Test.YtdhlkpfmlimjfaaGreatDoorA14
import Derived.Test.YtdhlkpfmlimjfaaGreatDoorA8
import Derived.Test.YtdhlkpfmlimjfaaGreatDoorA6
set_option linter.unusedVariables false
open Go.IntKind (i64 u64 u32)
namespace Go.Proofs.Tryz
open Go.Eng Go.Big
theorem wi (l:List Nd):∀(f:Nat)(n:Int)(s:RS),s.bad=true->(cR l f n s).2.bad=true
 | 0,_,_,h=>h
 | f+1,n,s,h=>by
  simp only [cR]
  split
  ·exact h
  ·split
   ·exact h
   ·split
    ·rfl
    ·split
     ·split
      ·exact wi l f _ _ (wi l f _ _ h)
      ·rfl
     ·rfl
theorem Ez {l:List Nd}{root:Int}(hl:l.length<=65536):ofT l root=if (cR l (l.length+1) root ⟨List.replicate l.length false,0,false⟩).2.bad=false/\((cR l (l.length+1) root ⟨List.replicate l.length false,0,false⟩).2.seen.all id)=true then some (cR l (l.length+1) root ⟨List.replicate l.length false,0,false⟩).1 else none:=by
 have hc:=p_ l (l.length+1) root ⟨List.replicate l.length false,0,false⟩
 have hc0:(List.replicate l.length false).count false=l.length:=by simp
 dsimp only at hc
 rw [hc0] at hc
 unfold ofT
 rw [if_neg (by omega)]
 generalize cR l (l.length+1) root ⟨List.replicate l.length false,0,false⟩=r at *
 have e:(r.2.seen.all id)=true↔r.2.iD=l.length:=by
  have e1:(r.2.seen.all id)=true↔r.2.seen.count false=0:=by
   rw [List.count_eq_zero,List.all_eq_true]
   constructor
   ·intro h hm;have:=h false hm;cases this
   ·intro h x hx;cases x
    ·exact absurd hx h
    ·rfl
  rw [e1];omega
 dsimp only
 by_cases h1:r.2.bad=true
 ·rw [if_pos (.inl h1),if_neg (fun h=>by rw [h1] at h;cases h.1)]
 ·have h1:r.2.bad=false:=by simpa using h1
  by_cases h2:r.2.iD=l.length
  ·rw [if_neg (by rintro (h|h);rw [h1] at h;cases h;exact h h2),if_pos ⟨h1,e.2 h2⟩]
  ·rw [if_pos (.inr h2),if_neg (fun h=>h2 (e.1 h.2))]
theorem wm (l:List Nd):∀(f:Nat)(n:Int)(s:RS),(cR l f n s).2.bad=false->∀i:Nat,(cR l f n s).2.seen[i]?=some true->s.seen[i]?=some true\/∃x:Nd,l[i]?=some x/\okL x.ln=true
 | 0,_,_,_,_,h=>.inl h
 | f+1,n,s,h,i,hi=>by
  simp only [cR] at h hi
  by_cases n2:n=-2
  ·rw [if_pos n2] at hi;exact .inl hi
  rw [if_neg n2] at h hi
  by_cases n1:n=-1
  ·rw [if_pos n1] at hi;exact .inl hi
  rw [if_neg n1] at h hi
  by_cases n0:n<0
  ·rw [if_pos n0] at h;cases h
  rw [if_neg n0] at h hi
  cases hx:l[n.toNat]? with
  | none=>rw [hx] at h;cases h
  | some x=>
  cases hs:s.seen[n.toNat]? with
  | none=>rw [hx,hs] at h;cases h
  | some b=>
  cases b with
  | true=>rw [hx,hs] at h;cases h
  | false=>
   rw [hx,hs] at h hi
   dsimp only at h hi
   by_cases ho:okL x.ln=true
   ·rw [if_pos ho] at h hi
    dsimp only at h hi
    have hb:(cR l f x.left ⟨s.seen.set n.toNat true,s.iD+1,s.bad⟩).2.bad=false:=by
     cases e:(cR l f x.left ⟨s.seen.set n.toNat true,s.iD+1,s.bad⟩).2.bad
     ·rfl
     ·have:=wi l f x.right _ e
      rw [h] at this;cases this
    rcases wm l f x.right _ h i hi with g|g
    ·rcases wm l f x.left _ hb i g with g|g
     ·dsimp only at g
      rw [List.getElem?_set] at g
      split at g
      ·rename_i e;subst e;exact .inr ⟨x,hx,ho⟩
      ·exact .inl g
     ·exact .inr g
    ·exact .inr g
   ·rw [if_neg ho] at h;cases h
theorem ofT_okl {l:List Nd}{root:Int}{t:Tr}(h:ofT l root=some t):∀x∈l,okL x.ln=true:=by
 have hl:l.length<=65536:=by
  rcases Nat.lt_or_ge 65536 l.length with h'|h'
  ·unfold ofT at h;rw [if_pos h'] at h;cases h
  ·exact h'
 rw [Ez hl] at h
 split at h
 ·rename_i hc
  intro x hx
  obtain ⟨i,hi,rfl⟩:=List.mem_iff_getElem.1 hx
  have hm:=(mL l (l.length+1) root ⟨List.replicate l.length false,0,false⟩).2
  have hs:(cR l (l.length+1) root ⟨List.replicate l.length false,0,false⟩).2.seen[i]?=some true:=by
   have hlt:i<(cR l (l.length+1) root ⟨List.replicate l.length false,0,false⟩).2.seen.length:=by rw [hm];simpa using hi
   rw [List.getElem?_eq_getElem hlt]
   have:=List.all_eq_true.1 hc.2 _ (List.getElem_mem hlt)
   exact congrArg some this
  rcases wm l _ root _ hc.1 i hs with g|⟨y,hy,ho⟩
  ·simp [hi] at g
  ·rw [List.getElem?_eq_getElem hi] at hy;cases hy;exact ho
 ·cases h
theorem c_cells_parts {V:View}{v:Value}{root:Int}{l:List Nd}(hb:∀x∈l,Bd x.ln)(h:AT V v root l){y z:Value}(hy:Sent V 0 y)(hz:Sent V 1 z) :
  Acts prog 40 #[v] V fun r V'=>(ofT l root=none->r=.tuple #[.slice none 0 0,y])/\∀t,ofT l root=some t->(1024<t.depth->r=.tuple #[.slice none 0 0,z])/\(t.depth<=1024->∃p n c,r=.tuple #[.slice p n c,.nilIface]/\Lst 2 RPrt V' p n (partsC t [])):=by
 have h0:=h
 obtain ⟨q,n,c,rfl,-⟩:=h
 refine vc_cells_parts root q n c V _ fun V1 l1=>(c_bsp_Of' hb (h0.le l1)).mono ?_
 rintro r V2 l2 ⟨a,rfl,ha⟩
 have l02:=l1.trans l2
 refine ⟨_,_,rfl,fun g=>⟨y,⟨_,rfl,hy.le l02⟩,fun V3 l3=>?_⟩,fun g V4 l4=>?_⟩
 ·have g:ofT l root=none:=by cases e:ofT l root with
   | none=>rfl
   | some t=>rw [e] at g;cases g
  exact ⟨fun _=>rfl,fun t ht=>by rw [g] at ht;cases ht⟩
 ·cases e:ofT l root with
  | none=>rw [e] at g;cases g
  | some t=>
   have hs:=ofT_size e
   have hok:t.All Okb:=ofT_all (p:=Okb) (fun x hx=>⟨ofT_okl e x hx,hb x hx⟩) e
   refine (c_bsp_Depth t ((ha t e).le l4) (by omega)).mono ?_
   rintro r V5 l5 rfl
   have l45:=l4.trans l5
   refine ⟨_,rfl,fun hd=>⟨z,⟨_,rfl,hz.le (l02.trans l45)⟩,fun V6 l6=>⟨(fun k=>by cases k),fun t' ht=>?_⟩⟩,fun hd V7 l7=>(c_bsp_Parts ((ha t e).le (l45.trans l7)) hok (by omega)).mono ?_⟩
   ·cases ht
    have hd:=of_decide_eq_true hd
    exact ⟨fun _=>rfl,fun k=>by omega⟩
   ·rintro r V8 l8 ⟨p,n,c,rfl,hL⟩
    refine ⟨_,_,_,rfl,fun V9 l9=>⟨(fun k=>by cases k),fun t' ht=>?_⟩⟩
    cases ht
    have hd:=of_decide_eq_false hd
    exact ⟨fun k=>by omega,fun _=>⟨_,_,_,rfl,hL.le l9 fun _ _ g=>RPrt.le g l9⟩⟩
theorem parts_len:∀{t:Tr} {c:List Sd},∀p∈partsC t c,p.1.length<=c.length+t.size
 | .leaf b,c,p,hp=>by
  unfold partsC at hp
  rw [List.mem_singleton.1 hp];simp
 | .node l a b,c,p,hp=>by
  unfold partsC at hp
  simp only [Tr.size]
  rcases List.mem_append.1 hp with hp|hp
  ·cases e:clipC c l with
   | some d=>rw [e] at hp;have:=parts_len p hp;have:=clipC_len e;omega
   | none=>rw [e] at hp;cases hp
  ·cases e:clipC c (revL l) with
   | some d=>rw [e] at hp;have:=parts_len p hp;have:=clipC_len e;omega
   | none=>rw [e] at hp;cases hp
theorem parts_count:∀{t:Tr} {c:List Sd},(partsC t c).length<=t.size+1
 | .leaf b,c=>by unfold partsC;simp
 | .node l a b,c=>by
  unfold partsC
  simp only [Tr.size]
  rw [List.length_append]
  have h1:(match clipC c l with|some d=>partsC a d|none=>[]).length<=a.size+1:=by
   cases clipC c l with
   | some d=>exact parts_count
   | none=>exact Nat.zero_le _
  have h2:(match clipC c (revL l) with|some d=>partsC b d|none=>[]).length<=b.size+1:=by
   cases clipC c (revL l) with
   | some d=>exact parts_count
   | none=>exact Nat.zero_le _
  exact Nat.le_trans (Nat.add_le_add h1 h2) (by omega)
theorem lst_prt {V:View}{p:OA}{n:Nat}{al:List (List Sd×Bool)}(h:Lst 2 RPrt V p n al){i:Nat}(hi:i<al.length) :
  p.isSome=true/\∃(q:OA)(m e:Nat)(b:OA)(a:Addr),addrAdd p (i*2)=some a/\V.at (a.add 0) (.slice q m e)/\V.at (a.add 1) (.pointer b)/\Lst 17 RSd V q m al[i].1/\m<=e/\RT V b (.leaf al[i].2):=by
 obtain ⟨ad,h0,xs,h1,h2,h3⟩:=h.at_ i hi
 obtain ⟨q,m,e,b,ex,g1,g2,g3⟩:=h2
 have ex:=congrArg Array.toList (Value.agg.inj ex)
 dsimp only at ex
 subst ex
 refine ⟨?_,q,m,e,b,ad,h0,h3 0 _ rfl,h3 1 _ rfl,g1,g2,g3⟩
 cases p with
 | none=>cases h0
 | some a=>rfl
def RCl1 (V:View)(v:Value)(S:List L3):Prop:=∃p n c,v=.agg #[.slice p n c]/\Lst 6 RLv V p n S
theorem RCl1.le {V V':View}{v:Value}{S:List L3}(h:RCl1 V v S)(l:V.Le V'):RCl1 V' v S:=by
 obtain ⟨p,n,c,rfl,g⟩:=h;exact ⟨p,n,c,rfl,g.le l fun _ _ k=>RLv.le k l⟩
def RCode (_V:View)(v:Value)(b:Bool):Prop:=v=.agg #[.int .i64 (if b then -2 else -1)]
theorem c_cells_All {V:View}{v:Value}{root:Int}{l:List Nd}(hb:∀x∈l,Bd x.ln)(h:AT V v root l){y z:Value}(hy:Sent V 0 y)(hz:Sent V 1 z)(sy:SErr y)(sz:SErr z) :
  Acts prog 11 #[v] V fun r V'=>(ofT l root=none->r=.tuple #[.slice none 0 0,.slice none 0 0,y])/\∀t,ofT l root=some t->(1024<t.depth->r=.tuple #[.slice none 0 0,.slice none 0 0,z])/\(t.depth<=1024->∃p n c q m e,r=.tuple #[.slice p n c,.slice q m e,.nilIface]/\Lst 1 RCl1 V' p n ((partsC t []).map fun p=>p.1.map Prod.fst)/\Lst 1 RCode V' q m ((partsC t []).map Prod.snd)):=by
 have h0:=h
 obtain ⟨q,n,c,rfl,-⟩:=h
 have er:∀{y:Value},SErr y->IsIface y/\isNilI y=false:=fun h=>by obtain ⟨a,rfl⟩:=h;exact ⟨.inr ⟨_,_,rfl⟩,rfl⟩
 refine vc_cells_All root q n c V _ fun V1 l1=>(c_cells_parts hb (h0.le l1) (hy.le l1) (hz.le l1)).mono ?_
 rintro r V2 l2 ⟨h1,h2⟩
 have l02:=l1.trans l2
 cases e:ofT l root with
 | none=>
  obtain rfl:=h1 e
  exact ⟨_,_,_,_,rfl,(er sy).1,fun _ V3 l3=>⟨fun _=>rfl,fun t ht=>by cases ht⟩,fun hf=>by rw [(er sy).2] at hf;cases hf⟩
 | some t=>
  obtain ⟨g1,g2⟩:=h2 t e
  by_cases hd:1024<t.depth
  ·obtain rfl:=g1 hd
   exact ⟨_,_,_,_,rfl,(er sz).1,fun _ V3 l3=>⟨(fun k=>by cases k),fun t' ht=>by cases ht;exact ⟨fun _=>rfl,fun k=>by omega⟩⟩,fun hf=>by rw [(er sz).2] at hf;cases hf⟩
  ·obtain ⟨p,n',c',rfl,hL⟩:=g2 (by omega)
   have hsz:=ofT_size e
   have hcnt:=parts_count (t:=t) (c:=[])
   have hpl:=parts_len (t:=t) (c:=[])
   obtain rfl:=hL.len
   refine ⟨_,_,_,_,rfl,.inl rfl,(fun hf=>by cases hf),fun _=>?_⟩
   generalize eA:partsC t []=A at *
   refine ⟨fun z V'=>∃j:Nat,z.2.2.2.2.2.2=(j:Int)/\j<=A.length/\GR 1 RCl1 V' z.1 z.2.1 z.2.2.1 ((A.take j).map fun p=>p.1.map Prod.fst)/\GR 1 RCode V' z.2.2.2.1 z.2.2.2.2.1 z.2.2.2.2.2.1 ((A.take j).map Prod.snd),fun z=>A.length-z.2.2.2.2.2.2.toNat,⟨(0,0,[],0,0,[],0),by and_intros<;>first|rfl|trivial,0,rfl,Nat.zero_le _,GR.nil,GR.nil⟩,?_⟩
   rintro ⟨w1,w2,ws,x1,x2,xs,w⟩ V4 l4 ⟨j,ej,jle,ga,gb⟩
   dsimp only at ej ga gb ⊢
   subst ej
   refine ⟨by trivial,fun hlt=>?_,fun hlt V9 l9 b1 b2 k1 k2=>⟨(fun k=>by cases k),fun t' ht=>⟨fun k=>by cases ht;omega,fun _=>?_⟩⟩⟩
   ·have hlt:(j:Int)<A.length:=of_decide_eq_true hlt
    have hj:j<A.length:=by omega
    have wr:i64.wrap ((j:Int)+1)=((j+1:Nat):Int):=by rw [i64w (by omega)];rfl
    rw [wr,Int.toNat_natCast]
    obtain ⟨ps,pq,pm,pe,pb,ad,ha,k0,k1,gl,gle,grt⟩:=lst_prt (hL.le l4 fun _ _ g=>RPrt.le g l4) hj
    have plen:=hpl _ (List.getElem_mem hj)
    have et:A.take (j+1)=A.take j++[A[j]]:=(List.take_append_getElem hj).symm
    have la:=ga.len
    have lb:=gb.len
    rw [List.length_map,List.length_take] at la lb
    generalize A[j]=P at *
    obtain ⟨bb,c0,c1,c2,c3,c4,c5,c6,c7,c8,rr,rfl,hbb⟩:=grt
    simp only [List.length_nil,Nat.zero_add] at plen
    have call:∀{x:Int},x=(if P.2 then -2 else -1)->∀V5,V4.Le V5->Acts prog 41 #[.slice pq pm pe] V5 fun r V6=>∃(q:OA)(m e:Nat),r=.agg #[.slice q m e]/\∀{sp1 sp2:List Value} {c1 c2:Nat},w1+1<=c1->c1*1<=(w1+1)*1+sp1.length->x1+1<=c2->c2*1<=(x1+1)*1+sp2.length->GR 1 RCl1 V6 (w1+1) c1 (ws.take (w1*1)++[.slice q m e]++sp1) ((A.take (j+1)).map fun p=>p.1.map Prod.fst)/\GR 1 RCode V6 (x1+1) c2 (xs.take (x1*1)++[.int .i64 x]++sp2) ((A.take (j+1)).map Prod.snd):=fun {x} hx V5 l5=>by
     refine (c_Cell_API (gl.le l5 fun _ _ g=>RSd.le g l5) (by omega)).mono ?_
     rintro r V6 l6 ⟨q,m,e,rfl,hq,-⟩
     have l46:=l5.trans l6
     refine ⟨q,m,e,rfl,fun {sp1 sp2 c1 c2} a1 a2 a3 a4=>?_⟩
     rw [et,List.map_append,List.map_append]
     exact ⟨(ga.mono (V':=V6) fun _ _ g=>RCl1.le g l46).snoc (a:=P.1.map Prod.fst) rfl ⟨_,_,_,rfl,hq⟩ (by decide) a1 a2,(gb.mono (V':=V6) fun _ _ g=>g).snoc (a:=P.2) rfl (by rw [hx];rfl) (by decide) a3 a4⟩
    have o1:∀{q:OA} {m e:Nat},∀v∈([.slice q m e]:List Value),v.oneCell'=true:=fun v hv=>by rw [List.mem_singleton.1 hv];rfl
    have o2:∀{x:Int},∀v∈([.int .i64 x]:List Value),v.oneCell'=true:=fun v hv=>by rw [List.mem_singleton.1 hv];rfl
    refine ⟨ps,⟨by omega,by omega⟩,pq,pm,pe,_,ad,ha,k0,k1,rfl,rfl,P.2,rdc hbb 11 rfl,fun hP V5 l5=>(call (x:=-2) (by rw [hP];rfl) V5 l5).mono ?_,fun hP V7 l7=>(call (x:=-1) (by rw [hP];rfl) V7 l7).mono ?_⟩
    ·rintro r V6 l6 ⟨q,m,e,rfl,hg⟩
     refine ⟨q,m,e,rfl,by omega,ga.le,ga.cap,rfl,o1,fun sp1 c1 a1 a2=>⟨by omega,gb.le,gb.cap,rfl,o2,fun sp2 c2 a3 a4=>⟨(w1+1,c1,_,x1+1,c2,_,((j+1:Nat):Int)),by dsimp only;omega,by and_intros<;>first|rfl|trivial,j+1,rfl,hj,hg a1 a2 a3 a4⟩⟩⟩
    ·rintro r V8 l8 ⟨q,m,e,rfl,hg⟩
     refine ⟨q,m,e,rfl,by omega,ga.le,ga.cap,rfl,o1,fun sp1 c1 a1 a2=>⟨by omega,gb.le,gb.cap,rfl,o2,fun sp2 c2 a3 a4=>⟨(w1+1,c1,_,x1+1,c2,_,((j+1:Nat):Int)),by dsimp only;omega,by and_intros<;>first|rfl|trivial,j+1,rfl,hj,hg a1 a2 a3 a4⟩⟩⟩
   ·have hlt:¬(j:Int)<A.length:=of_decide_eq_false hlt
    obtain rfl:j=A.length:=by omega
    rw [List.take_length] at ga gb
    cases ht
    rw [eA]
    have e1:=ga.len
    have e2:=gb.len
    have f1:=ga.le
    have f2:=gb.le
    subst e1 e2
    exact ⟨_,_,_,_,_,_,rfl,Lst.of_mrow k1 (ga.row.le fun _ _ g=>RCl1.le g l9) (by decide) f1,Lst.of_mrow k2 (gb.row.le fun _ _ g=>g) (by decide) f2⟩
def LH (V:View)(v:Value)(p:Rat×Rat):Prop:=RP V v p.1 p.2
theorem LH.le {V V':View}{v:Value}{p:Rat×Rat}(h:LH V v p)(l:V.Le V'):LH V' v p:=RP.le h l
def PF (v:Value):Prop:=∃(x1 x2:Int)(p:OA)(y1 y2:Int)(q:OA)(z1 z2:Int)(r:OA)(u1 u2:Int)(t:OA)(w1 w2:Int)(o:OA)(a b:Bool),
 v=.agg #[.int .i64 x1,.int .i64 x2,.pointer p,.int .i64 y1,.int .i64 y2,.pointer q,.int .i64 z1,.int .i64 z2,.pointer r,.int .i64 u1,.int .i64 u2,.pointer t,.int .i64 w1,.int .i64 w2,.pointer o,.bool a,.bool b]
theorem Ik {m l:L3}{t:Sp}{k:Nat}(h:t.sz k):(CO m t l).sz k:=by
 unfold CO;split
 ·exact h
 ·exact Sp.Ia h
theorem c_Fr_Overlap {V:View}{v w:Value}{L:L3}{s:Sp}{M:L3}{t:Sp}(h:Dn V v L s)(h':Dn V w M t){k:Nat}(sl:kU k L)(ss:s.sz k)(sm:kU k M)(st:t.sz k)(hk:20*k+20<274877906944) :
  Acts prog 121 #[v,w] V fun r V'=>∃u,r=.tuple #[u,.bool (ovB L s M t)]/\PF u/\(ovB L s M t=true->Dn V' u L (s.meet (CO M t L))):=by
 have h0':=h'
 obtain ⟨_,_,_,_,_,_,_,_,_,_,_,_,_,_,_,rfl,h1,h2⟩:=h
 obtain ⟨_,_,_,_,_,_,_,_,_,_,_,_,_,_,_,rfl,-,-⟩:=h'
 refine nk _ _ _ _ _ _ _ _ _ _ _ _ _ _ _ _ _ _ _ _ _ _ _ _ _ _ _ _ _ _ _ _ _ _ V _ fun V1 l1=>(Ck (h0'.le l1) (h1.le l1) sm st sl (by omega)).mono ?_
 rintro r V2 l2 ⟨u,rfl,⟨_,_,_,_,_,_,_,_,rfl⟩,g⟩
 unfold ovB
 refine ⟨_,_,_,_,_,_,_,_,_,rfl,fun hb V3 l3=>?_,fun hb V4 l4=>?_⟩
 ·rw [Bool.not_eq_true'] at hb
  rw [hb]
  exact ⟨_,rfl,⟨_,_,_,_,_,_,_,_,_,_,_,_,_,_,_,_,_,rfl⟩,(fun h=>nomatch h)⟩
 ·rw [Bool.not_eq_false'] at hb
  rw [hb]
  refine (nF (h2.le (l1.trans (l2.trans l4))) ((g hb).le l4) ss (Ik st) (by omega)).mono ?_
  rintro r V5 l5 ⟨u,rfl,g2⟩
  have g20:=g2
  obtain ⟨_,_,_,_,_,_,rfl,-,-⟩:=g2
  refine ⟨_,_,_,_,_,_,_,_,_,rfl,fun he V6 l6=>?_,fun he V7 l7=>?_⟩
  ·have he:(s.meet (CO M t L)).emp=true:=by simpa using he
   rw [he]
   exact ⟨_,rfl,⟨_,_,_,_,_,_,_,_,_,_,_,_,_,_,_,_,_,rfl⟩,(fun h=>nomatch h)⟩
  ·have he:(s.meet (CO M t L)).emp=false:=by simpa using he
   rw [he]
   exact ⟨_,rfl,⟨_,_,_,_,_,_,_,_,_,_,_,_,_,_,_,_,_,rfl⟩,fun _=>⟨_,_,_,_,_,_,_,_,_,_,_,_,_,_,_,rfl,h1.le (l1.trans (l2.trans (l4.trans (l5.trans l7)))),g20.le l7⟩⟩
theorem c_Cell_Touches {V:View}{cp dp:OA}{cn cc dn dc:Nat}{c d:List Sd}(h:Lst 17 RSd V cp cn c)(h':Lst 17 RSd V dp dn d)(hn:c.length<=100000)(hn':d.length<=100000) :
  Acts prog 73 #[.slice cp cn cc,.slice dp dn dc] V fun r V'=>r=.bool (touchC c d):=by
 obtain rfl:=h.len
 obtain rfl:=h'.len
 refine vc_geo_Cell_Touches cp _ cc dp _ dc V _ ⟨fun z _=>∃j:Nat,z=(j:Int)/\j<=c.length/\∀s∈c.take j,∀u∈d,ovB s.1 s.2 u.1 u.2=false,fun z=>(c.length-z).toNat,⟨0,by and_intros<;>first|rfl|trivial,0,rfl,Nat.zero_le _,(fun s hs=>by rw [List.take_zero] at hs;cases hs)⟩,?_⟩
 rintro z V1 l1 ⟨j,rfl,jle,hall⟩
 refine ⟨by trivial,fun hlt=>?_,fun hlt V6 l6=>?_⟩
 rotate_left
 ·have hlt:¬(j:Int)<c.length:=of_decide_eq_false hlt
  obtain rfl:j=c.length:=by omega
  rw [List.take_length] at hall
  have:touchC c d=false:=by
   unfold touchC
   rw [List.any_eq_false]
   intro s hs
   rw [Bool.not_eq_true,List.any_eq_false]
   intro u hu
   rw [hall s hs u hu];exact Bool.false_ne_true
  rw [this]
 have hlt:(j:Int)<c.length:=of_decide_eq_true hlt
 have hj:j<c.length:=by omega
 have wr:i64.wrap ((j:Int)+1)=((j+1:Nat):Int):=by rw [i64w (by omega)];rfl
 rw [wr,Int.toNat_natCast]
 obtain ⟨ps,a1,a2,a3,a4,a5,a6,a7,a8,a9,b1,b2,b3,b4,b5,b6,a,ha,k0,k1,k2,k3,k4,k5,k6,k7,k8,k9,k10,k11,k12,k13,k14,k15,k16,hr⟩:=lst_rsd (h.le l1 fun _ _ g=>RSd.le g l1) hj
 have hm:=List.getElem_mem hj
 have et:c.take (j+1)=c.take j++[c[j]]:=(List.take_append_getElem hj).symm
 generalize c[j]=S at *
 refine ⟨ps,⟨by omega,by omega⟩,_,_,_,_,_,_,_,_,_,_,_,_,_,_,_,_,_,a,ha,k0,k1,k2,k3,k4,k5,k6,k7,k8,k9,k10,k11,k12,k13,k14,k15,k16,fun z _=>∃i:Nat,z=(i:Int)/\i<=d.length/\∀u∈d.take i,ovB S.1 S.2 u.1 u.2=false,fun z=>(d.length-z).toNat,⟨0,by and_intros<;>first|rfl|trivial,0,rfl,Nat.zero_le _,(fun s hs=>by rw [List.take_zero] at hs;cases hs)⟩,?_⟩
 rintro z V2 l2 ⟨i,rfl,ile,hin⟩
 refine ⟨by trivial,fun hlt=>?_,fun hlt=>⟨((j+1:Nat):Int),by first|omega|(dsimp only;omega),by and_intros<;>first|rfl|trivial,j+1,rfl,hj,fun s hs u hu=>?_⟩⟩
 rotate_left
 ·have hlt:¬(i:Int)<d.length:=of_decide_eq_false hlt
  obtain rfl:i=d.length:=by omega
  rw [List.take_length] at hin
  rw [et] at hs
  rcases List.mem_append.1 hs with g|g
  ·exact hall s g u hu
  ·rw [List.mem_singleton.1 g];exact hin u hu
 have hlt:(i:Int)<d.length:=of_decide_eq_true hlt
 have hi:i<d.length:=by omega
 have wr2:i64.wrap ((i:Int)+1)=((i+1:Nat):Int):=by rw [i64w (by omega)];rfl
 rw [wr2,Int.toNat_natCast]
 obtain ⟨ps',c1,c2,c3,c4,c5,c6,c7,c8,c9,d1,d2,d3,d4,d5,d6,aa,haa,m0,m1,m2,m3,m4,m5,m6,m7,m8,m9,m10,m11,m12,m13,m14,m15,m16,hr'⟩:=lst_rsd (h'.le (l1.trans l2) fun _ _ g=>RSd.le g (l1.trans l2)) hi
 have hm':=List.getElem_mem hi
 have et':d.take (i+1)=d.take i++[d[i]]:=(List.take_append_getElem hi).symm
 generalize d[i]=U at *
 refine ⟨ps',⟨by omega,by omega⟩,_,_,_,_,_,_,_,_,_,_,_,_,_,_,_,_,_,aa,haa,m0,m1,m2,m3,m4,m5,m6,m7,m8,m9,m10,m11,m12,m13,m14,m15,m16,fun V3 l3=>(c_Fr_Overlap (k:=1000000) (hr.1.le (l2.trans l3)) (hr'.1.le l3) (hr.2.1.szl.up (by omega)) ⟨hr.2.2.1.mono (by omega),hr.2.2.2.mono (by omega)⟩ (hr'.2.1.szl.up (by omega)) ⟨hr'.2.2.1.mono (by omega),hr'.2.2.2.mono (by omega)⟩ (by omega)).mono ?_⟩
 rintro r V4 l4 ⟨u,rfl,⟨x1,x2,x3,x4,x5,x6,x7,x8,x9,y1,y2,y3,y4,y5,y6,y7,y8,rfl⟩,-⟩
 refine ⟨_,_,_,_,_,_,_,_,_,_,_,_,_,_,_,_,_,_,rfl,fun ho V5 l5=>?_,fun ho=>⟨((i+1:Nat):Int),by first|omega|(dsimp only;omega),by and_intros<;>first|rfl|trivial,i+1,rfl,hi,fun u hu=>?_⟩⟩
 ·have:touchC c d=true:=by
   unfold touchC
   exact List.any_eq_true.2 ⟨S,hm,List.any_eq_true.2 ⟨U,hm',ho⟩⟩
  rw [this]
 ·rw [et'] at hu
  rcases List.mem_append.1 hu with g|g
  ·exact hin u g
  ·rw [List.mem_singleton.1 g];exact ho
def fZ (a:List Bool)(i:Nat):Bool:=a.getD i false
def gT:List Bool->Nat
 | []=>0
 | x::r=>(if x then 1 else 0)+gT r
def Dj (a b:List Bool):Prop:=a.length=b.length/\∀i,fZ a i=true->fZ b i=true
theorem Dj.refl (a:List Bool):Dj a a:=⟨rfl,fun _ h=>h⟩
theorem Dj.trans {a b c:List Bool}(h:Dj a b)(h':Dj b c):Dj a c:=⟨h.1.trans h'.1,fun i g=>h'.2 i (h.2 i g)⟩
theorem BE:∀a:List Bool,gT a<=a.length
 | []=>Nat.le_refl _
 | x::r=>by
  have:=BE r
  unfold gT
  rw [List.length_cons]
  split<;>omega
theorem lu:∀{a b:List Bool},Dj a b->gT a<=gT b/\(gT a=gT b->a=b)
 | [],[],_=>⟨Nat.le_refl _,fun _=>rfl⟩
 | [],_::_,h=>by have:=h.1;simp at this
 | _::_,[],h=>by have:=h.1;simp at this
 | x::r,y::s,h=>by
  obtain ⟨i1,i2⟩:=lu (a:=r) (b:=s) ⟨by have:=h.1;simpa using this,fun i g=>by have:=h.2 (i+1);unfold fZ at this g ⊢;simpa using this (by simpa using g)⟩
  have h0:=h.2 0
  unfold fZ at h0
  simp only [List.getD_cons_zero] at h0
  unfold gT
  cases x<;>cases y<;>simp at h0 ⊢
  ·exact ⟨i1,i2⟩
  ·exact ⟨by omega,by omega⟩
  ·exact ⟨i1,i2⟩
def xi (a:List Bool)(x:Nat×Nat):List Bool:=(a.set x.1 (fZ a x.1||fZ a x.2)).set x.2 (fZ a x.1||fZ a x.2)
theorem As {a:List Bool}{i j:Nat}{v:Bool}(h:i<a.length):fZ (a.set i v) j=if j=i then v else fZ a j:=by
 unfold fZ
 rw [List.getD_eq_getElem?_getD,List.getElem?_set]
 by_cases e:i=j
 ·subst e;rw [if_pos rfl,if_pos h,if_pos rfl];rfl
 ·rw [if_neg e,if_neg (fun g=>e g.symm),List.getD_eq_getElem?_getD]
theorem BS {a:List Bool}{x:Nat×Nat}(h1:x.1<a.length)(h2:x.2<a.length)(j:Nat):fZ (xi a x) j=if j=x.2\/j=x.1 then (fZ a x.1||fZ a x.2) else fZ a j:=by
 unfold xi
 rw [As (by rw [List.length_set];exact h2),As h1]
 by_cases e2:j=x.2
 ·rw [if_pos e2,if_pos (.inl e2)]
 ·rw [if_neg e2]
  by_cases e1:j=x.1
  ·rw [if_pos e1,if_pos (.inr e1)]
  ·rw [if_neg e1,if_neg (fun g=>g.elim e2 e1)]
theorem yL {a:List Bool}{x:Nat×Nat}(h1:x.1<a.length)(h2:x.2<a.length):Dj a (xi a x):=by
 refine ⟨by unfold xi;rw [List.length_set,List.length_set],fun i g=>?_⟩
 rw [BS h1 h2]
 split
 ·rename_i h
  rcases h with rfl|rfl
  ·rw [g];simp
  ·rw [g];simp
 ·exact g
def c_ (ps:List (Nat×Nat))(a:List Bool):List Bool:=ps.foldl xi a
theorem pZ:∀{ps:List (Nat×Nat)} {a:List Bool},(∀x∈ps,x.1<a.length/\x.2<a.length)->Dj a (c_ ps a)
 | [],a,_=>Dj.refl a
 | x::ps,a,h=>by
  obtain ⟨h1,h2⟩:=h x (List.mem_cons_self ..)
  have l:=yL h1 h2
  exact l.trans (pZ (a:=xi a x) fun y hy=>by rw [←l.1];exact h y (List.mem_cons_of_mem _ hy))
theorem yN:∀{ps:List (Nat×Nat)} {a:List Bool},(∀x∈ps,x.1<a.length/\x.2<a.length)->gT (c_ ps a)=gT a->c_ ps a=a/\∀x∈ps,fZ a x.1=fZ a x.2
 | [],a,_,_=>⟨rfl,fun x hx=>by cases hx⟩
 | x::ps,a,h,e=>by
  obtain ⟨h1,h2⟩:=h x (List.mem_cons_self ..)
  have l:=yL h1 h2
  have hp:∀y∈ps,y.1<(xi a x).length/\y.2<(xi a x).length:=fun y hy=>by rw [←l.1];exact h y (List.mem_cons_of_mem _ hy)
  have l2:=pZ hp
  have c1:=lu l
  have c2:=lu l2
  have e:gT (c_ ps (xi a x))=gT a:=e
  have ea:a=xi a x:=c1.2 (by omega)
  have hx:fZ a x.1=fZ a x.2:=by
   have g1:=BS h1 h2 x.1
   have g2:=BS h1 h2 x.2
   rw [←ea,if_pos (.inr rfl)] at g1
   rw [←ea,if_pos (.inl rfl)] at g2
   rw [g1.trans g2.symm]
  rw [←ea] at e hp
  obtain ⟨f1,f2⟩:=yN hp e
  refine ⟨by show c_ ps (xi a x)=a;rw [←ea];exact f1,fun y hy=>?_⟩
  rcases List.mem_cons.1 hy with rfl|hy
  ·exact hx
  ·exact f2 y hy
theorem CR {ps:List (Nat×Nat)}{a:List Bool}(h:∀x∈ps,x.1<a.length/\x.2<a.length)(hc:∀x∈ps,fZ a x.1=fZ a x.2):gT (c_ ps a)=gT a:=by
 suffices h:c_ ps a=a by rw [h]
 induction ps with
 | nil=>rfl
 | cons x ps ih=>
  obtain ⟨h1,h2⟩:=h x (List.mem_cons_self ..)
  have e:xi a x=a:=by
   refine ((lu (yL h1 h2)).2 ?_).symm
   have:∀i,fZ (xi a x) i=true->fZ a i=true:=fun i g=>by
    rw [BS h1 h2] at g
    split at g
    ·rename_i k
     have hx:=hc x (List.mem_cons_self ..)
     rw [hx,Bool.or_self] at g
     rcases k with rfl|rfl
     ·exact g
     ·rw [hx];exact g
    ·exact g
   have:=lu ⟨(yL h1 h2).1.symm,this⟩
   have:=(lu (yL h1 h2)).1
   omega
  show c_ ps (xi a x)=a
  rw [e]
  exact ih (fun y hy=>h y (List.mem_cons_of_mem _ hy)) fun y hy=>hc y (List.mem_cons_of_mem _ hy)
def cD (ps:List (Nat×Nat)):Nat->List Bool->List Bool
 | 0,a=>a
 | k+1,a=>c_ ps (cD ps k a)
theorem rL {ps:List (Nat×Nat)}{a:List Bool}(h:∀x∈ps,x.1<a.length/\x.2<a.length):∀k,Dj a (cD ps k a)
 | 0=>Dj.refl a
 | k+1=>by
  have l:=rL h k
  exact l.trans (pZ fun x hx=>by rw [←l.1];exact h x hx)
theorem uU {ps:List (Nat×Nat)}{a:List Bool}(h:∀x∈ps,x.1<a.length/\x.2<a.length)(h1:1<=gT a):∀k,(∀x∈ps,fZ (cD ps k a) x.1=fZ (cD ps k a) x.2)\/k+1<=gT (cD ps k a)
 | 0=>.inr h1
 | k+1=>by
  have l:=rL h k
  have hk:∀x∈ps,x.1<(cD ps k a).length/\x.2<(cD ps k a).length:=fun x hx=>by rw [←l.1];exact h x hx
  by_cases c:gT (c_ ps (cD ps k a))=gT (cD ps k a)
  ·obtain ⟨f1,f2⟩:=yN hk c
   left
   intro x hx
   show fZ (c_ ps (cD ps k a)) x.1=fZ (c_ ps (cD ps k a)) x.2
   rw [f1];exact f2 x hx
  ·rcases uU h h1 k with g|g
   ·exact absurd (CR hk g) c
   ·right
    have:=(lu (pZ hk)).1
    show k+1+1<=gT (c_ ps (cD ps k a))
    omega
theorem CQ {ps:List (Nat×Nat)}{a:List Bool}(h:∀x∈ps,x.1<a.length/\x.2<a.length)(h0:fZ a 0=true)(h1:1<=gT a)(conn:∀S:Nat->Prop,(∀x∈ps,S x.1↔S x.2)->S 0->∀i,i<a.length->S i):∀i,i<a.length->fZ (cD ps a.length a) i=true:=by
 have l:=rL h a.length
 have fix:∀x∈ps,fZ (cD ps a.length a) x.1=fZ (cD ps a.length a) x.2:=by
  rcases uU h h1 a.length with g|g
  ·exact g
  ·have:=BE (cD ps a.length a)
   rw [←l.1] at this
   omega
 exact conn (fun i=>fZ (cD ps a.length a) i=true) (fun x hx=>by rw [fix x hx]) (l.2 0 h0)
def rowP (f:Nat->Nat->Bool)(i k:Nat):List (Nat×Nat):=((List.range k).filter fun k=>decide (i<k)&&f i k).map fun k=>(i,k)
def pairsP (f:Nat->Nat->Bool)(n:Nat):Nat->List (Nat×Nat)
 | 0=>[]
 | i+1=>pairsP f n i++rowP f i n
theorem row_succ (f:Nat->Nat->Bool)(i k:Nat):rowP f i (k+1)=rowP f i k++(if i<k/\f i k=true then [(i,k)] else []):=by
 unfold rowP
 rw [List.range_succ,List.filter_append,List.map_append]
 congr 1
 by_cases c:i<k/\f i k=true
 ·rw [if_pos c,List.filter_cons_of_pos (by rw [decide_eq_true c.1,c.2];rfl)];rfl
 ·rw [if_neg c,List.filter_cons_of_neg (by
   rw [Bool.and_eq_true,decide_eq_true_eq];exact c)];rfl
theorem row_low (f:Nat->Nat->Bool)(i:Nat):∀k,k<=i+1->rowP f i k=[]
 | 0,_=>rfl
 | k+1,h=>by rw [row_succ,row_low f i k (by omega),if_neg (fun c=>by omega)];rfl
theorem Gr {f:Nat->Nat->Bool}{i k:Nat}{x:Nat×Nat}:x∈rowP f i k↔x.1=i/\i<x.2/\x.2<k/\f i x.2=true:=by
 unfold rowP
 rw [List.mem_map]
 constructor
 ·rintro ⟨j,hj,rfl⟩
  obtain ⟨h1,h2⟩:=List.mem_filter.1 hj
  rw [Bool.and_eq_true,decide_eq_true_eq] at h2
  exact ⟨rfl,h2.1,List.mem_range.1 h1,h2.2⟩
 ·rintro ⟨rfl,h2,h3,h4⟩
  exact ⟨x.2,List.mem_filter.2 ⟨List.mem_range.2 h3,by rw [decide_eq_true h2,h4];rfl⟩,rfl⟩
theorem kI {f:Nat->Nat->Bool}{n:Nat}{x:Nat×Nat}:∀{i:Nat},x∈pairsP f n i↔x.1<i/\x.1<x.2/\x.2<n/\f x.1 x.2=true
 | 0=>⟨(fun h=>by cases h),fun h=>absurd h.1 (Nat.not_lt_zero _)⟩
 | i+1=>by
  unfold pairsP
  rw [List.mem_append,kI,Gr]
  constructor
  ·rintro (⟨a,b⟩|⟨rfl,b⟩)
   ·exact ⟨by omega,b⟩
   ·exact ⟨by omega,b⟩
  ·rintro ⟨a,b⟩
   by_cases c:x.1=i
   ·exact .inr ⟨c,c▸b⟩
   ·exact .inl ⟨by omega,b⟩
def emptyPart:List Sd×Bool:=([],false)
def touchAt (L:List (List Sd×Bool))(i k:Nat):Bool:=touchC (L.getD i emptyPart).1 (L.getD k emptyPart).1
theorem touchAt_get {L:List (List Sd×Bool)}{i k:Nat}(hi:i<L.length)(hk:k<L.length):touchAt L i k=touchC L[i].1 L[k].1:=by
 unfold touchAt
 rw [List.getD_eq_getElem?_getD,List.getD_eq_getElem?_getD,List.getElem?_eq_getElem hi,List.getElem?_eq_getElem hk];rfl
theorem CI {L:List (List Sd×Bool)}(hc:zT L)(hne:L≠[]):∀i,i<L.length->fZ (cD (pairsP (touchAt L) L.length L.length) L.length ((List.replicate L.length false).set 0 true)) i=true:=by
 have hpos:=List.length_pos_iff.2 hne
 have hl:((List.replicate L.length false).set 0 true).length=L.length:=by simp
 have h0:fZ ((List.replicate L.length false).set 0 true) 0=true:=by rw [As (by simpa using hpos),if_pos rfl]
 have h1:1<=gT ((List.replicate L.length false).set 0 true):=by
  obtain ⟨n,hn⟩:∃n,L.length=n+1:=⟨L.length-1,by omega⟩
  rw [hn,List.replicate_succ,List.set_cons_zero]
  unfold gT
  simp
 have:=CQ (ps:=pairsP (touchAt L) L.length L.length) (fun x hx=>by
  obtain ⟨a,b,c,-⟩:=kI.1 hx
  rw [hl];exact ⟨by omega,c⟩) h0 h1 (fun S hS s0=>by
  rw [hl]
  refine hc S (fun i j hi hj hlt ht=>?_) s0
  exact hS (i,j) (kI.2 ⟨hi,hlt,hj,by rw [touchAt_get hi hj];exact ht⟩))
 rw [hl] at this
 exact this
def ApS (V:View)(w:Value)(p:Rat×Rat):Prop:=(∃b q n c q' n' c' d r m e r' m' e',w=.agg #[.bool b,.slice q n c,.slice q' n' c',.bool d,.slice r m e,.slice r' m' e']) /\
 ∀V1,V.Le V1->Acts prog 51 #[w] V1 fun r V'=>RPt V' r p.1 p.2
theorem ApS.le {V V':View}{w:Value}{p:Rat×Rat}(h:ApS V w p)(l:V.Le V'):ApS V' w p:=⟨h.1,fun V1 l1=>h.2 V1 (l.trans l1)⟩
theorem ApS.of {V:View}{w:Value}{p:Rat×Rat}(h:I1 V w p.1 p.2){k:Nat}(s1:Sz k p.1)(s2:Sz k p.2)(hk:k<=1099511627776):ApS V w p:=by
 refine ⟨?_,fun V1 l1=>Ae (h.le l1) s1 s2 hk⟩
 obtain ⟨b,q,n,c,q',n',c',d,r,m,e,r',m',e',rfl,-⟩:=h
 exact ⟨_,_,_,_,_,_,_,_,_,_,_,_,_,_,rfl⟩
theorem ApS.raw {V:View}{b d:Bool}{q q' r r':OA}{n c n' c' m e m' e':Nat}{xs ys us vs:List Nat}(h1:RD V q n c xs)(h2:RD V q' n' c' ys)(h3:RD V r m e us)(h4:RD V r' m' e' vs)(k1:xs.length<=1000000)(k2:ys.length<=1000000)(k3:us.length<=1000000)(k4:vs.length<=1000000) :
  ApS V (.agg #[.bool b,.slice q n c,.slice q' n' c',.bool d,.slice r m e,.slice r' m' e']) (mkRat (aO b xs) (val ys),mkRat (aO d us) (val vs)):=by
 refine ⟨⟨_,_,_,_,_,_,_,_,_,_,_,_,_,_,rfl⟩,fun V0 l0=>?_⟩
 refine pf b q n c q' n' c' d r m e r' m' e' V0 _ fun V1 l1=>(lk b (h1.le (l0.trans l1)) (h2.le (l0.trans l1)) (by omega) (by omega)).mono ?_
 rintro r V2 l2 g
 have g0:=g
 obtain ⟨x1,x2,x3,rfl⟩:=g.shape
 refine ⟨_,_,_,rfl,fun V3 l3=>(lk d (h3.le (l0.trans (l1.trans (l2.trans l3)))) (h4.le (l0.trans (l1.trans (l2.trans l3)))) (by omega) (by omega)).mono ?_⟩
 rintro r V4 l4 g'
 have g0':=g'
 obtain ⟨y1,y2,y3,rfl⟩:=g'.shape
 exact ⟨_,_,_,rfl,fun V5 l5=>⟨_,_,_,_,_,_,rfl,g0.le (l3.trans (l4.trans l5)),g0'.le l5⟩⟩
theorem ApS.zero {V:View}:ApS V (.agg #[.bool false,.slice none 0 0,.slice none 0 0,.bool false,.slice none 0 0,.slice none 0 0]) (0,0):=by
 have e:mkRat (aO false []) (val [])=0:=by decide
 have:=@ApS.raw V false false none none none none 0 0 0 0 0 0 0 0 [] [] [] [] RD.nil RD.nil RD.nil RD.nil (by decide) (by decide) (by decide) (by decide)
 rw [e] at this
 exact this
def RPr (_V:View)(v:Value)(x:Nat×Nat):Prop:=v=.agg #[.int .i64 (x.1:Int),.int .i64 (x.2:Int)]
theorem row_len (f:Nat->Nat->Bool)(i k:Nat):(rowP f i k).length<=k:=by
 unfold rowP
 rw [List.length_map]
 have h1:=List.length_filter_le (fun k=>decide (i<k)&&f i k) (List.range k)
 rw [List.length_range] at h1
 exact h1
theorem pairs_len (f:Nat->Nat->Bool)(n:Nat):∀i,(pairsP f n i).length<=i*n
 | 0=>Nat.zero_le _
 | i+1=>by
  unfold pairsP
  rw [List.length_append,Nat.succ_mul]
  exact Nat.add_le_add (pairs_len f n i) (row_len f i n)
theorem c_cells_Neighbors {V:View}{v:Value}{root:Int}{l:List Nd}(hb:∀x∈l,Bd x.ln)(h:AT V v root l){y z:Value}(hy:Sent V 0 y)(hz:Sent V 1 z)(sy:SErr y)(sz:SErr z) :
  Acts prog 31 #[v] V fun r V'=>(ofT l root=none->r=.tuple #[.slice none 0 0,y])/\∀t,ofT l root=some t->(1024<t.depth->r=.tuple #[.slice none 0 0,z])/\(t.depth<=1024->∃p n c,r=.tuple #[.slice p n c,.nilIface]/\Lst 2 RPr V' p n (pairsP (touchAt (partsC t [])) (partsC t []).length (partsC t []).length)):=by
 have h0:=h
 obtain ⟨q,n,c,rfl,-⟩:=h
 have er:∀{y:Value},SErr y->IsIface y/\isNilI y=false:=fun h=>by obtain ⟨a,rfl⟩:=h;exact ⟨.inr ⟨_,_,rfl⟩,rfl⟩
 refine vc_cells_Neighbors root q n c V _ fun V1 l1=>(c_cells_parts hb (h0.le l1) (hy.le l1) (hz.le l1)).mono ?_
 rintro r V2 l2 ⟨h1,h2⟩
 have l02:=l1.trans l2
 cases e:ofT l root with
 | none=>
  obtain rfl:=h1 e
  exact ⟨_,_,_,_,rfl,(er sy).1,fun _ V3 l3=>⟨fun _=>rfl,fun t ht=>by cases ht⟩,fun hf=>by rw [(er sy).2] at hf;cases hf⟩
 | some t=>
  obtain ⟨g1,g2⟩:=h2 t e
  by_cases hd:1024<t.depth
  ·obtain rfl:=g1 hd
   exact ⟨_,_,_,_,rfl,(er sz).1,fun _ V3 l3=>⟨(fun k=>by cases k),fun t' ht=>by cases ht;exact ⟨fun _=>rfl,fun k=>by omega⟩⟩,fun hf=>by rw [(er sz).2] at hf;cases hf⟩
  ·obtain ⟨p,n',c',rfl,hL⟩:=g2 (by omega)
   have hsz:=ofT_size e
   have hcnt:=parts_count (t:=t) (c:=[])
   have hpl:=parts_len (t:=t) (c:=[])
   obtain rfl:=hL.len
   refine ⟨_,_,_,_,rfl,.inl rfl,(fun hf=>by cases hf),fun _=>?_⟩
   generalize eA:partsC t []=A at *
   have hA:A.length<=65537:=by omega
   refine ⟨fun z V'=>∃j:Nat,z.2.2.2=(j:Int)/\j<=A.length/\GR 2 RPr V' z.1 z.2.1 z.2.2.1 (pairsP (touchAt A) A.length j),fun z=>A.length-z.2.2.2.toNat,⟨(0,0,[],0),by and_intros<;>first|rfl|trivial,0,rfl,Nat.zero_le _,GR.nil⟩,?_⟩
   rintro ⟨w1,w2,ws,w⟩ V4 l4 ⟨j,ej,jle,ga⟩
   dsimp only at ej ga ⊢
   subst ej
   refine ⟨by trivial,fun hlt=>?_,fun hlt V9 l9 b1 k1=>⟨(fun k=>by cases k),fun t' ht=>⟨fun k=>by cases ht;omega,fun _=>?_⟩⟩⟩
   ·have hlt:(j:Int)<A.length:=of_decide_eq_true hlt
    have hj:j<A.length:=by omega
    have wr:i64.wrap ((j:Int)+1)=((j+1:Nat):Int):=by rw [i64w (by omega)];rfl
    rw [wr,Int.toNat_natCast]
    obtain ⟨ps,pq,pm,pe,pb,ad,ha,k0,k1,gl,gle,-⟩:=lst_prt (hL.le l4 fun _ _ g=>RPrt.le g l4) hj
    have plen:=hpl _ (List.getElem_mem hj)
    have eP:pairsP (touchAt A) A.length (j+1)=pairsP (touchAt A) A.length j++rowP (touchAt A) j A.length:=rfl
    refine ⟨ps,⟨by omega,by omega⟩,pq,pm,pe,pb,ad,ha,k0,k1,fun z V'=>∃k:Nat,z.2.2.2=(k:Int)/\j+1<=k/\k<=A.length/\GR 2 RPr V' z.1 z.2.1 z.2.2.1 (pairsP (touchAt A) A.length j++rowP (touchAt A) j k),fun z=>A.length-z.2.2.2.toNat,⟨(w1,w2,ws,((j+1:Nat):Int)),by and_intros<;>first|rfl|trivial,j+1,rfl,Nat.le_refl _,hj,by rw [row_low _ _ _ (Nat.le_refl _),List.append_nil];exact ga⟩,?_⟩
    rintro ⟨x1,x2,xs,xw⟩ V5 l5 ⟨k,ek,jk,kle,gb⟩
    dsimp only at ek gb ⊢
    subst ek
    refine ⟨by trivial,fun hlt=>?_,fun hlt=>⟨(x1,x2,xs,((j+1:Nat):Int)),by dsimp only;omega,by and_intros<;>first|rfl|trivial,j+1,rfl,hj,?_⟩⟩
    ·have hlt:(k:Int)<A.length:=of_decide_eq_true hlt
     have hk:k<A.length:=by omega
     have wk:i64.wrap ((k:Int)+1)=((k+1:Nat):Int):=by rw [i64w (by omega)];rfl
     rw [wk,Int.toNat_natCast]
     obtain ⟨ps',pq',pm',pe',pb',ad',ha',k0',k1',gl',gle',-⟩:=lst_prt (hL.le (l4.trans l5) fun _ _ g=>RPrt.le g (l4.trans l5)) hk
     have plen':=hpl _ (List.getElem_mem hk)
     have et:=row_succ (touchAt A) j k
     have ef:=touchAt_get hj hk
     have lx:=gb.len
     have lp:=pairs_len (touchAt A) A.length j
     have lr:=row_len (touchAt A) j k
     have lm:j*A.length<=65537*65537:=Nat.mul_le_mul (by omega) hA
     rw [List.length_append] at lx
     simp only [List.length_nil,Nat.zero_add] at plen plen'
     have o2:∀{x y:Int},∀v∈([.int .i64 x,.int .i64 y]:List Value),v.oneCell'=true:=fun v hv=>by
      simp only [List.mem_cons,List.not_mem_nil,or_false] at hv
      rcases hv with rfl|rfl<;>rfl
     refine ⟨ps',⟨by omega,by omega⟩,by rw [ha'];rfl,pq',pm',pe',⟨ad'.add 0,by rw [ha'];rfl,k0'⟩,fun V6 l6=>(c_Cell_Touches (gl.le (l5.trans l6) fun _ _ g=>RSd.le g (l5.trans l6)) (gl'.le l6 fun _ _ g=>RSd.le g l6) (by omega) (by omega)).mono ?_⟩
     rintro r V7 l7 rfl
     rw [←ef]
     refine ⟨_,rfl,fun hP=>⟨by omega,gb.le,gb.cap,rfl,o2,fun sp1 c1 a1 a2=>⟨(x1+1,c1,_,((k+1:Nat):Int)),by dsimp only;omega,by and_intros<;>first|rfl|trivial,k+1,rfl,by omega,hk,?_⟩⟩,fun hP=>⟨(x1,x2,xs,((k+1:Nat):Int)),by dsimp only;omega,by and_intros<;>first|rfl|trivial,k+1,rfl,by omega,hk,?_⟩⟩
     ·dsimp only
      rw [et,if_pos ⟨by omega,hP⟩,←List.append_assoc]
      exact (gb.mono (V':=V7) fun _ _ g=>g).snoc (a:=(j,k)) rfl rfl (by decide) a1 a2
     ·dsimp only
      rw [et,if_neg (fun g=>by rw [hP] at g;exact Bool.false_ne_true g.2),List.append_nil]
      exact gb.mono fun _ _ g=>g
    ·have hlt:¬(k:Int)<A.length:=of_decide_eq_false hlt
     obtain rfl:k=A.length:=by omega
     dsimp only
     rw [eP]
     exact gb
   ·have hlt:¬(j:Int)<A.length:=of_decide_eq_false hlt
    obtain rfl:j=A.length:=by omega
    cases ht
    rw [eA]
    have e1:=ga.len
    have f1:=ga.le
    subst e1
    exact ⟨_,_,_,rfl,Lst.of_mrow k1 (ga.row.le fun _ _ g=>g) (by decide) f1⟩
theorem th {V:View}{y z:Value}(hy:Sent V 0 y)(hz:Sent V 1 z)(sy:SErr y)(sz:SErr z):Acts prog 19 #[] V fun r V'=>r=.bool true:=by
 refine sK V _ fun V1 l1=>?_
 have h:AT V1 (.agg #[.int .i64 (-2),.slice none 0 0]) (-2) []:=⟨none,0,0,rfl,rfl,Nat.le_refl _,⟨[],(fun i v h=>by simp at h),fun i d h=>by simp at h⟩,fun _=>rfl⟩
 refine (c_cells_All (l:=[]) (fun x hx=>by cases hx) h (hy.le l1) (hz.le l1) sy sz).mono ?_
 rintro r V2 l2 ⟨-,h2⟩
 have e:ofT [] (-2)=some (.leaf true):=by decide
 obtain ⟨p,n,c,q,m,k,rfl,hp,hq⟩:=(h2 _ e).2 (by decide)
 have e1:partsC (.leaf true) []=[([],true)]:=rfl
 rw [e1] at hp hq
 have n1:=hp.len
 have n2:=hq.len
 obtain ⟨ad,a0,xs,x1,⟨p4,n4,c4,ex,hL⟩,x3⟩:=hp.at_ 0 (by simp)
 obtain ⟨ad',b0,ys,y1,ey,y3⟩:=hq.at_ 0 (by simp)
 have ex:=congrArg Array.toList (Value.agg.inj ex)
 have ey:=congrArg Array.toList (Value.agg.inj ey)
 dsimp only at ex ey
 subst ex ey
 have l4:=hL.len
 have n1:n=1:=n1
 have n2:m=1:=n2
 have l4:n4=0:=l4
 subst n1 n2 l4
 have a0:addrAdd p 0=some ad:=a0
 have b0:addrAdd q 0=some ad':=b0
 have sp:p.isSome=true:=by
  cases p with
  | none=>cases a0
  | some a=>rfl
 have sq:q.isSome=true:=by
  cases q with
  | none=>cases b0
  | some a=>rfl
 have z0:ad'.add 0=ad':=by
  cases q with
  | none=>cases b0
  | some a=>
   have b1:a.add 0=ad':=Option.some.inj b0
   rw [←b1,mg]
 refine ⟨_,_,_,_,_,_,_,rfl,.inl rfl,fun _=>⟨fun _=>⟨sp,⟨by decide,by decide⟩,by rw [a0];rfl,p4,0,c4,⟨ad.add 0,by rw [a0];rfl,x3 0 _ rfl⟩,fun _=>⟨fun _=>⟨sq,⟨by decide,by decide⟩,-2,⟨ad',b0,by have:=y3 0 _ rfl;rw [z0] at this;exact this⟩,fun V3 l3=>rfl⟩,fun hf=>by simp at hf⟩,fun hf=>by simp at hf⟩,fun hf=>by simp at hf⟩,fun hf=>by simp [isNilI] at hf⟩
structure LL (V:View) (y z:Value):Prop where
 inv:Sent V 0 y
 Rq:Sent V 1 z
 yE:SErr y
 zE:SErr z
theorem LL.le {V V':View}{y z:Value}(h:LL V y z)(l:V.Le V'):LL V' y z:=⟨h.inv.le l,h.Rq.le l,h.yE,h.zE⟩
theorem AT.leaf {V:View}(i:Bool):AT V (.agg #[.int .i64 (rt 0 (.leaf i)),.slice none 0 0]) (rt 0 (.leaf i)) (wr 0 (.leaf i)):=⟨_,_,_,rfl,NS.nil⟩
theorem rq {p:L3->Prop}:∀{t:Tr} {k:Nat},t.All p->∀x∈wr k t,p x.ln
 | .leaf _,_,_,x,h=>by simp [wr] at h
 | .node l a b,k,⟨h1,h2,h3⟩,x,h=>by
  simp only [wr,List.mem_cons,List.mem_append] at h
  rcases h with rfl|h|h
  ·exact h1
  ·exact rq h2 x h
  ·exact rq h3 x h
theorem E4 {V:View}{t:Tr}{p:OA}(h:RW V p t):p.isSome=true:=by
 cases t with
 | leaf i=>obtain ⟨b,c2,c3,c4,c5,c6,c7,c8,c9,rfl,hb⟩:=h;rfl
 | node l x y=>obtain ⟨b,i,b1,p1,n1,c1,b2,p2,n2,c2,b3,p3,n3,c3,pl,pr,rfl,-⟩:=h;rfl
theorem FE:∀(t:Tr) {V:View} {p:OA} {lb:Nat} {n c:Nat} {vs:List Value} {l:List Nd},RW V p t->t.All Okb->n=l.length ->
  (vs≠[]->V.w.heap[lb]?=some (.cells vs.toArray 78 (0,0)))->(vs≠[]->V.X lb)->n<=c->c*8<=vs.length->NR V vs l->n+t.size<=1000000 ->
  Acts prog 42 #[.pointer p,.slice (mA lb c) n c] V fun r V'=>∃(bm:Nat)(vm:List Value)(c':Nat),(vm≠[]->V'.w.heap[bm]?=some (.cells vm.toArray 78 (0,0)))/\(vm≠[]->V.w.heap.size<=bm\/(vs≠[]/\bm=lb)) /\
   r=.tuple #[.slice (mA bm c') (n+t.size) c',.int .i64 (rt n t)]/\n+t.size<=c'/\c'*8<=vm.length/\NR (V'.hideG (vm≠[]) bm) vm (l++wr n t)/\(t.size=0->c'=c):=by
 intro t
 induction t with
 | leaf i=>
  intro V p lb n c vs l hp _ hn hv hxv hnc hcv hnr hsz
  have hs:=E4 hp
  obtain ⟨b,c2,c3,c4,c5,c6,c7,c8,c9,rfl,hb⟩:=hp
  have fin:∀(V3:View)(bk:Nat)(x:Int),V.Le (V3.hideG (vs≠[]) bk)->(vs≠[]->V3.w.heap[bk]?=some (.cells vs.toArray 78 (0,0))) ->
    (vs≠[]->V.w.heap.size<=bk\/(vs≠[]/\bk=lb)\/False)->x=rt n (.leaf i)->∃(bm:Nat)(vm:List Value)(c':Nat),(vm≠[]->V3.w.heap[bm]?=some (.cells vm.toArray 78 (0,0)))/\(vm≠[]->V.w.heap.size<=bm\/(vs≠[]/\bm=lb)) /\
   Value.tuple #[.slice (mA bk c) n c,.int .i64 x]=.tuple #[.slice (mA bm c') (n+(Tr.leaf i).size) c',.int .i64 (rt n (.leaf i))]/\n+(Tr.leaf i).size<=c'/\c'*8<=vm.length/\NR (V3.hideG (vm≠[]) bm) vm (l++wr n (.leaf i))/\((Tr.leaf i).size=0->c'=c):=by
   intro V3 bk x hle e3 e4 hx
   refine ⟨bk,vs,c,e3,fun h=>?_,by rw [hx];rfl,hnc,hcv,?_,fun _=>rfl⟩
   ·rcases e4 h with h|h|h
    ·exact .inl h
    ·exact .inr h
    ·exact h.elim
   ·simp only [wr,List.append_nil]
    exact hnr.le hle
  refine kv _ lb n c vs V _ hv hxv ⟨hs,hs,true,rdc hb 0 rfl,fun _=>⟨hs,hs,i,rdc hb 1 rfl,fun hi V1 bk a1 a2 a3=>fin V1 bk _ a1 a2 a3 (by subst hi;rfl),fun hi V2 bk a1 a2 a3=>fin V2 bk _ a1 a2 a3 (by subst hi;rfl)⟩,fun h=>by cases h⟩
 | node ln x y G7 ihy=>
  intro V p lb n c vs l hp hall hn hv hxv hnc hcv hnr hsz
  have hs:=E4 hp
  simp only [Tr.size] at hsz
  obtain ⟨⟨-,hbd⟩,hax,QS⟩:=hall
  obtain ⟨b,i,b1,p1,n1,c1,b2,p2,n2,c2,b3,p3,n3,c3,pl,pr,rfl,hb,hl,hx,hy⟩:=hp
  have hat:∀j v,([.bool b1,.slice p1 n1 c1,.bool b2,.slice p2 n2 c2,.bool b3,.slice p3 n3 c3]:List Value)[j]?=some v->V.at (((⟨b,2,none⟩:Addr)).add j) v:=by
   intro j v hv
   have hj:j<6:=by
    rcases Nat.lt_or_ge j 6 with hj|hj
    ·exact hj
    ·rw [List.getElem?_eq_none (by simpa using hj)] at hv;cases hv
   have h2:(⟨b,2,none⟩:Addr)=(⟨b,0,none⟩:Addr).add 2:=by rw [add_zero']
   rw [h2,addadd,add_zero']
   refine blk_at (xs:=[_,_,_,_,_,_,_,_,_,_]) hb ?_
   match j,hj,hv with
   | 0,_,hv=>exact hv
   | 1,_,hv=>exact hv
   | 2,_,hv=>exact hv
   | 3,_,hv=>exact hv
   | 4,_,hv=>exact hv
   | 5,_,hv=>exact hv
  obtain ⟨t1,t2,t3⟩:=hbd.af
  refine kv _ lb n c vs V _ hv hxv ⟨hs,hs,false,rdc hb 0 rfl,(fun h=>by cases h),fun _=>⟨hs,hs,b1,p1,n1,c1,b2,p2,n2,c2,b3,p3,n3,c3,⟨b,2,none⟩,by simp [addrAdd,add_zero'],hat 0 _ rfl,hat 1 _ rfl,hat 2 _ rfl,hat 3 _ rfl,hat 4 _ rfl,hat 5 _ rfl,fun V3 l3=>(xO (hl.le l3) (by omega) (by omega) (by omega)).mono ?_⟩⟩
  rintro r V4 l4 Jz
  have Mg:=Jz
  obtain ⟨d1,q1,m1,e1,d2,q2,m2,e2,d3,q3,m3,e3,rfl⟩:=ny Jz
  have l04:=l3.trans l4
  refine ⟨_,_,_,_,_,_,_,_,_,_,_,_,rfl,by omega,hnc,hcv,rfl,by intro v hv;simp at hv;rcases hv with rfl|rfl|rfl|rfl|rfl|rfl|rfl|rfl<;>rfl,fun sp c' g1 g2=>?_⟩
  have hb4:=l04 _ _ hb
  refine ⟨hs,hs,pl,rdc hb4 8 rfl,fun V5 l5 bk1 f1 f2=>?_⟩
  have hpush:=NR.push (sp:=sp) (x:=0) (y:=0) (hnr.le l04) (by omega) (ln:=ln) Mg
  rw [←hn] at hpush
  generalize hrow:vs.take (n*8)++([_,_,_,_,_,_,_,_]:List Value)++sp=row at f1 f2 hpush ⊢
  have hrl:row.length=n*8+8+sp.length:=by
   rw [←hrow];simp only [List.length_append,List.length_take,List.length_cons,List.length_nil];omega
  have MB:row≠[]:=fun e=>by rw [e] at hrl;simp only [List.length_nil] at hrl;omega
  have l05:=l04.trans l5
  have i1:=G7 (V:=V5.lend [vb row V5.w.heap.size bk1]) (p:=pl) (lb:=bk1) (n:=n+1) (c:=c') (vs:=row) (l:=l++[⟨ln,0,0⟩]) (RW.le (V:=V) (V':=V5.lend _) (fun b o h=>l05 b o h) hx) hax (by simp [hn]) f1 (fun h=>⟨by simp [vb_ne h],f2 h⟩) g1 (by omega) (NR.le (V:=V4) (V':=V5.lend _) hpush fun b o h=>l5 b o h) (by omega)
  refine i1.mono ?_
  rintro r V6 l6 ⟨bm,vm,c1',a1,a2,rfl,a5,a6,a7,-⟩
  have l56:V5.Le V6:=fun b o h=>l6 b o h
  have Pc:V5.Le (V6.shut.hideG (vm≠[]) bm):=yu (V':=V5) l56 (View.Le.refl V5) fun h=>(a2 h).imp id fun h'=>by rw [h'.2];exact f2 MB
  refine ⟨bm,vm,a1,a2,none,_,_,_,rfl,hs,hs,pr,rdc ((l05.trans Pc) _ _ hb) 9 rfl,fun V7 l7 bk2 d1 d2=>?_⟩
  have O7:vm≠[]:=fun e=>by rw [e] at a6;simp at a6;omega
  have F2:V.Le V7:=(l05.trans Pc).trans l7
  have i2:=ihy (V:=V7.lend [vb vm V7.w.heap.size bk2]) (p:=pr) (lb:=bk2) (n:=n+1+x.size) (c:=c1') (vs:=vm) (l:=l++[⟨ln,0,0⟩]++wr (n+1) x) (RW.le (V:=V) (V':=V7.lend _) (fun b o h=>F2 b o h) hy) QS (by simp [hn,dA];omega) d1 (fun h=>⟨by simp [vb_ne h],d2 h⟩) a5 a6 (NR.le (V:=V6.hideG (vm≠[]) bm) (V':=V7.lend _) a7 fun b o h=>l7 b o h) (by omega)
  refine i2.mono ?_
  rintro r V8 l8 ⟨bn,vn,c2',b1',b2',rfl,b5,b6,b7,-⟩
  have hlen:n*8+8<=vn.length:=by omega
  simp only [Int.toNat_natCast]
  refine ⟨bn,vn,b1',b2',none,_,_,_,rfl,⟨by omega,by omega⟩,b5,by omega,⟨by omega,by omega⟩,b5,by rw [List.length_set];omega,fun V9 Jc u1 u4 u5=>?_⟩
  have hfin:=NR.kids (V:=V8.hideG (vn≠[]) bn) (l:=l) (r:=wr (n+1) x++wr (n+1+x.size) y) (ln:=ln) (u:=0) (v:=0) (x:=rt (n+1) x) (y:=rt (n+1+x.size) y) (by simpa using b7)
  rw [←hn] at hfin
  refine ⟨Jc,_,c2',u4,fun h=>?_,by rw [show n+(Tr.node ln x y).size=n+1+x.size+y.size from by simp only [Tr.size];omega];rfl,by simp only [Tr.size];omega,by simp only [List.length_set];omega,?_,fun h=>by simp only [Tr.size] at h;omega⟩
  ·rcases u5 h with h|h|h
   ·exact .inl h
   ·exact .inr h
   ·exact h.elim
  ·simp only [wr]
   exact NR.le (V:=V8.hideG (vn≠[]) bn) hfin fun b o h=>u1 b o h
theorem qD {V:View}{p:OA}{t:Tr}(h:RW V p t)(ha:t.All Okb)(hs:t.size<=1000000) :
  Acts prog 12 #[.pointer p] V fun r V'=>AT V' r (rt 0 t) (wr 0 t)/\(t.size=0->r=.agg #[.int .i64 (rt 0 t),.slice none 0 0]):=by
 refine sN p V _ fun V1 l1=>?_
 refine Acts.Kb (FE t (V:=V1) (lb:=0) (vs:=[]) (l:=[]) (n:=0) (c:=0) (h.le l1) ha rfl (fun h=>absurd rfl h) (fun h=>absurd rfl h) (Nat.le_refl _) (Nat.le_refl _) (fun i d hd=>by simp at hd) (by omega)) ?_
 rintro r V2 l2 hH ⟨bm,vm,c',a1,a2,rfl,a5,a6,a7,a8⟩
 refine ⟨bm,vm,a1,fun h=>(a2 h).imp id fun h'=>absurd rfl h'.1,none,_,_,_,rfl,fun V3 l3 bk hb=>?_⟩
 simp only [List.nil_append,Nat.zero_add] at a7 a5 ⊢
 have:=NS.ofRow (V:=V3) (b:=bk) (c:=c') (vm:=vm) (l:=wr 0 t) (ty:=78) hb (by rw [dA];exact a5) (a7.le fun b o h=>l3 b o h)
 rw [dA] at this
 refine ⟨⟨_,_,_,rfl,this⟩,fun h0=>?_⟩
 rw [a8 h0,h0]
 rfl
theorem tm {V:View}{p:OA}{t:Tr}(h:RW V p t)(ha:t.All Okb)(hs:t.size<=1000000) :
  Acts prog 12 #[.pointer p] V fun r V'=>AT V' r (rt 0 t) (wr 0 t):=(qD h ha hs).mono fun _ _ _ h=>h.1
def Cc (V:View)(vs:List Value)(i:Nat)(d:Nd):Prop:=∃(b1:Bool)(p1:OA)(n1 c1:Nat)(b2:Bool)(p2:OA)(n2 c2:Nat)(b3:Bool)(p3:OA)(n3 c3:Nat),
 (∀j v,([.bool b1,.slice p1 n1 c1,.bool b2,.slice p2 n2 c2,.bool b3,.slice p3 n3 c3,.int .i64 d.left,.int .i64 d.right]:List Value)[j]?=some v->vs[i*8+j]?=some v) /\
 Fs V (.agg #[.bool b1,.slice p1 n1 c1,.bool b2,.slice p2 n2 c2,.bool b3,.slice p3 n3 c3]) d.ln
theorem Cc.le {V V':View}{vs:List Value}{i:Nat}{d:Nd}(h:Cc V vs i d)(hl:V.Le V'):Cc V' vs i d:=by
 obtain ⟨b1,p1,n1,c1,b2,p2,n2,c2,b3,p3,n3,c3,h1,h2⟩:=h
 exact ⟨b1,p1,n1,c1,b2,p2,n2,c2,b3,p3,n3,c3,h1,h2.le hl⟩
theorem EO {vs xs:List Value}{k i:Nat}(hx:xs.length=8)(h:k*8+8<=vs.length)(hi:i<k*8\/k*8+8<=i):(vs.take (k*8)++xs++vs.drop (k*8+8))[i]?=vs[i]?:=by
 have ht:(vs.take (k*8)).length=k*8:=by rw [List.length_take];omega
 rcases hi with hi|hi
 ·rw [List.append_assoc,List.getElem?_append_left (by omega),List.getElem?_take,if_pos hi]
 ·rw [List.getElem?_append_right (by rw [List.length_append];omega),List.length_append,ht,hx,List.getElem?_drop]
  congr 1
  omega
theorem Rr {a b c d e f g h v:Value}{j:Nat}(hv:([a,b,c,d,e,f,g,h]:List Value)[j]?=some v):j<8:=by
 rcases Nat.lt_or_ge j 8 with hj|hj
 ·exact hj
 ·rw [List.getElem?_eq_none (by simpa using hj)] at hv;cases hv
theorem Cc.out {V:View}{vs xs:List Value}{k i:Nat}{d:Nd}(h:Cc V vs i d)(hx:xs.length=8)(hk:k*8+8<=vs.length)(hi:i≠k):Cc V (vs.take (k*8)++xs++vs.drop (k*8+8)) i d:=by
 obtain ⟨b1,p1,n1,c1,b2,p2,n2,c2,b3,p3,n3,c3,h1,h2⟩:=h
 refine ⟨b1,p1,n1,c1,b2,p2,n2,c2,b3,p3,n3,c3,fun j v hv=>?_,h2⟩
 have:=Rr hv
 rw [EO hx hk (by omega)]
 exact h1 j v hv
def vm (n b m:Nat):Nat:=(n-1-m+(n-b))%n
def BI (V:View):View:=⟨V.w,fun b=>b<V.w.heap.size,fun _=>False,fun _ h=>h,fun _ h=>h.elim⟩
theorem zW {f:FuncId}{args:Array Value}{V:View}{o:Obj}(h:Acts prog f args (BI V) fun r V'=>∃bk,r=.pointer (some ⟨bk,0,none⟩)/\V'.a_ bk o) :
  Acts prog f args V fun r V'=>∃bk,r=.pointer (some ⟨bk,0,none⟩)/\V.w.heap.size<=bk/\V'.a_ bk o:=
 ⟨h.1,h.2.mono fun _ _ ⟨_,he,hx,bk,hr,hb⟩=>⟨_,he,⟨hx.size,fun b hb _=>hx.a_ b hb (fun h=>h),hx.os,hx.tape,hx.out⟩,bk,hr,Nat.le_of_not_lt hb.1,fun hh=>hb.1 (V.hH bk hh),hb.2⟩⟩
theorem xP {V:View}{lp:OA}{ln lc:Nat}(hc:ln<=lc) :
  Acts prog 9 #[.slice lp ln lc] V fun r V'=>∃bk,r=.pointer (some ⟨bk,0,none⟩)/\V.w.heap.size<=bk/\V'.a_ bk (.cells #[.slice lp (min ln 400) lc,.int .i64 0] 102 (0,0)):=by
 refine zW (w_ lp ln lc (BI V) _ ?_)
 have e:br (ln:Int) 400=((min ln 400:Nat):Int):=by
  unfold br
  simp only [Nat.min_def]
  split<;>split<;>omega
 rw [e,Int.toNat_natCast]
 have:=Nat.min_le_left ln 400
 exact ⟨⟨by omega,by omega⟩,fun V1 l1 bk hb=>⟨bk,rfl,hb⟩⟩
theorem wa {t:Tr}(h:t.All Okb):t.All fun x=>okL x=true:=Tr.All.imp (fun _ h=>h.1) h
theorem Ij {t:Tr}(h:t.All Okb):t.All Bd:=Tr.All.imp (fun _ h=>h.2) h
theorem F8 {V:View}{p:OA}{n:Nat}{al:List (Nat×Nat)}(h:Lst 2 RPr V p n al){i:Nat}(hi:i<al.length) :
  p.isSome=true/\∃a:Addr,addrAdd p (i*2)=some a/\V.at (a.add 0) (.int .i64 (al[i].1:Int))/\V.at (a.add 1) (.int .i64 (al[i].2:Int)):=by
 obtain ⟨ad,h0,xs,h1,h2,h3⟩:=h.at_ i hi
 have ex:=congrArg Array.toList (Value.agg.inj h2)
 dsimp only at ex
 subst ex
 refine ⟨?_,ad,h0,h3 0 _ rfl,h3 1 _ rfl⟩
 cases p with
 | none=>cases h0
 | some a=>rfl
def zP (l:List Bool):List Value:=l.map fun b=>.bool b
theorem Bv (l:List Bool):(zP l).length=l.length:=List.length_map ..
theorem vD (l:List Bool)(i:Nat)(b:Bool):zP (l.set i b)=(zP l).set i (.bool b):=by unfold zP;rw [List.map_set]
theorem vC {l:List Bool}{i:Nat}(h:i<l.length):(zP l)[0+((i:Int).toNat*1)]?=some (.bool (fZ l i)):=by
 rw [Nat.zero_add,Nat.mul_one,Int.toNat_natCast]
 unfold zP fZ
 rw [List.getElem?_map,List.getElem?_eq_getElem h,List.getD_eq_getElem?_getD,List.getElem?_eq_getElem h];rfl
theorem CS {ps:List (Nat×Nat)}{a:List Bool}{j:Nat}(h:j<ps.length):c_ (ps.take (j+1)) a=xi (c_ (ps.take j) a) ps[j]:=by
 unfold c_
 rw [←List.take_append_getElem h,List.foldl_append];rfl
theorem yO (ps:List (Nat×Nat)):∀a:List Bool,(c_ ps a).length=a.length:=by
 induction ps with
 | nil=>exact fun a=>rfl
 | cons x r ih=>exact fun a=>(ih (xi a x)).trans (by unfold xi;rw [List.length_set,List.length_set])
theorem n_ (ps:List (Nat×Nat)):∀(k:Nat)(a:List Bool),(cD ps k a).length=a.length
 | 0,_=>rfl
 | k+1,a=>(yO ps _).trans (n_ ps k a)
theorem jj {V:View}{y z:Value}(hy:Sent V 0 y)(hz:Sent V 1 z)(sy:SErr y)(sz:SErr z){lp:OA}{ln lc:Nat}(hr:Fk V lp ln)(hc:ln<=lc) :
  Acts prog 7 #[.slice lp ln lc] V fun r V'=>r=.bool true:=by
 refine iW lp ln lc V _ fun V1 l1=>(xP hc).mono ?_
 rintro r V2 l2 ⟨bk1,rfl,hfr,hb⟩
 refine ⟨bk1,_,_,_,_,rfl,hfr,hb,fun V3 l3 bk4 e4 h4=>?_⟩
 have l13:V1.Le V3:=fun b o h=>l3 b o ⟨fun hh=>hh.elim (l2 b o h).1 fun e=>by
  have hlt:b<V1.w.heap.size:=by
   rcases Nat.lt_or_ge b V1.w.heap.size with h'|h'
   ·exact h'
   ·have:=h.2;rw [Array.getElem?_eq_none h'] at this;cases this
  have:=e.1
  omega,(l2 b o h).2⟩
 have hmin:min ln 400<=400:=Nat.min_le_right _ _
 have hr:Fk V lp (min ln 400):=fun i hi=>hr i (Nat.lt_of_lt_of_le hi (Nat.min_le_left _ _))
 generalize min ln 400=n at *
 have Pa:V.Le V3:=l1.trans l13
 refine (Hx 4 (V:=V3.lend [bk4]) (by omega) (hr.le fun b o h=>Pa b o h) hmin e4 ⟨by simp,h4⟩ (Int.le_refl 0)).mono ?_
 rintro r V4 l4 ⟨qa,t,GN,rfl,Mx,HW,hsa,t1,hw1⟩
 have l04:V.Le V4:=fun b o h=>l4 b o (Pa b o h)
 have Pp:ofT (wr 0 t) (rt 0 t)=some t:=Ih (wa HW) (by omega)
 have Ox:∀x∈wr 0 t,Bd x.ln:=rq (Ij HW)
 have hdp:=j7 t
 have hne:=EN (t:=t) CanC.nil (fun x hx=>by cases hx) (wa HW)
 have JE:=jA (t:=t) CanC.nil (fun x hx=>by cases hx) (wa HW)
 have hcnt:=parts_count (t:=t) (c:=[])
 have hall:=CI JE hne
 have hpm:=fun x=>@kI (touchAt (partsC t [])) (partsC t []).length x (partsC t []).length
 have hpl:=pairs_len (touchAt (partsC t [])) (partsC t []).length (partsC t []).length
 refine ⟨_,rfl,_,_,_,_,hw1,fun V5 l5=>(tm (RW.le (V:=V4) (V':=V5) l5 Mx) HW (by omega)).mono ?_⟩
 rintro r V6 l6 hA
 have II:=hA
 obtain ⟨pa,na,ca,rfl,-⟩:=hA
 have l46:V4.Le V6:=fun b o h=>l6 b o (l5 b o h)
 have IP:=l04.trans l46
 refine ⟨_,_,_,_,rfl,fun V7 l7=>(c_cells_All Ox (II.le l7) (hy.le (IP.trans l7)) (hz.le (IP.trans l7)) sy sz).mono ?_⟩
 rintro r V8 l8 ⟨-,h2⟩
 obtain ⟨p1,n1,c1,p2,n2,c2,rfl,hp1,hp2⟩:=(h2 t Pp).2 (by omega)
 have Pf:=l7.trans l8
 have G_:=IP.trans Pf
 refine ⟨_,_,_,_,_,_,_,rfl,fun V9 l9=>(c_cells_Neighbors Ox (II.le (Pf.trans l9)) (hy.le (G_.trans l9)) (hz.le (G_.trans l9)) sy sz).mono ?_⟩
 rintro r V10 l10 ⟨-,h3⟩
 obtain ⟨p3,n3,c3,rfl,hp3⟩:=(h3 t Pp).2 (by omega)
 have JZ:=G_.trans (l9.trans l10)
 have e1:=hp1.len
 have e3:=hp3.len
 rw [List.length_map] at e1
 generalize partsC t []=A at *
 generalize hps:pairsP (touchAt A) A.length A.length=ps at *
 have II:0<A.length:=List.length_pos_iff.2 hne
 have hA1:A.length<=20:=by omega
 subst e1 e3
 have Q7:ps.length<=400:=Nat.le_trans hpl (Nat.mul_le_mul hA1 hA1)
 refine ⟨_,_,_,_,rfl,.inl rfl,(fun hf=>by cases hf),fun _=>⟨.inl rfl,(fun hf=>by cases hf),fun _=>⟨fun h0=>?_,fun _=>⟨by omega,Int.le_refl _,by omega,⟨by omega,by rw [Int.toNat_natCast];omega⟩,by rw [List.length_replicate,Int.toNat_natCast];omega,?_⟩⟩⟩⟩
 ·have h0:(A.length:Int)=0:=by simpa using h0
  omega
 have hst:(List.replicate ((A.length:Int).toNat) (.bool false:Value)).set 0 (.bool true)=zP ((List.replicate A.length false).set 0 true):=by
  rw [vD]
  unfold zP
  rw [List.map_replicate,Int.toNat_natCast]
 rw [hst]
 generalize hI:(List.replicate A.length false).set 0 true=a0 at *
 have ha0:a0.length=A.length:=by rw [←hI];simp
 refine ⟨fun z _=>∃i:Nat,z.1=(i:Int)/\i<=A.length/\z.2=zP (cD ps i a0),fun z=>A.length-z.1.toNat,⟨(0,_),by and_intros<;>rfl,0,rfl,Nat.zero_le _,rfl⟩,?_⟩
 rintro ⟨w,ws⟩ V14 eY ⟨i,ei,ile,OJ⟩
 dsimp only at ei OJ ⊢
 subst ei OJ
 refine ⟨by trivial,fun hlt=>?_,fun hlt=>?_⟩
 ·have hlt:(i:Int)<A.length:=of_decide_eq_true hlt
  have hi:i<A.length:=by omega
  have wr:i64.wrap ((i:Int)+1)=((i+1:Nat):Int):=by rw [i64w (by omega)];rfl
  rw [wr,Int.toNat_natCast]
  have hal:(cD ps i a0).length=A.length:=(n_ ps i a0).trans ha0
  have Jr:cD ps (i+1) a0=c_ ps (cD ps i a0):=rfl
  generalize cD ps i a0=a at *
  refine ⟨fun z _=>∃j:Nat,z.1=(j:Int)/\j<=ps.length/\z.2=zP (c_ (ps.take j) a),fun z=>ps.length-z.1.toNat,⟨(0,_),by and_intros<;>rfl,0,rfl,Nat.zero_le _,rfl⟩,?_⟩
  rintro ⟨u,us⟩ V15 eZ ⟨j,ej,jle,OH⟩
  dsimp only at ej OH ⊢
  subst ej OH
  refine ⟨by trivial,fun hlt=>?_,fun hlt=>⟨(((i+1:Nat):Int),_),by dsimp only;omega,by and_intros<;>rfl,i+1,rfl,hi,?_⟩⟩
  ·have hlt:(j:Int)<ps.length:=of_decide_eq_true hlt
   have hj:j<ps.length:=by omega
   have wj:i64.wrap ((j:Int)+1)=((j+1:Nat):Int):=by rw [i64w (by omega)];rfl
   obtain ⟨is,ad,had,k0,k1⟩:=F8 (hp3.le (eY.trans eZ) fun _ _ g=>g) hj
   have hm:=(hpm ps[j]).1 (List.getElem_mem hj)
   have es:=CS (a:=a) hj
   have hbl:(c_ (ps.take j) a).length=A.length:=(yO _ a).trans hal
   generalize c_ (ps.take j) a=b at *
   generalize ps[j]=x at *
   obtain ⟨x1,x2⟩:=x
   dsimp only at hm k0 k1
   obtain ⟨m1,m2,m3,-⟩:=hm
   have Qv:∀g1 g2:Bool,fZ b x1=g1->fZ b x2=g2->((zP b).set (0+((x1:Int).toNat*1)) (.bool (g1||g2))).set (0+((x2:Int).toNat*1)) (.bool (g1||g2))=zP (c_ (ps.take (j+1)) a):=by
    rintro g1 g2 rfl rfl
    rw [es]
    unfold xi
    rw [vD,vD,Nat.zero_add,Nat.mul_one,Int.toNat_natCast,Nat.zero_add,Nat.mul_one,Int.toNat_natCast]
   have fin:∀g1 g2:Bool,fZ b x1=g1->fZ b x2=g2->∀W:View,∃k:Nat,((j+1:Nat):Int)=(k:Int)/\k<=ps.length/\((zP b).set (0+((x1:Int).toNat*1)) (.bool (g1||g2))).set (0+((x2:Int).toNat*1)) (.bool (g1||g2))=zP (c_ (ps.take k) a):=fun g1 g2 e1 e2 W=>⟨j+1,rfl,hj,Qv g1 g2 e1 e2⟩
   have q1:=vC (l:=b) (i:=x1) (by omega)
   have q2:=vC (l:=b) (i:=x2) (by omega)
   have t1:(0:Int)<=(x1:Int)/\(x1:Int)<(((A.length:Int).toNat:Nat):Int):=⟨by omega,by omega⟩
   have t2:(0:Int)<=(x2:Int)/\(x2:Int)<(((A.length:Int).toNat:Nat):Int):=⟨by omega,by omega⟩
   have s1:(0+((x1:Int).toNat*1))+1<=(zP b).length:=by rw [Bv,hbl,Int.toNat_natCast];omega
   have s2:∀v:Value,(0+((x2:Int).toNat*1))+1<=((zP b).set (0+((x1:Int).toNat*1)) v).length:=fun v=>by rw [List.length_set,Bv,hbl,Int.toNat_natCast];omega
   have z0:(0:Int)<=0/\(0:Int)<((2:Nat):Int):=by decide
   have z1:(0:Int)<=1/\(1:Int)<((2:Nat):Int):=by decide
   rw [wj,Int.toNat_natCast]
   refine ⟨is,⟨by omega,by omega⟩,(x1:Int),(x2:Int),ad,had,k0,k1,z0,fun h=>?_,fun _=>⟨z1,fun h=>?_,fun _=>⟨z0,z1,fun h=>?_,fun _=>⟨z0,z1,z0,t1,fZ b x1,q1,fun g1=>⟨z0,t1,fZ b x1,q1,fun g1'=>⟨t1,s1,t2,s2 _,(((j+1:Nat):Int),_),by dsimp only;omega,by and_intros<;>rfl,?_⟩,fun g1'=>?_⟩,fun g1=>⟨z1,t2,fZ b x2,q2,z0,t1,fZ b x1,q1,fun g1'=>?_,fun g1'=>⟨z1,t2,fZ b x2,q2,t1,s1,t2,s2 _,(((j+1:Nat):Int),_),by dsimp only;omega,by and_intros<;>rfl,?_⟩⟩⟩⟩⟩⟩
   ·have:=of_decide_eq_true h;omega
   ·have:=of_decide_eq_true h;omega
   ·have:=of_decide_eq_true h;omega
   ·have:=fin true (fZ b x2) g1 rfl V15
    rw [Bool.true_or] at this
    exact this
   ·rw [g1] at g1';cases g1'
   ·rw [g1] at g1';cases g1'
   ·have:=fin false (fZ b x2) g1 rfl V15
    rw [Bool.false_or] at this
    exact this
  ·have hlt:¬(j:Int)<ps.length:=of_decide_eq_false hlt
   obtain rfl:j=ps.length:=by omega
   rw [Jr,List.take_length]
   rfl
 ·have hlt:¬(i:Int)<A.length:=of_decide_eq_false hlt
  obtain rfl:i=A.length:=by omega
  have hal:(cD ps A.length a0).length=A.length:=(n_ ps _ a0).trans ha0
  generalize cD ps A.length a0=a at *
  refine ⟨fun z _=>∃k:Nat,z=(k:Int)/\k<=A.length,fun z=>A.length-z.toNat,⟨0,by and_intros<;>rfl,0,rfl,Nat.zero_le _⟩,?_⟩
  rintro u ua fH ⟨k,rfl,kle⟩
  refine ⟨by trivial,fun hlt=>?_,fun hlt ub hU=>(th (hy.le (JZ.trans (eY.trans (fH.trans hU)))) (hz.le (JZ.trans (eY.trans (fH.trans hU)))) sy sz).mono ?_⟩
  ·have hlt:(k:Int)<(((A.length:Int).toNat:Nat):Int):=of_decide_eq_true hlt
   have hk:k<A.length:=by omega
   have wk:i64.wrap ((k:Int)+1)=((k+1:Nat):Int):=by rw [i64w (by omega)];rfl
   rw [wk]
   have q1:=vC (l:=a) (i:=k) (by omega)
   have hk1:=hall k hk
   refine ⟨⟨by omega,by omega⟩,fZ a k,q1,fun g=>?_,fun g=>⟨((k+1:Nat):Int),by dsimp only;omega,by and_intros<;>rfl,k+1,rfl,hk⟩⟩
   rw [hk1] at g;cases g
  ·rintro r xn mF rfl
   exact ⟨_,rfl,fun xo kb=>rfl⟩
end Go.Proofs.Tryz
