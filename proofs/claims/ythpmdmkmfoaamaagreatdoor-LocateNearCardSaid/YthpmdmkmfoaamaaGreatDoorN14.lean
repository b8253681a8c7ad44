import Derived.Test.YthpmdmkmfoaamaaGreatDoorN13
import Derived.Test.YthpmdmkmfoaamaaGreatDoorN10
import Derived.Test.YthpmdmkmfoaamaaGreatDoorN5
import Derived.Test.YthpmdmkmfoaamaaGreatDoorN7
set_option linter.unusedVariables false
open Go.IntKind (i64 u64 u32)
namespace Go.Proofs.Tryz
open Go.bL Go.fN
theorem NS.rd {V:View}{p:OA}{n c:Nat}{l:List Nd}(h:NS V p n c l){k:Nat}{d:Nd}(hd:l[k]?=some d) :
  ∃(b1:Bool)(p1:OA)(n1 c1:Nat)(b2:Bool)(p2:OA)(n2 c2:Nat)(b3:Bool)(p3:OA)(n3 c3:Nat)(a:Addr),ah p (k*8)=some a /\
   V.at (a.add 0) (.bool b1)/\V.at (a.add 1) (.slice p1 n1 c1)/\V.at (a.add 2) (.bool b2)/\V.at (a.add 3) (.slice p2 n2 c2)/\V.at (a.add 4) (.bool b3)/\V.at (a.add 5) (.slice p3 n3 c3)/\V.at (a.add 6) (.int .i64 d.left)/\V.at (a.add 7) (.int .i64 d.right) /\
   Ij V (.agg #[.bool b1,.slice p1 n1 c1,.bool b2,.slice p2 n2 c2,.bool b3,.slice p3 n3 c3]) d.ln:=by
 obtain ⟨vs,hs,hr⟩:=h.row
 obtain ⟨b1,p1,n1,c1,b2,p2,n2,c2,b3,p3,n3,c3,h1,h2⟩:=hr k d hd
 obtain ⟨ad,rfl,-⟩:=hs _ _ (h1 0 _ rfl)
 have key:∀j v,([.bool b1,.slice p1 n1 c1,.bool b2,.slice p2 n2 c2,.bool b3,.slice p3 n3 c3,.int .i64 d.left,.int .i64 d.right]:List Value)[j]?=some v->V.at ((ad.add (k*8)).add j) v:=by
  intro j v hv
  obtain ⟨Ux,e,ha⟩:=hs _ _ (h1 j v hv)
  cases e
  rw [CK]
  exact ha
 exact ⟨b1,p1,n1,c1,b2,p2,n2,c2,b3,p3,n3,c3,_,rfl,key 0 _ rfl,key 1 _ rfl,key 2 _ rfl,key 3 _ rfl,key 4 _ rfl,key 5 _ rfl,key 6 _ rfl,key 7 _ rfl,h2⟩
theorem CP {l:List Nd}(hb:∀x∈l,Bd x.ln)(hlen:l.length<=65536):∀(f:Nat) (n:Int) (s:RS) {V:View} {rb sb:Nat} {MD:OA} {nc:Nat},NS V MD l.length nc l ->
  V.w.heap[rb]?=some (.cells #[.slice MD l.length nc,.slice (some ⟨sb,0,none⟩) l.length l.length,.int .i64 (s.lq:Int),.bool s.bad] 162 (0,0))->V.X rb ->
  V.w.heap[sb]?=some (.cells (mu s.seen).toArray 4 (0,0))->V.X sb->rb≠sb->s.seen.length=l.length->s.seen.count false<f->s.lq+s.seen.count false<=l.length ->
  ab prog 98 #[.pointer (some ⟨rb,0,none⟩),.int .i64 n] V fun r V'=>∃p,r=.pointer p/\RT V' p (eC l f n s).1 /\
   V'.w.heap[rb]?=some (.cells #[.slice MD l.length nc,.slice (some ⟨sb,0,none⟩) l.length l.length,.int .i64 ((eC l f n s).2.lq:Int),.bool (eC l f n s).2.bad] 162 (0,0)) /\
   V'.w.heap[sb]?=some (.cells (mu (eC l f n s).2.seen).toArray 4 (0,0)):=by
 intro f
 induction f with
 | zero=>intro n s V rb sb MD nc _ _ _ _ _ _ _ h;omega
 | succ f ih=>
  intro n s V rb sb MD nc hns hw1 hx1 hw2 hx2 hne hsl hcf hct
  refine o_ rb sb MD l.length nc l.length l.length s.lq s.bad (mu s.seen) n V _ hw1 hx1 hw2 hx2 hne ⟨fun h0 V1 l1=>(fP _).mono ?_,fun h0=>⟨fun h1 V4 l4=>(fP _).mono ?_,fun h1=>⟨fun h2 V7 l7=>(fP _).mono ?_,fun h2=>⟨fun h3 ie l10=>(fP _).mono ?_,fun h3=>?_⟩⟩⟩⟩
  ·rintro r V2 l2 ⟨p,rfl,hp⟩
   have e0:n=-2:=by simpa using h0
   have e:eC l (f+1) n s=(.leaf true,s):=by simp [eC,e0]
   rw [h0] at hp
   exact ⟨p,rfl,fun V3 l3 g1 g2=>⟨p,rfl,by rw [e];exact hp.le l3,by rw [e];exact g1,by rw [e];exact g2⟩⟩
  ·rintro r V2 l2 ⟨p,rfl,hp⟩
   have e0:n=-1:=by simpa using h1
   have e:eC l (f+1) n s=(.leaf false,s):=by simp [eC,e0]
   rw [h0] at hp
   exact ⟨p,rfl,fun V3 l3 g1 g2=>⟨p,rfl,by rw [e];exact hp.le l3,by rw [e];exact g1,by rw [e];exact g2⟩⟩
  ·rintro r V2 l2 ⟨p,rfl,hp⟩
   have n0:¬n=-2:=by simpa using h0
   have n1:¬n=-1:=by simpa using h1
   have n2:n<0:=by simpa using h2
   have e:eC l (f+1) n s=(.leaf false,{ s with bad:=true }):=by simp [eC,n0,n1,n2]
   exact ⟨p,rfl,fun V3 l3 g1 g2=>⟨p,rfl,by rw [e];exact hp.le l3,by rw [e];exact g1,by rw [e];exact g2⟩⟩
  ·rintro r V2 l2 ⟨p,rfl,hp⟩
   have n0:¬n=-2:=by simpa using h0
   have n1:¬n=-1:=by simpa using h1
   have n2:¬n<0:=by simpa using h2
   have n3:(l.length:Int)<=n:=by simpa using h3
   have e:eC l (f+1) n s=(.leaf false,{ s with bad:=true }):=by
    simp only [eC,n0,n1,n2,if_false]
    rw [List.getElem?_eq_none (by omega)]
   exact ⟨p,rfl,fun V3 l3 g1 g2=>⟨p,rfl,by rw [e];exact hp.le l3,by rw [e];exact g1,by rw [e];exact g2⟩⟩
  ·have n0:¬n=-2:=by simpa using h0
   have n1:¬n=-1:=by simpa using h1
   have n2:¬n<0:=by simpa using h2
   have n3:n<(l.length:Int):=by simpa using h3
   clear h0 h1 h2 h3
   obtain ⟨k,rfl⟩:=Int.eq_ofNat_of_zero_le (Int.not_lt.1 n2)
   have hk:k<l.length:=by omega
   have hks:k<s.seen.length:=by omega
   simp only [Int.toNat_natCast,Nat.mul_one,Nat.zero_add]
   have hsk:s.seen[k]?=some s.seen[k]:=List.getElem?_eq_getElem hks
   have hlk:l[k]?=some l[k]:=List.getElem?_eq_getElem hk
   refine ⟨⟨by omega,n3⟩,s.seen[k],EN hsk,fun h4 me cp=>(fP _).mono ?_,fun h4=>⟨⟨by omega,n3⟩,by simp [mu];omega,hns.SA (by omega),⟨by omega,n3⟩,?_⟩⟩
   ·rintro r V2 l2 ⟨p,rfl,hp⟩
    have e:eC l (f+1) (k:Int) s=(.leaf false,{ s with bad:=true }):=by
     simp only [eC,n0,n1,n2,if_false,Int.toNat_natCast]
     rw [hsk,h4,hlk]
    exact ⟨p,rfl,fun V3 l3 g1 g2=>⟨p,rfl,by rw [e];exact hp.le l3,by rw [e];exact g1,by rw [e];exact g2⟩⟩
   ·obtain ⟨b1,p1,m1,c1,b2,p2,m2,c2,b3,p3,m3,c3,a,ha,a0,a1,a2,a3,a4,a5,a6,a7,hL⟩:=hns.rd hlk
    refine ⟨b1,p1,m1,c1,b2,p2,m2,c2,b3,p3,m3,c3,_,_,a,ha,a0,a1,a2,a3,a4,a5,a6,a7,fun mr cS=>(yZ (hL.le cS) (hb _ (List.getElem_mem hk))).mono ?_⟩
    rintro r nN cP ⟨w,rfl,⟨x1,x2,x3,y1,y2,y3,z1,z2,z3,rfl⟩,hw⟩
    rw [h4] at hsk
    have hset:(mu s.seen).set k (.bool true)=mu (s.seen.set k true):=by simp [mu,List.map_set]
    have hcount:=count_set hsk
    have w1:i64.wrap ((s.lq:Int)+1)=((s.lq+1:Nat):Int):=by rw [ar (by omega)];omega
    rw [hset,w1]
    refine ⟨_,_,_,_,_,_,_,_,_,_,rfl,fun h5 pH df=>(fP _).mono ?_,fun h5 sJ eo bk1 bk2 g1 g2 g3 g4 g5=>?_⟩
    ·rintro r V2 l2 ⟨p,rfl,hp⟩
     have h5:kk l[k].ln=false:=by simpa using h5
     have e:eC l (f+1) (k:Int) s=(.leaf false,⟨s.seen.set k true,s.lq+1,true⟩):=by
      simp only [eC,n0,n1,n2,if_false,Int.toNat_natCast]
      rw [hsk,hlk]
      simp [h5]
     exact ⟨p,rfl,fun V3 l3 g1 g2=>⟨p,rfl,by rw [e];exact hp.le l3,by rw [e];exact g1,by rw [e];exact g2⟩⟩
    ·have h5:kk l[k].ln=true:=by simpa using h5
     have lv:V.Le sJ:=cS.trans (cP.trans eo)
     have lX:∀(U:View)(u v:Nat),U.H u->U.H v->(U.au [u,v]).X u/\(U.au [u,v]).X v:=fun U u v hu hv=>⟨⟨by simp,hu⟩,⟨by simp,hv⟩⟩
     have i1:=ih l[k].left ⟨s.seen.set k true,s.lq+1,s.bad⟩ (V:=sJ.au [bk1,bk2]) (hns.le lv) g1 (lX _ _ _ g2 g4).1 g3 (lX _ _ _ g2 g4).2 g5 (by simp [hsl]) (by dsimp only;omega) (by dsimp only;omega)
     have hm:=qe l f l[k].left ⟨s.seen.set k true,s.lq+1,s.bad⟩
     have hcc:=zR l f l[k].left ⟨s.seen.set k true,s.lq+1,s.bad⟩
     have e:eC l (f+1) (k:Int) s=(.node l[k].ln (eC l f l[k].left ⟨s.seen.set k true,s.lq+1,s.bad⟩).1 (eC l f l[k].right (eC l f l[k].left ⟨s.seen.set k true,s.lq+1,s.bad⟩).2).1,(eC l f l[k].right (eC l f l[k].left ⟨s.seen.set k true,s.lq+1,s.bad⟩).2).2):=by
      simp only [eC,n0,n1,n2,if_false,Int.toNat_natCast]
      rw [hsk,hlk]
      simp [h5]
     rw [e]
     clear e
     dsimp only
     generalize eC l f l[k].left ⟨s.seen.set k true,s.lq+1,s.bad⟩=q1 at *
     obtain ⟨t1,s1⟩:=q1
     dsimp only at i1 hm hcc ⊢
     refine i1.mono ?_
     rintro r wB jE ⟨p,rfl,hp,e1,e2⟩
     refine ⟨p,rfl,_,_,_,_,_,e1,_,e2,fun tD fa Is KT f1 f2 f3 f4 f5=>?_⟩
     have Vz:sJ.Le tD:=fun b o h=>fa b o (jE b o h)
     have i2:=ih l[k].right s1 (V:=tD.au [Is,KT]) (hns.le (lv.trans Vz)) f1 (lX _ _ _ f2 f4).1 f3 (lX _ _ _ f2 f4).2 f5 (by rw [hm.2];simp [hsl]) (by omega) (by omega)
     generalize eC l f l[k].right s1=q2 at *
     obtain ⟨t2,s2⟩:=q2
     dsimp only at i2 ⊢
     refine i2.mono ?_
     rintro r CD oe ⟨q,rfl,hq,e3,e4⟩
     refine ⟨q,rfl,_,_,_,_,_,e3,_,e4,fun D3 gE=>?_⟩
     have Od:tD.Le CD:=fun b o h=>oe b o h
     have Lv:CD.Le D3:=fun b o h=>gE b o h
     have lw:nN.Le D3:=eo.trans (Vz.trans (Od.trans Lv))
     have SD:wB.Le tD:=fun b o h=>fa b o h
     refine (ES ((hw h5).le lw) (hp.le (SD.trans (Od.trans Lv))) (hq.le Lv)).mono ?_
     rintro r FR oN ⟨u,rfl,hu⟩
     exact ⟨u,rfl,fun Il kC g1 g2=>⟨u,rfl,hu.le kC,g1,g2⟩⟩
theorem Gc {V:View}{l:List Nd}(hb:∀x∈l,Bd x.ln){p:OA}{n c:Nat}(root:Int)(h:NS V p n c l) :
  ab prog 45 #[.agg #[.int .i64 root,.slice p n c]] V fun r V'=>(sS l root=none->∃q,r=.tuple #[.pointer q,.bool false])/\(∀t,sS l root=some t->∃q,r=.tuple #[.pointer q,.bool true]/\RT V' q t):=by
 have hl:=h.len
 subst hl
 refine FD root p l.length c V _ ⟨fun h0 V1 l1=>?_,fun h0=>⟨by omega,Int.le_refl _,?_,fun V2 l2 bk1 bk2 g1 g2 g3 g4 g5=>?_⟩⟩
 ·have h0:65536<l.length:=by simp at h0;omega
  have e:sS l root=none:=by unfold sS;rw [if_pos h0]
  exact ⟨fun _=>⟨_,rfl⟩,fun t ht=>by rw [e] at ht;cases ht⟩
 ·have h0:¬65536<l.length:=by simp at h0;omega
  omega
 ·have h0:¬65536<l.length:=by simp at h0;omega
  simp only [Int.toNat_natCast] at g1 g3 ⊢
  have hr:List.replicate l.length (Value.bool false)=mu (List.replicate l.length false):=by simp [mu]
  rw [hr] at g3
  have hc0:(List.replicate l.length false).count false=l.length:=by simp
  refine (CP hb (by omega) (l.length+1) root ⟨List.replicate l.length false,0,false⟩ (V:=V2.au [bk1,bk2]) (h.le l2) g1 ⟨by simp,g2⟩ g3 ⟨by simp,g4⟩ g5 (by simp) (by dsimp only;omega) (by dsimp only;omega)).mono ?_
  rintro r V3 l3 ⟨q,rfl,hq,e1,e2⟩
  have hof:sS l root=if (eC l (l.length+1) root ⟨List.replicate l.length false,0,false⟩).2.bad=true\/(eC l (l.length+1) root ⟨List.replicate l.length false,0,false⟩).2.lq≠l.length then none else some (eC l (l.length+1) root ⟨List.replicate l.length false,0,false⟩).1:=by
   unfold sS;rw [if_neg h0]
  rw [hof]
  clear hof
  generalize eC l (l.length+1) root ⟨List.replicate l.length false,0,false⟩=r0 at *
  obtain ⟨t,s⟩:=r0
  refine ⟨q,rfl,_,_,_,_,_,e1,_,e2,fun h1 V4 l4=>?_,fun h1=>⟨fun h2 V5 l5=>?_,fun h2 V6 l6=>?_⟩⟩
  ·rw [if_pos (.inl h1)]
   exact ⟨fun _=>⟨_,rfl⟩,fun t ht=>by cases ht⟩
  ·have h2:s.lq≠l.length:=by simp at h2;omega
   rw [if_pos (.inr h2)]
   exact ⟨fun _=>⟨_,rfl⟩,fun t ht=>by cases ht⟩
  ·have h2:s.lq=l.length:=by simp at h2;omega
   dsimp only at h1 ⊢
   rw [if_neg (by rw [h1,h2];simp)]
   exact ⟨fun e=>(by cases e),fun t1 ht=>by cases ht;exact ⟨q,rfl,RT.le (V:=V3) (V':=V6) (fun b o h=>l6 b o h) hq⟩⟩
theorem ab.OB {f:FuncId}{args:Array Value}{V:View}{R R':Value->View->Prop}(h:ab prog f args V R)(hR:∀r V',V.Le V'->(∀b,V'.H b->V.H b)->R r V'->R' r V'):ab prog f args V R':=
 ⟨h.1,h.2.mono fun _ w' ⟨r,he,hx,hr⟩=>⟨r,he,hx,hR r _ (V.GU w' hx) (fun _ hb=>hb) hr⟩⟩
theorem vJ {vs:List Value}{n b:Nat}(h:vs≠[]):vb vs n b=b:=by cases vs with|nil=>exact absurd rfl h|cons v r=>rfl
theorem NR.push {V:View}{vs sp:List Value}{l:List Nd}(h:NR V vs l)(hl:l.length*8<=vs.length){ln:L3}{x y:Int}{b1:Bool}{p1:OA}{n1 c1:Nat}{b2:Bool}{p2:OA}{n2 c2:Nat}{b3:Bool}{p3:OA}{n3 c3:Nat}
  (hL:RL V (.agg #[.bool b1,.slice p1 n1 c1,.bool b2,.slice p2 n2 c2,.bool b3,.slice p3 n3 c3]) ln.1 ln.2.1 ln.2.2) :
  NR V (vs.take (l.length*8)++[.bool b1,.slice p1 n1 c1,.bool b2,.slice p2 n2 c2,.bool b3,.slice p3 n3 c3,.int .i64 x,.int .i64 y]++sp) (l++[⟨ln,x,y⟩]):=by
 intro i d hd
 rcases Nat.lt_or_ge i l.length with hi|hi
 ·rw [List.getElem?_append_left hi] at hd
  obtain ⟨b1',SW,n1',c1',b2',SX,SN,c2',b3',SY,SO,c3',h1,h2⟩:=h i d hd
  refine ⟨b1',SW,n1',c1',b2',SX,SN,c2',b3',SY,SO,c3',fun j v hv=>?_,h2⟩
  have hj:j<8:=by
   rcases Nat.lt_or_ge j 8 with hj|hj
   ·exact hj
   ·rw [List.getElem?_eq_none (by simpa using hj)] at hv;cases hv
  have:=h1 j v hv
  rw [List.append_assoc,List.getElem?_append_left (by rw [List.length_take];omega),List.getElem?_take,if_pos (by omega)]
  exact this
 ·rw [List.getElem?_append_right hi] at hd
  have hi':i=l.length:=by
   rcases Nat.lt_or_ge (i-l.length) 1 with h'|h'
   ·omega
   ·rw [List.getElem?_eq_none (by simpa using h')] at hd;cases hd
  subst hi'
  simp only [Nat.sub_self,List.getElem?_cons_zero,Option.some.injEq] at hd
  subst hd
  refine ⟨b1,p1,n1,c1,b2,p2,n2,c2,b3,p3,n3,c3,fun j v hv=>?_,.inl hL⟩
  have hj:j<8:=by
   rcases Nat.lt_or_ge j 8 with hj|hj
   ·exact hj
   ·rw [List.getElem?_eq_none (by simpa using hj)] at hv;cases hv
  rw [List.append_assoc,List.getElem?_append_right (by rw [List.length_take];omega),List.length_take,Nat.min_eq_left hl,Nat.add_sub_cancel_left,List.getElem?_append_left (by simpa using hj)]
  exact hv
theorem NR.Tv {V:View}{vs:List Value}{l:List Nd}(h:NR V vs l){k:Nat}{d:Nd}(hd:l[k]?=some d){x:Int}:NR V (vs.set (k*8+6) (.int .i64 x)) (l.set k ⟨d.ln,x,d.right⟩):=by
 intro i d' hd'
 rw [List.getElem?_set] at hd'
 split at hd'
 ·rename_i e
  subst e
  split at hd'
  ·cases hd'
   obtain ⟨b1,p1,n1,c1,b2,p2,n2,c2,b3,p3,n3,c3,h1,h2⟩:=h k d hd
   refine ⟨b1,p1,n1,c1,b2,p2,n2,c2,b3,p3,n3,c3,fun j v hv=>?_,h2⟩
   rw [List.getElem?_set]
   by_cases hj:j=6
   ·subst hj
    have:=h1 6 _ rfl
    have hlt:k*8+6<vs.length:=by
     rcases Nat.lt_or_ge (k*8+6) vs.length with h|h
     ·exact h
     ·rw [List.getElem?_eq_none h] at this;cases this
    rw [if_pos rfl,if_pos hlt]
    exact hv
   ·rw [if_neg (by omega)]
    refine h1 j v ?_
    match j,hj,hv with
    | 0,_,hv=>exact hv
    | 1,_,hv=>exact hv
    | 2,_,hv=>exact hv
    | 3,_,hv=>exact hv
    | 4,_,hv=>exact hv
    | 5,_,hv=>exact hv
    | 6,hj,_=>exact absurd rfl hj
    | 7,_,hv=>exact hv
    | n+8,_,hv=>exact hv
  ·cases hd'
 ·rename_i e
  obtain ⟨b1,p1,n1,c1,b2,p2,n2,c2,b3,p3,n3,c3,h1,h2⟩:=h i d' hd'
  refine ⟨b1,p1,n1,c1,b2,p2,n2,c2,b3,p3,n3,c3,fun j v hv=>?_,h2⟩
  have hj:j<8:=by
   rcases Nat.lt_or_ge j 8 with hj|hj
   ·exact hj
   ·rw [List.getElem?_eq_none (by simpa using hj)] at hv;cases hv
  rw [List.getElem?_set_ne (by omega)]
  exact h1 j v hv
theorem NR.Tw {V:View}{vs:List Value}{l:List Nd}(h:NR V vs l){k:Nat}{d:Nd}(hd:l[k]?=some d){x:Int}:NR V (vs.set (k*8+7) (.int .i64 x)) (l.set k ⟨d.ln,d.left,x⟩):=by
 intro i d' hd'
 rw [List.getElem?_set] at hd'
 split at hd'
 ·rename_i e
  subst e
  split at hd'
  ·cases hd'
   obtain ⟨b1,p1,n1,c1,b2,p2,n2,c2,b3,p3,n3,c3,h1,h2⟩:=h k d hd
   refine ⟨b1,p1,n1,c1,b2,p2,n2,c2,b3,p3,n3,c3,fun j v hv=>?_,h2⟩
   rw [List.getElem?_set]
   by_cases hj:j=7
   ·subst hj
    have:=h1 7 _ rfl
    have hlt:k*8+7<vs.length:=by
     rcases Nat.lt_or_ge (k*8+7) vs.length with h|h
     ·exact h
     ·rw [List.getElem?_eq_none h] at this;cases this
    rw [if_pos rfl,if_pos hlt]
    exact hv
   ·rw [if_neg (by omega)]
    refine h1 j v ?_
    match j,hj,hv with
    | 0,_,hv=>exact hv
    | 1,_,hv=>exact hv
    | 2,_,hv=>exact hv
    | 3,_,hv=>exact hv
    | 4,_,hv=>exact hv
    | 5,_,hv=>exact hv
    | 6,_,hv=>exact hv
    | 7,hj,_=>exact absurd rfl hj
    | n+8,_,hv=>exact hv
  ·cases hd'
 ·rename_i e
  obtain ⟨b1,p1,n1,c1,b2,p2,n2,c2,b3,p3,n3,c3,h1,h2⟩:=h i d' hd'
  refine ⟨b1,p1,n1,c1,b2,p2,n2,c2,b3,p3,n3,c3,fun j v hv=>?_,h2⟩
  have hj:j<8:=by
   rcases Nat.lt_or_ge j 8 with hj|hj
   ·exact hj
   ·rw [List.getElem?_eq_none (by simpa using hj)] at hv;cases hv
  rw [List.getElem?_set_ne (by omega)]
  exact h1 j v hv
theorem NR.kids {V:View}{vs:List Value}{l r:List Nd}{ln:L3}{u v x y:Int}(h:NR V vs (l++⟨ln,u,v⟩::r)):NR V ((vs.set (l.length*8+6) (.int .i64 x)).set (l.length*8+7) (.int .i64 y)) (l++⟨ln,x,y⟩::r):=by
 have e1:(l++(⟨ln,u,v⟩:Nd)::r)[l.length]?=some ⟨ln,u,v⟩:=by simp
 have h1:=h.Tv e1 (x:=x)
 have e2:(l++(⟨ln,u,v⟩:Nd)::r).set l.length ⟨ln,x,v⟩=l++⟨ln,x,v⟩::r:=by simp
 rw [e2] at h1
 have e3:(l++(⟨ln,x,v⟩:Nd)::r)[l.length]?=some ⟨ln,x,v⟩:=by simp
 have h2:=h1.Tw e3 (x:=y)
 have e4:(l++(⟨ln,x,v⟩:Nd)::r).set l.length ⟨ln,x,y⟩=l++⟨ln,x,y⟩::r:=by simp
 rw [e4] at h2
 exact h2
theorem NR.take {V:View}{vs:List Value}{l:List Nd}(h:NR V vs l):NR V (vs.take (l.length*8)) l:=by
 intro i d hd
 obtain ⟨b1,p1,n1,c1,b2,p2,n2,c2,b3,p3,n3,c3,h1,h2⟩:=h i d hd
 refine ⟨b1,p1,n1,c1,b2,p2,n2,c2,b3,p3,n3,c3,fun j v hv=>?_,h2⟩
 have hj:j<8:=by
  rcases Nat.lt_or_ge j 8 with hj|hj
  ·exact hj
  ·rw [List.getElem?_eq_none (by simpa using hj)] at hv;cases hv
 have hi:i<l.length:=by
  rcases Nat.lt_or_ge i l.length with h|h
  ·exact h
  ·rw [List.getElem?_eq_none h] at hd;cases hd
 rw [List.getElem?_take,if_pos (by omega)]
 exact h1 j v hv
theorem NS.ofRow {V:View}{b c:Nat}{vm:List Value}{l:List Nd}{ty:TypeId}(hb:vm≠[]->V.bF b (.cells vm.toArray ty (0,0)))(hc:l.length<=c)(hr:NR V vm l):NS V (mA b c) l.length c l:=by
 refine ⟨rfl,hc,⟨_,?_,hr.take⟩,?_⟩
 ·intro i v hv
  rw [List.getElem?_take] at hv
  split at hv
  ·rename_i hi
   have hne:vm≠[]:=fun e=>by rw [e] at hv;simp at hv
   refine ⟨⟨b,0,none⟩,by unfold mA;rw [if_neg (by omega)],?_⟩
   rw [add_zero']
   exact cW (hb hne) hv
  ·cases hv
 ·intro e
  unfold mA at e
  split at e
  ·assumption
  ·cases e
def Qt (V:View)(vs:List Value)(ts:List Tr):Prop:=∀(i:Nat)(t:Tr),ts[i]?=some t->∃p,vs[i]?=some (.pointer p)/\RT V p t
theorem Qt.le {V V':View}{vs:List Value}{ts:List Tr}(h:Qt V vs ts)(l:V.Le V'):Qt V' vs ts:=fun i t ht=>by
 obtain ⟨p,h1,h2⟩:=h i t ht
 exact ⟨p,h1,h2.le l⟩
def AT (V:View)(v:Value)(root:Int)(l:List Nd):Prop:=∃q n c,v=.agg #[.int .i64 root,.slice q n c]/\NS V q n c l
theorem AT.le {V V':View}{v:Value}{root:Int}{l:List Nd}(h:AT V v root l)(hl:V.Le V'):AT V' v root l:=by
 obtain ⟨q,n,c,e,h⟩:=h;exact ⟨q,n,c,e,h.le hl⟩
theorem AT.zero {V:View}:AT V (.agg #[.int .i64 0,.slice none 0 0]) 0 []:=⟨_,_,_,rfl,NS.nil⟩
end Go.Proofs.Tryz
namespace Go.Proofs.Tryz
open Go.bL
set_option maxRecDepth 100000
end Go.Proofs.Tryz
namespace Go.Proofs.Tryz
open Go.bL Go.fN
theorem ET {V:View}{l:List Nd}(hb:∀x∈l,Bd x.ln){v:Value}{root:Int}(h:AT V v root l) :
  ab prog 45 #[v] V fun r V'=>∃q,r=.tuple #[.pointer q,.bool (sS l root).isSome]/\∀t,sS l root=some t->RT V' q t:=by
 obtain ⟨p,n,c,rfl,h⟩:=h
 refine (Gc hb root h).mono ?_
 rintro r V' _ ⟨h1,h2⟩
 cases e:sS l root with
 | none=>obtain ⟨q,rfl⟩:=h1 e;exact ⟨q,rfl,fun t ht=>by cases ht⟩
 | some t=>obtain ⟨q,rfl,hq⟩:=h2 t e;exact ⟨q,rfl,fun t' ht=>by cases ht;exact hq⟩
theorem RQ.ofNat {V:View}{p:OA}{n c x:Nat}(h:RN V p n c x){b:Bool}(hb:b=decide ((x:Int)<0)):RQ V (.agg #[.bool b,.slice p n c,.slice none 0 0]) ((x:Int):Rat):=
 lT (z:=(x:Int)) (d:=1) rfl rfl h RD.nil hb
theorem RQ.int {V:View}{q:Rat}{b:Bool}{p:OA}{n c:Nat}{p':OA}{n' c':Nat}(h:RQ V (.agg #[.bool b,.slice p n c,.slice p' n' c']) q):RI V (.agg #[.bool b,.slice p n c]) q.num:=by
 obtain ⟨p1,n1,c1,p2,n2,c2,e,h1,h2⟩:=h
 cases e
 exact ⟨_,_,_,rfl,h1⟩
theorem RQ.den {V:View}{q:Rat}{b:Bool}{p:OA}{n c:Nat}{p':OA}{n' c':Nat}(h:RQ V (.agg #[.bool b,.slice p n c,.slice p' n' c']) q):RD V p' n' c' (sO q.den):=by
 obtain ⟨p1,n1,c1,p2,n2,c2,e,h1,h2⟩:=h
 cases e
 exact h2
def wC (px py qx qy:Rat):Rat×Rat×Rat:=
 let a:=-(qy-py);let b:=qx-px;let c:=-(a*px+b*py)
 let f:Rat:=(((a.den*b.den*c.den:Nat):Int):Rat)
 (a*f,b*f,c*f)
theorem Md {n k:Nat}(h:n<2^k)(hk:0<k):Sz k (((n:Nat):Int):Rat):=by
 refine ⟨?_,?_⟩
 ·show ((n:Nat):Int).natAbs<_
  simpa using h
 ·show 1<2^k
  exact Nat.one_lt_two_pow (by omega)
theorem lR {V:View}{u w:Value}{px py qx qy:Rat}(hp:RP V u px py)(hq:RP V w qx qy){k:Nat}(s1:Sz k px)(s2:Sz k py)(s3:Sz k qx)(s4:Sz k qy)(hk1:1<=k)(hk:64*k+64<274877906944) :
  ab prog 50 #[u,w] V fun r V'=>((wC px py qx qy).1.num=0/\(wC px py qx qy).2.1.num=0->∃l,r=.tuple #[l,.bool false]/\RL V' l 0 0 0) /\
   (¬((wC px py qx qy).1.num=0/\(wC px py qx qy).2.1.num=0)->∃l,r=.tuple #[l,.bool true] /\
    RL V' l ((wC px py qx qy).1.num / (js (wC px py qx qy).1.num (wC px py qx qy).2.1.num (wC px py qx qy).2.2.num:Int)) ((wC px py qx qy).2.1.num / (js (wC px py qx qy).1.num (wC px py qx qy).2.1.num (wC px py qx qy).2.2.num:Int)) ((wC px py qx qy).2.2.num / (js (wC px py qx qy).1.num (wC px py qx qy).2.1.num (wC px py qx qy).2.2.num:Int))):=by
 have hp0:=hp
 have hq0:=hq
 obtain ⟨p1,n1,c1,p2,n2,c2,p3,n3,c3,p4,n4,c4,rfl,hp1,hp2⟩:=hp
 obtain ⟨q1,m1,e1,q2,m2,e2,q3,m3,e3,q4,m4,e4,rfl,-,-⟩:=hq
 refine rM _ p1 n1 c1 p2 n2 c2 _ p3 n3 c3 p4 n4 c4 _ q1 m1 e1 q2 m2 e2 _ q3 m3 e3 q4 m4 e4 V _ fun V1 l1=>(A6 (hq0.le l1) (hp0.le l1) s3 s4 s1 s2 hk1 (by omega)).mono ?_
 rintro r V2 l2 ⟨a1,a2,a3,a4,a5,a6,a7,a8,a9,Uv,Uw,a12,rfl,hb,hd⟩
 have tb:Sz (k+k+1) (qx-px):=s3.sub s1
 have td:Sz (k+k+1) (qy-py):=s4.sub s2
 have wR:=l1.trans l2
 refine ⟨_,_,_,_,_,_,_,_,_,_,_,_,_,_,rfl,fun V3 l3=>(kv (qy-py) (by obtain ⟨_,_,_,_,_,_,e,h1,h2⟩:=hd.le l3;cases e;exact h1) (RQ.den (hd.le l3))).mono ?_⟩
 rintro r V4 l4 ha
 obtain ⟨b1,b2,b3,b4,b5,b6,rfl⟩:=ha.shape
 have ta:=td.neg
 have Sk:wC px py qx qy=(-(qy-py)*(((((-(qy-py)).den*(qx-px).den*(-(-(qy-py)*px+(qx-px)*py)).den:Nat):Int):Rat)),(qx-px)*(((((-(qy-py)).den*(qx-px).den*(-(-(qy-py)*px+(qx-px)*py)).den:Nat):Int):Rat)),(-(-(qy-py)*px+(qx-px)*py))*(((((-(qy-py)).den*(qx-px).den*(-(-(qy-py)*px+(qx-px)*py)).den:Nat):Int):Rat))):=rfl
 rw [Sk]
 generalize -(qy-py)=A at *
 generalize qx-px=B at *
 replace hb:=hb.le (l3.trans l4)
 replace hp1:=hp1.le (wR.trans (l3.trans l4))
 replace hp2:=hp2.le (wR.trans (l3.trans l4))
 refine ⟨_,_,_,_,_,_,_,rfl,fun V5 l5=>(aO (ha.le l5) (hp1.le l5) ta s1 (by omega)).mono ?_⟩
 rintro r V6 l6 g6
 obtain ⟨d1,d2,d3,d4,d5,d6,rfl⟩:=g6.shape
 refine ⟨_,_,_,_,_,_,_,rfl,fun V7 l7=>(aO (hb.le (l5.trans (l6.trans l7))) (hp2.le (l5.trans (l6.trans l7))) tb s2 (by omega)).mono ?_⟩
 rintro r V8 l8 g8
 obtain ⟨f1,f2,f3,f4,f5,f6,rfl⟩:=g8.shape
 refine ⟨_,_,_,_,_,_,_,rfl,fun V9 l9=>(eI (g6.le (l7.trans (l8.trans l9))) (g8.le l9) (ta.mul s1) (tb.mul s2) (by omega)).mono ?_⟩
 rintro r ie l10 g10
 have tc:=((ta.mul s1).add (tb.mul s2)).neg
 obtain ⟨i1,i2,i3,i4,i5,i6,rfl⟩:=g10.shape
 refine ⟨_,_,_,_,_,_,_,rfl,fun gV bI=>(kv (A*px+B*py) (by obtain ⟨_,_,_,_,_,_,e,h1,h2⟩:=g10.le bI;cases e;exact h1) (RQ.den (g10.le bI))).mono ?_⟩
 rintro r lO cg hc
 generalize -(A*px+B*py)=C at *
 obtain ⟨j1,j2,j3,j4,j5,j6,rfl⟩:=hc.shape
 have I6:=l5.trans (l6.trans (l7.trans (l8.trans (l9.trans (l10.trans (bI.trans cg))))))
 replace ha:=ha.le I6
 replace hb:=hb.le I6
 refine ⟨_,_,_,_,_,_,_,rfl,fun me cp=>(bZ A _ (RQ.den (ha.le cp))).mono ?_⟩
 rintro r pC dz ⟨k1,k2,k3,rfl,g14⟩
 refine ⟨_,_,_,rfl,fun nh dm=>(bZ B _ (RQ.den (hb.le (cp.trans (dz.trans dm))))).mono ?_⟩
 rintro r mr cS ⟨k4,k5,k6,rfl,g16⟩
 obtain ⟨-,da,-⟩:=cA ta
 obtain ⟨-,db,-⟩:=cA tb
 obtain ⟨-,dc,-⟩:=cA tc
 refine ⟨_,_,_,rfl,fun nN cP=>(cz (g14.le (dm.trans (cS.trans cP))) (g16.le cP) (by omega)).mono ?_⟩
 rintro r pH df ⟨k7,k8,k9,rfl,g18⟩
 rw [ag,ag] at g18
 refine ⟨_,_,_,rfl,fun rP dA=>(bZ C _ (RQ.den (hc.le (cp.trans (dz.trans (dm.trans (cS.trans (cP.trans (df.trans dA))))))))).mono ?_⟩
 rintro r yN gZ ⟨k10,k11,k12,rfl,g20⟩
 have Zn:=im (a:=A.den) (b:=B.den)
 refine ⟨_,_,_,rfl,fun sJ eo=>(cz (g18.le (dA.trans (gZ.trans eo))) (g20.le eo) (by omega)).mono ?_⟩
 rintro r wB jE ⟨k13,k14,k15,rfl,g22⟩
 rw [ag,ag] at g22
 have tf:Sz (k+k+1+(k+k+1)+(k+k+1+k+1+(k+k+1+k+1)+1)) (((A.den*B.den*C.den:Nat):Int):Rat):=Md (bB (bB ta.2 tb.2) tc.2) (by omega)
 generalize A.den*B.den*C.den=M at *
 refine ⟨_,_,_,rfl,fun tD fa=>(qX (g22.le fa)).mono ?_⟩
 rintro r CD oe ⟨k16,k17,k18,rfl,g24⟩
 have hf:=RQ.ofNat g24 rfl
 have Lq:=cp.trans (dz.trans (dm.trans (cS.trans (cP.trans (df.trans (dA.trans (gZ.trans (eo.trans (jE.trans (fa.trans oe))))))))))
 refine ⟨_,_,_,_,rfl,fun D3 gE=>(aO (ha.le (Lq.trans gE)) (hf.le gE) ta tf (by omega)).mono ?_⟩
 rintro r FR oN UJ
 obtain ⟨o1,o2,o3,o4,o5,o6,rfl⟩:=UJ.shape
 refine ⟨_,_,_,_,_,_,_,rfl,fun Il kC=>(aO (hb.le (Lq.trans (gE.trans (oN.trans kC)))) (hf.le (gE.trans (oN.trans kC))) tb tf (by omega)).mono ?_⟩
 rintro r FT uU UK
 obtain ⟨o7,o8,o9,ZC,ZD,ZE,rfl⟩:=UK.shape
 refine ⟨_,_,_,_,_,_,_,rfl,fun KK rz=>(aO (hc.le (Lq.trans (gE.trans (oN.trans (kC.trans (uU.trans rz)))))) (hf.le (gE.trans (oN.trans (kC.trans (uU.trans rz))))) tc tf (by omega)).mono ?_⟩
 rintro r FU uV Bk
 obtain ⟨t1,t2,t3,t4,t5,t6,rfl⟩:=Bk.shape
 refine ⟨_,_,_,_,_,_,_,rfl,fun MT CF=>(wL (RQ.int (UJ.le (kC.trans (uU.trans (rz.trans (uV.trans CF)))))) (RQ.int (UK.le (rz.trans (uV.trans CF)))) (RQ.int (Bk.le CF)) (Nat.le_trans (cA (ta.mul tf)).1 (by omega)) (Nat.le_trans (cA (tb.mul tf)).1 (by omega)) (Nat.le_trans (cA (tc.mul tf)).1 (by omega))).mono ?_⟩
 rintro r Qu FO ⟨z1,z2⟩
 by_cases hz:(A*((M:Int):Rat)).num=0/\(B*((M:Int):Rat)).num=0
 ·obtain ⟨l,rfl,y1,y2,y3,y4,y5,y6,y7,y8,y9,rfl,w1,w2,w3⟩:=z1 hz
  exact ⟨_,_,_,_,_,_,_,_,_,_,_,_,_,rfl,fun PN yn=>⟨fun _=>⟨_,rfl,_,_,_,_,_,_,_,_,_,rfl,w1.le yn,w2.le yn,w3.le yn⟩,fun h=>absurd hz h⟩⟩
 ·obtain ⟨l,rfl,y1,y2,y3,y4,y5,y6,y7,y8,y9,rfl,w1,w2,w3⟩:=z2 hz
  exact ⟨_,_,_,_,_,_,_,_,_,_,_,_,_,rfl,fun PN yn=>⟨fun h=>absurd h hz,fun _=>⟨_,rfl,_,_,_,_,_,_,_,_,_,rfl,w1.le yn,w2.le yn,w3.le yn⟩⟩⟩
theorem JJ (x y u w:Int):wC (x:Rat) (y:Rat) ((x:Rat)+((1:Int):Rat)*(u:Rat)) ((y:Rat)+((1:Int):Rat)*(w:Rat))=(((-w:Int):Rat),((u:Int):Rat),((w*x-u*y:Int):Rat)):=by
 have e1:(x:Rat)+((1:Int):Rat)*(u:Rat)=((x+u:Int):Rat):=by rw [←Rat.intCast_mul,←Rat.intCast_add,Int.one_mul]
 have e2:(y:Rat)+((1:Int):Rat)*(w:Rat)=((y+w:Int):Rat):=by rw [←Rat.intCast_mul,←Rat.intCast_add,Int.one_mul]
 rw [e1,e2]
 have ha:-(((y+w:Int):Rat)-(y:Rat))=((-w:Int):Rat):=by rw [←Rat.intCast_sub,←Rat.intCast_neg];congr 1;omega
 have hb:((x+u:Int):Rat)-(x:Rat)=((u:Int):Rat):=by rw [←Rat.intCast_sub];congr 1;omega
 have hc:-(((-w:Int):Rat)*(x:Rat)+((u:Int):Rat)*(y:Rat))=((w*x-u*y:Int):Rat):=by
  rw [←Rat.intCast_mul,←Rat.intCast_mul,←Rat.intCast_add,←Rat.intCast_neg];congr 1;rw [Int.neg_mul];omega
 have hf:(((((-w:Int):Rat).den*((u:Int):Rat).den*((w*x-u*y:Int):Rat).den:Nat):Int):Rat)=1:=rfl
 unfold wC
 dsimp only
 rw [ha,hb,hc,hf,Rat.mul_one,Rat.mul_one,Rat.mul_one]
def Dh (a b c:Int):L3:=(a / (js a b c:Int),b / (js a b c:Int),c / (js a b c:Int))
def small (z:Int)(k:Nat):Bool:=decide (z.natAbs<=k)
theorem GV:∀i:Fin 9,∀j:Fin 9,∀k:Fin 65,(i.1=4/\j.1=4)\/(kk (Dh ((i.1:Int)-4) ((j.1:Int)-4) ((k.1:Int)-32))&&small (Dh ((i.1:Int)-4) ((j.1:Int)-4) ((k.1:Int)-32)).1 32&&small (Dh ((i.1:Int)-4) ((j.1:Int)-4) ((k.1:Int)-32)).2.1 32&&small (Dh ((i.1:Int)-4) ((j.1:Int)-4) ((k.1:Int)-32)).2.2 32)=true:=by decide +kernel
theorem KR (k:Nat)(hk:6<=k){z:Int}(h:z.natAbs<=32):z.natAbs<2^k:=Nat.lt_of_le_of_lt h (Nat.lt_of_lt_of_le (by decide:32<2^6) (Nat.pow_le_pow_right (by decide) hk))
theorem M5 (k:Nat)(hk:6<=k){x:L3}(h1:x.1.natAbs<=32)(h2:x.2.1.natAbs<=32)(h3:x.2.2.natAbs<=32):x.1.natAbs<2^k/\x.2.1.natAbs<2^k/\x.2.2.natAbs<2^k:=⟨KR k hk h1,KR k hk h2,KR k hk h3⟩
theorem Jd {a b c:Int}(h1:-4<=a/\a<=4)(h2:-4<=b/\b<=4)(h3:-32<=c/\c<=32)(h:¬(a=0/\b=0)):kk (Dh a b c)=true/\Bd (Dh a b c):=by
 have:=GV ⟨(a+4).toNat,by omega⟩ ⟨(b+4).toNat,by omega⟩ ⟨(c+32).toNat,by omega⟩
 dsimp only at this
 rw [show (((a+4).toNat:Nat):Int)-4=a from by omega,show (((b+4).toNat:Nat):Int)-4=b from by omega,show (((c+32).toNat:Nat):Int)-32=c from by omega] at this
 rcases this with h'|h'
 ·omega
 ·simp only [Bool.and_eq_true,small,decide_eq_true_eq] at h'
  exact ⟨h'.1.1.1,M5 1000 (by decide) h'.1.1.2 h'.1.2 h'.2⟩
theorem G1 {x y:Int}(h1:-4<=x/\x<=4)(h2:-4<=y/\y<=4):-16<=x*y/\x*y<=16:=by
 have:(x*y).natAbs<=4*4:=by rw [Int.natAbs_mul];exact Nat.mul_le_mul (by omega) (by omega)
 omega
theorem qM {V:View}{v:Value}{a b c:Int}(h:RL V v a b c):∃(b1:Bool)(p1:OA)(n1 c1:Nat)(b2:Bool)(p2:OA)(n2 c2:Nat)(b3:Bool)(p3:OA)(n3 c3:Nat),v=.agg #[.bool b1,.slice p1 n1 c1,.bool b2,.slice p2 n2 c2,.bool b3,.slice p3 n3 c3]:=by
 obtain ⟨p,n,s,p',n',s',q,m,e,rfl,-⟩:=h
 exact ⟨_,_,_,_,_,_,_,_,_,_,_,_,rfl⟩
def EI (V:View)(p:OA)(n:Nat):Prop:=∀i,i<n->∃(a:Addr)(x:Int),ah p (i*1)=some a/\V.at a (.int .i64 x)
theorem EI.le {V V':View}{p:OA}{n:Nat}(h:EI V p n)(l:V.Le V'):EI V' p n:=fun i hi=>by
 obtain ⟨a,x,e,hx⟩:=h i hi;exact ⟨a,x,e,l.at hx⟩
def mc (V:View)(tb:Nat)(p:OA)(n c:Nat)(at_:Int):Prop:=V.w.heap[tb]?=some (.cells #[.slice p n c,.int .i64 at_] 95 (0,0))
theorem jS {V:View}{tb:Nat}{p:OA}{n c:Nat}{at_:Int}(k:Int)(hr:EI V p n)(hn:n<=400)(hw:mc V tb p n c at_)(hx:V.X tb)(h0:0<=at_)(hk:0<k)(hk2:k<=1000) :
  ab prog 22 #[.pointer (some ⟨tb,0,none⟩),.int .i64 k] V fun r V'=>∃x at',r=.int .i64 x/\0<=x/\x<k/\0<=at'/\mc V' tb p n c at':=by
 refine pB tb p n c at_ k V _ hw hx ⟨fun g V1 l1 e=>⟨0,at_,rfl,by omega,hk,h0,e⟩,fun g=>?_⟩
 have g:at_<n:=by have:=of_decide_eq_false g;omega
 obtain ⟨i,rfl⟩:∃i:Nat,at_=i:=⟨at_.toNat,by omega⟩
 obtain ⟨a,x,e1,e2⟩:=hr i (by omega)
 have hs:p.isSome=true:=by
  cases p with
  | none=>simp [ah] at e1
  | some a=>rfl
 have m1:(x.tmod k).natAbs<k.natAbs:=by rw [Int.natAbs_tmod];exact Nat.mod_lt _ (by omega)
 have w1:i64.wrap ((i:Int)+1)=((i+1:Nat):Int):=by rw [ar (by omega)];omega
 rw [Int.toNat_natCast,w1]
 have w2:i64.wrap (x.tmod k+k)=x.tmod k+k:=ar (by omega)
 refine ⟨hs,⟨by omega,by omega⟩,x,⟨a,e1,e2⟩,by omega,fun g2 V2 l2 e=>⟨x.tmod k+k,_,by rw [w2],?_,?_,?_,e⟩,fun g2 V3 l3 e=>⟨_,_,rfl,?_,?_,?_,e⟩⟩
 ·omega
 ·have:=of_decide_eq_true g2;omega
 ·omega
 ·have:=of_decide_eq_false g2;omega
 ·omega
 ·omega
theorem UB {V:View}{tb:Nat}{p:OA}{n c:Nat}{at_:Int}(hr:EI V p n)(hn:n<=400)(hw:mc V tb p n c at_)(hx:V.X tb)(h0:0<=at_) :
  ab prog 70 #[.pointer (some ⟨tb,0,none⟩)] V fun r V'=>∃(x y at':Int),RP V' r (x:Rat) (y:Rat)/\(-4<=x/\x<=4)/\(-4<=y/\y<=4)/\0<=at'/\mc V' tb p n c at':=by
 refine tz tb p n c at_ V _ hw hx fun V1 l1 bk1 e1 h1=>(jS (V:=V1.au [bk1]) 9 (hr.le fun b o h=>l1 b o h) hn e1 ⟨by simp,h1⟩ h0 (by omega) (by omega)).mono ?_
 rintro r V2 l2 ⟨x,F1,rfl,x0,x1,t1,hw1⟩
 refine ⟨_,rfl,_,_,_,_,hw1,fun V3 l3 M7 e3 h3=>(jS (V:=V3.au [M7]) 9 (hr.le fun b o h=>l3 b o (l2 b o (l1 b o h))) hn e3 ⟨by simp,h3⟩ t1 (by omega) (by omega)).mono ?_⟩
 rintro r V4 l4 ⟨y,at2,rfl,y0,y1,t2,hw2⟩
 refine ⟨_,rfl,_,_,_,_,hw2,fun V5 l5=>?_⟩
 rw [ar (x:=x-4) (by omega),ar (x:=y-4) (by omega)]
 refine (dJ (x-4) (y-4) (by omega) (by omega) (by omega) (by omega)).mono ?_
 rintro r V6 l6 hp
 have hp0:=hp
 obtain ⟨p1,n1,c1,p2,n2,c2,p3,n3,c3,p4,n4,c4,rfl,-⟩:=hp
 exact ⟨_,_,_,_,_,_,_,_,_,_,_,_,_,_,rfl,fun V7 l7 e7=>⟨x-4,y-4,at2,hp0.le l7,⟨by omega,by omega⟩,⟨by omega,by omega⟩,t2,e7⟩⟩
theorem RQ.zero {V:View}:RQ V (.agg #[.bool false,.slice none 0 0,.slice none 0 0]) ((0:Int):Rat):=⟨none,0,0,none,0,0,rfl,RD.nil,RD.nil⟩
theorem RP.zero {V:View}:RP V (.agg #[.bool false,.slice none 0 0,.slice none 0 0,.bool false,.slice none 0 0,.slice none 0 0]) ((0:Int):Rat) ((0:Int):Rat):=
 ⟨none,0,0,none,0,0,none,0,0,none,0,0,rfl,RQ.zero,RQ.zero⟩
theorem qv {z:Int}(h:-40<=z/\z<=40):Sz 10 (z:Rat):=rG (by omega) (by omega)
theorem WS {V:View}{tb:Nat}{p:OA}{n c:Nat}{at_:Int}(hr:EI V p n)(hn:n<=400)(hw:mc V tb p n c at_)(hx:V.X tb)(h0:0<=at_) :
  ab prog 71 #[.pointer (some ⟨tb,0,none⟩)] V fun r V'=>∃(x y at':Int),RP V' r (x:Rat) (y:Rat)/\(-4<=x/\x<=4)/\(-4<=y/\y<=4)/\¬(x=0/\y=0)/\0<=at'/\mc V' tb p n c at':=by
 refine tB tb p n c at_ V _ hw hx fun V1 l1 bk1 e1 h1=>(UB (V:=V1.au [bk1]) (hr.le fun b o h=>l1 b o h) hn e1 ⟨by simp,h1⟩ h0).mono ?_
 rintro r V2 l2 ⟨x,y,F1,hp,hx1,hy1,t1,hw1⟩
 have hp0:=hp
 obtain ⟨p1,n1,c1,p2,n2,c2,p3,n3,c3,p4,n4,c4,rfl,-⟩:=hp
 refine ⟨_,_,_,_,_,_,_,_,_,_,_,_,_,_,rfl,_,_,_,_,hw1,fun V3 l3=>(zl (hp0.le fun b o h=>l3 b o h) RP.zero (qv (by omega)) (qv (by omega)) (qv (by omega)) (qv (by omega)) (by omega)).mono ?_⟩
 rintro r V4 l4 rfl
 refine ⟨_,rfl,fun g V5 l5=>(dJ 1 0 (by omega) (by omega) (by omega) (by omega)).mono ?_,fun g V8 l8 e8=>⟨x,y,F1,hp0.le fun b o h=>l8 b o (l4 b o (l3 b o h)),hx1,hy1,?_,t1,e8⟩⟩
 ·rintro r V6 l6 hq
  have hq0:=hq
  obtain ⟨p1,n1,c1,p2,n2,c2,p3,n3,c3,p4,n4,c4,rfl,-⟩:=hq
  exact ⟨_,_,_,_,_,_,_,_,_,_,_,_,_,_,rfl,fun V7 l7 e7=>⟨1,0,F1,hq0.le l7,⟨by omega,by omega⟩,⟨by omega,by omega⟩,by omega,t1,e7⟩⟩
 ·rintro ⟨rfl,rfl⟩
  simp at g
theorem WR {V:View}{tb:Nat}{p:OA}{n c:Nat}{at_:Int}(hr:EI V p n)(hn:n<=400)(hw:mc V tb p n c at_)(hx:V.X tb)(h0:0<=at_) :
  ab prog 21 #[.pointer (some ⟨tb,0,none⟩)] V fun r V'=>∃(x:L3)(at':Int),RL V' r x.1 x.2.1 x.2.2/\kk x=true/\Bd x/\0<=at'/\mc V' tb p n c at':=by
 refine tw tb p n c at_ V _ hw hx fun V1 l1 bk1 e1 h1=>(UB (V:=V1.au [bk1]) (hr.le fun b o h=>l1 b o h) hn e1 ⟨by simp,h1⟩ h0).mono ?_
 rintro r V2 l2 ⟨x,y,F1,hp,hx1,hy1,t1,hw1⟩
 have hp0:=hp
 obtain ⟨p1,n1,c1,p2,n2,c2,p3,n3,c3,p4,n4,c4,rfl,-⟩:=hp
 refine ⟨_,_,_,_,_,_,_,_,_,_,_,_,_,_,rfl,_,_,_,_,hw1,fun V3 l3=>(fm 1 (by omega) (by omega)).mono ?_⟩
 rintro r V4 l4 hq
 have hq0:=hq
 obtain ⟨p5,n5,c5,p6,n6,c6,rfl⟩:=hq.shape
 refine ⟨_,_,_,_,_,_,_,rfl,fun V5 l5 QP e5 h5=>(WS (V:=V5.au [QP]) (hr.le fun b o h=>l5 b o (l4 b o (l3 b o (l2 b o (l1 b o h))))) hn e5 ⟨by simp,h5⟩ t1).mono ?_⟩
 rintro r V6 l6 ⟨u,w,at2,hv,hu1,So,hne,t2,hw2⟩
 have hv0:=hv
 obtain ⟨q1,m1,d1,q2,m2,d2,q3,m3,d3,q4,m4,d4,rfl,-⟩:=hv
 refine ⟨_,_,_,_,_,_,_,_,_,_,_,_,_,_,rfl,_,_,_,_,hw2,fun V7 l7=>?_⟩
 have kC:V2.Le V7:=fun b o h=>l7 b o (l6 b o (l5 b o (l4 b o (l3 b o h))))
 have Oh:V4.Le V7:=fun b o h=>l7 b o (l6 b o (l5 b o h))
 have XW:V6.Le V7:=fun b o h=>l7 b o h
 refine (eO (hp0.le kC) (hq0.le Oh) (hv0.le XW) (k:=10) (m:=10) (qv (by omega)) (qv (by omega)) (qv (by omega)) (qv (by omega)) (qv (by omega)) (by omega)).mono ?_
 rintro r V8 l8 hs
 have hs0:=hs
 obtain ⟨s1,i1,j1,s2,i2,j2,s3,i3,j3,s4,i4,j4,rfl,-⟩:=hs
 have f1:(x:Rat)+((1:Int):Rat)*(u:Rat)=((x+u:Int):Rat):=by rw [←Rat.intCast_mul,←Rat.intCast_add,Int.one_mul]
 have f2:(y:Rat)+((1:Int):Rat)*(w:Rat)=((y+w:Int):Rat):=by rw [←Rat.intCast_mul,←Rat.intCast_add,Int.one_mul]
 refine ⟨_,_,_,_,_,_,_,_,_,_,_,_,_,_,rfl,fun V9 l9=>(lR (hp0.le (kC.trans (l8.trans l9))) (hs0.le l9) (k:=10) (qv (by omega)) (qv (by omega)) (by rw [f1];exact qv (by omega)) (by rw [f2];exact qv (by omega)) (by omega) (by omega)).mono ?_⟩
 rintro r ie l10 ⟨-,h⟩
 rw [JJ] at h
 have n1:((-w:Int):Rat).num=-w:=rfl
 have n2:((u:Int):Rat).num=u:=rfl
 have n3:((w*x-u*y:Int):Rat).num=w*x-u*y:=rfl
 dsimp only at h
 rw [n1,n2,n3] at h
 obtain ⟨l,rfl,hl⟩:=h (by omega)
 have m1:=G1 So hx1
 have m2:=G1 hu1 hy1
 obtain ⟨k1,k2⟩:=Jd (a:=-w) (b:=u) (c:=w*x-u*y) (by omega) (by omega) (by omega) (by omega)
 have hl0:=hl
 obtain ⟨b1,u1,v1,w1,b2,u2,v2,w2,b3,u3,v3,w3,rfl⟩:=(qM hl)
 exact ⟨_,_,_,_,_,_,_,_,_,_,_,_,_,rfl,fun gV bI e11=>⟨Dh (-w) u (w*x-u*y),at2,hl0.le bI,k1,k2,t2,e11⟩⟩
def RW (V:View):OA->Tr->Prop
 | p,.leaf i=>∃(b:Nat)(c2 c3 c4 c5 c6 c7 c8 c9:Value),p=some ⟨b,0,none⟩/\V.bF b (.cells #[.bool true,.bool i,c2,c3,c4,c5,c6,c7,c8,c9] 64 (0,0))
 | p,.node l x y=>∃(b:Nat)(i:Bool)(b1:Bool)(p1:OA)(n1 c1:Nat)(b2:Bool)(p2:OA)(n2 c2:Nat)(b3:Bool)(p3:OA)(n3 c3:Nat)(pl pr:OA),p=some ⟨b,0,none⟩ /\
   V.bF b (.cells #[.bool false,.bool i,.bool b1,.slice p1 n1 c1,.bool b2,.slice p2 n2 c2,.bool b3,.slice p3 n3 c3,.pointer pl,.pointer pr] 64 (0,0)) /\
   RL V (.agg #[.bool b1,.slice p1 n1 c1,.bool b2,.slice p2 n2 c2,.bool b3,.slice p3 n3 c3]) l.1 l.2.1 l.2.2/\RW V pl x/\RW V pr y
theorem RW.le {V V':View}(h:V.Le V'):∀{t:Tr} {p:OA},RW V p t->RW V' p t
 | .leaf i,p,⟨b,c2,c3,c4,c5,c6,c7,c8,c9,e,hb⟩=>⟨b,c2,c3,c4,c5,c6,c7,c8,c9,e,h _ _ hb⟩
 | .node l x y,p,⟨b,i,b1,p1,n1,c1,b2,p2,n2,c2,b3,p3,n3,c3,pl,pr,e,hb,hl,hx,hy⟩=>⟨b,i,b1,p1,n1,c1,b2,p2,n2,c2,b3,p3,n3,c3,pl,pr,e,h _ _ hb,hl.le h,RW.le h hx,RW.le h hy⟩
theorem ik {V:View}(i:Bool):ab prog 42 #[.bool i] V fun r V'=>∃p,r=.pointer p/\RW V' p (.leaf i):=
 xz i V _ fun V1 l1 b hb=>⟨_,rfl,b,_,_,_,_,_,_,_,_,rfl,hb⟩
def FP (x:L3):Prop:=kk x=true/\Bd x
theorem KV:∀(k:Nat) {V:View} {tb:Nat} {p:OA} {n c:Nat} {at_:Int},k<=10->EI V p n->n<=400->mc V tb p n c at_->V.X tb->0<=at_ ->
  ab prog 11 #[.pointer (some ⟨tb,0,none⟩),.int .i64 (k:Int)] V fun r V'=>∃q t at',r=.pointer q/\RW V' q t/\t.lN FP/\t.size<2^k/\0<=at'/\mc V' tb p n c at':=by
 intro k
 induction k with
 | zero=>
  intro V tb p n c at_ _ hr hn hw hx h0
  refine ji tb p n c at_ _ V _ hw hx ⟨fun g V1 l1 bk1 e1 h1=>(jS (V:=V1.au [bk1]) 2 (hr.le fun b o h=>l1 b o h) hn e1 ⟨by simp,h1⟩ h0 (by omega) (by omega)).mono ?_,fun g=>by simp at g⟩
  rintro r V2 l2 ⟨x,F1,rfl,-,-,t1,hw1⟩
  refine ⟨_,rfl,_,_,_,_,hw1,fun V3 l3=>(ik _).mono ?_⟩
  rintro r V4 l4 ⟨q,rfl,hq⟩
  exact ⟨_,rfl,fun V5 l5 e5=>⟨_,_,F1,rfl,hq.le l5,trivial,by simp [Tr.size],t1,e5⟩⟩
 | succ k ih=>
  intro V tb p n c at_ hk hr hn hw hx h0
  refine ji tb p n c at_ _ V _ hw hx ⟨fun g=>by rw [beq_iff_eq] at g;omega,fun _ V6 l6 PW e6 h6=>(jS (V:=V6.au [PW]) 4 (hr.le fun b o h=>l6 b o h) hn e6 ⟨by simp,h6⟩ h0 (by omega) (by omega)).mono ?_⟩
  rintro r V7 l7 ⟨x,F1,rfl,-,-,t1,hw1⟩
  have FN:V.Le V7:=fun b o h=>l7 b o (l6 b o h)
  refine ⟨_,rfl,_,_,_,_,hw1,fun g V8 l8 QN e8 h8=>(jS (V:=V8.au [QN]) 2 (hr.le fun b o h=>l8 b o (FN b o h)) hn e8 ⟨by simp,h8⟩ t1 (by omega) (by omega)).mono ?_,fun g me cp QQ e13 Mu=>(WR (V:=me.au [QQ]) (hr.le fun b o h=>cp b o (FN b o h)) hn e13 ⟨by simp,Mu⟩ t1).mono ?_⟩
  ·rintro r V9 l9 ⟨x,at2,rfl,-,-,t2,hw2⟩
   refine ⟨_,rfl,_,_,_,_,hw2,fun ie l10=>(ik _).mono ?_⟩
   rintro r gV bI ⟨q,rfl,hq⟩
   exact ⟨_,rfl,fun lO cg e12=>⟨_,_,at2,rfl,hq.le cg,trivial,by simpa [Tr.size] using Nat.two_pow_pos _,t2,e12⟩⟩
  ·rintro r pC dz ⟨ln,at2,hl,hok,hbd,t2,hw2⟩
   have hl0:=hl
   obtain ⟨b1,u1,v1,w1,b2,u2,v2,w2,b3,u3,v3,w3,rfl⟩:=(qM hl)
   have GL:V.Le pC:=fun b o h=>dz b o (cp b o (FN b o h))
   have wk:i64.wrap (((k+1:Nat):Int)-1)=(k:Int):=by rw [ar (by omega)];omega
   refine ⟨_,_,_,_,_,_,_,_,_,_,_,_,rfl,_,_,_,_,hw2,fun nh dm QR e15 P0=>?_⟩
   rw [wk]
   refine ((ih (V:=nh.au [QR]) (by omega) (hr.le fun b o h=>dm b o (GL b o h)) hn e15 ⟨by simp,P0⟩ t2).mono ?_)
   rintro r mr cS ⟨qa,ta,at3,rfl,NI,Ic,hsa,t3,hw3⟩
   have Lp:V.Le mr:=fun b o h=>cS b o (dm b o (GL b o h))
   refine ⟨_,rfl,_,_,_,_,hw3,fun nN cP QS e17 RG=>(ih (V:=nN.au [QS]) (by omega) (hr.le fun b o h=>cP b o (Lp b o h)) hn e17 ⟨by simp,RG⟩ t3).mono ?_⟩
   rintro r pH df ⟨qb,Yg,at4,rfl,XD,htb,hsb,t4,hw4⟩
   refine ⟨_,rfl,_,_,_,_,hw4,fun rP dA QT e19 hb=>⟨_,.node ln ta Yg,at4,rfl,⟨QT,_,_,_,_,_,_,_,_,_,_,_,_,_,_,_,rfl,hb,?_,?_,?_⟩,⟨⟨hok,hbd⟩,Ic,htb⟩,?_,t4,e19⟩⟩
   ·exact hl0.le fun b o h=>dA b o (df b o (cP b o (cS b o (dm b o h))))
   ·exact RW.le (V:=mr) (V':=rP) (fun b o h=>dA b o (df b o (cP b o h))) NI
   ·exact RW.le (V:=pH) (V':=rP) (fun b o h=>dA b o h) XD
   ·simp only [Tr.size];rw [Nat.pow_succ];omega
end Go.Proofs.Tryz
namespace Go.Proofs.Tryz
open Go.bL
set_option maxRecDepth 100000
end Go.Proofs.Tryz
namespace Go.Proofs.Tryz
open Go.bL Go.fN
def Tr.depth:Tr->Nat
 | .leaf _=>0
 | .node _ a b=>1+max a.depth b.depth
def Tr.ins:Tr->Nat
 | .leaf i=>if i then 1 else 0
 | .node _ a b=>a.ins+b.ins
theorem Jx {V:View}{p:OA}{i:Bool}(h:RW V p (.leaf i)):p.isSome=true/\(∃a,ah p 0=some a/\V.at a (.bool true))/\∃a,ah p 1=some a/\V.at a (.bool i):=by
 obtain ⟨b,c2,c3,c4,c5,c6,c7,c8,c9,rfl,hb⟩:=h
 exact ⟨rfl,BS hb 0 rfl,BS hb 1 rfl⟩
end Go.Proofs.Tryz
namespace Go.bL
theorem tW (a:Addr)(m n:Nat):(a.add m).add n=a.add (m+n):=by
 unfold Addr.add
 by_cases h1:m=0
 ·subst h1;simp
 ·by_cases h2:n=0
  ·subst h2;simp [h1]
  ·rw [if_neg h1,if_neg h2,if_neg (by omega)]
   simp only [Nat.add_assoc]
variable {α:Type} {sz:Nat} {R:View->Value->α->Prop} {V V':View}
structure Row (sz:Nat) (R:View->Value->α->Prop) (V:View) (vs:List Value) (al:List α):Prop where
 at_:∀(i:Nat)(h:i<al.length),∃xs:List Value,xs.length=sz/\R V (.agg xs.toArray) al[i]/\∀j x,xs[j]?=some x->vs[i*sz+j]?=some x
structure nV (sz:Nat) (R:View->Value->α->Prop) (V:View) (p:OA) (n:Nat) (al:List α):Prop where
 len:n=al.length
 at_:∀(i:Nat)(h:i<al.length),∃ad,ah p (i*sz)=some ad/\∃xs:List Value,xs.length=sz/\R V (.agg xs.toArray) al[i]/\∀j x,xs[j]?=some x->V.at (ad.add j) x
theorem Row.nil {vs:List Value}:Row sz R V vs []:=⟨fun i h=>absurd h (Nat.not_lt_zero i)⟩
theorem nV.nil {p:OA}:nV sz R V p 0 []:=⟨rfl,fun i h=>absurd h (Nat.not_lt_zero i)⟩
theorem Row.le {vs:List Value}{al:List α}(h:Row sz R V vs al)(m:∀v a,R V v a->R V' v a):Row sz R V' vs al:=
 ⟨fun i hi=>by obtain ⟨xs,h1,h2,h3⟩:=h.at_ i hi;exact ⟨xs,h1,m _ _ h2,h3⟩⟩
theorem nV.le {p:OA}{n:Nat}{al:List α}(h:nV sz R V p n al)(l:V.Le V')(m:∀v a,R V v a->R V' v a):nV sz R V' p n al:=
 ⟨h.len,fun i hi=>by obtain ⟨ad,h0,xs,h1,h2,h3⟩:=h.at_ i hi;exact ⟨ad,h0,xs,h1,m _ _ h2,fun j x hx=>l.at (h3 j x hx)⟩⟩
theorem Row.fu {vs:List Value}{al:List α}(h:Row sz R V vs al)(hs:0<sz):al.length*sz<=vs.length:=by
 by_cases h0:al.length=0
 ·rw [h0];omega
 ·obtain ⟨xs,h1,-,h3⟩:=h.at_ (al.length-1) (by omega)
  have hx:sz-1<xs.length:=by omega
  have:=(List.getElem?_eq_some_iff.1 (h3 (sz-1) _ (List.getElem?_eq_getElem hx))).1
  have e:al.length*sz=(al.length-1)*sz+sz:=by
   obtain ⟨m,hm⟩:∃m,al.length=m+1:=⟨al.length-1,by omega⟩
   rw [hm,Nat.add_sub_cancel,Nat.succ_mul]
  omega
theorem Row.snoc {vs:List Value}{al:List α}(h:Row sz R V vs al){xs sp:List Value}{a:α}(hx:xs.length=sz)(ha:R V (.agg xs.toArray) a)(hs:0<sz) :
  Row sz R V (vs.take (al.length*sz)++xs++sp) (al++[a]):=by
 have hl:=h.fu hs
 have ht:(vs.take (al.length*sz)).length=al.length*sz:=by rw [List.length_take];omega
 refine ⟨fun i hi=>?_⟩
 rw [List.length_append,List.length_singleton] at hi
 by_cases e:i=al.length
 ·subst e
  refine ⟨xs,hx,by rw [List.getElem_append_right (Nat.le_refl _)];simpa using ha,fun j x hj=>?_⟩
  have hj':=(List.getElem?_eq_some_iff.1 hj).1
  rw [List.append_assoc,List.getElem?_append_right (by rw [ht];omega),ht,Nat.add_sub_cancel_left,List.getElem?_append_left hj']
  exact hj
 ·have hi':i<al.length:=by omega
  obtain ⟨ys,y1,y2,y3⟩:=h.at_ i hi'
  refine ⟨ys,y1,by rw [List.getElem_append_left hi'];exact y2,fun j x hj=>?_⟩
  have hj':=(List.getElem?_eq_some_iff.1 hj).1
  have hlt:i*sz+j<al.length*sz:=by
   have:(i+1)*sz<=al.length*sz:=Nat.mul_le_mul_right _ hi'
   rw [Nat.succ_mul] at this
   omega
  rw [List.append_assoc,List.getElem?_append_left (by rw [ht];exact hlt),List.getElem?_take,if_pos hlt]
  exact y3 j x hj
theorem nV.zK {bk:Nat}{ty:TypeId}{m:Nat×Nat}{vs:List Value}{al:List α}(hb:V.bF bk (.cells vs.toArray ty m))(h:Row sz R V vs al):nV sz R V (some ⟨bk,0,none⟩) al.length al:=by
 refine ⟨rfl,fun i hi=>?_⟩
 obtain ⟨xs,h1,h2,h3⟩:=h.at_ i hi
 refine ⟨⟨bk,i*sz,none⟩,by simp [ah,add_zero'],xs,h1,h2,fun j x hj=>?_⟩
 have e:(⟨bk,i*sz,none⟩:Addr).add j=⟨bk,i*sz+j,none⟩:=by rw [←add_zero',tW,add_zero']
 rw [e]
 exact cW hb (h3 j x hj)
theorem nV.tL {bk c:Nat}{ty:TypeId}{m:Nat×Nat}{vs:List Value}{al:List α}(hb:vs≠[]->V.bF bk (.cells vs.toArray ty m))(h:Row sz R V vs al)(hs:0<sz)(hc:al.length<=c):nV sz R V (mA bk c) al.length al:=by
 cases al with
 | nil=>exact nV.nil
 | cons a r=>
  have hne:vs≠[]:=fun e=>by
   have:=h.fu hs
   rw [e,List.length_cons,Nat.succ_mul] at this
   simp at this;omega
  have:mA bk c=some ⟨bk,0,none⟩:=by unfold mA;rw [if_neg];rw [List.length_cons] at hc;omega
  rw [this]
  exact nV.zK (hb hne) h
end Go.bL
namespace Go.bL
open Go.Proofs.Tryz
variable {α:Type} {sz:Nat} {R:View->Value->α->Prop} {V V':View} {d:α}
theorem Row.get {vs:List Value}{al:List α}(h:Row sz R V vs al){i:Nat}(hi:i<al.length)(hs:0<sz) :
  ∃xs:List Value,xs.length=sz/\R V (.agg xs.toArray) (al.getD i d)/\i*sz+sz<=vs.length/\(vs.drop (i*sz)).take sz=xs:=by
 obtain ⟨xs,h1,h2,h3⟩:=h.at_ i hi
 have hl:=h.fu hs
 have:(i+1)*sz<=al.length*sz:=Nat.mul_le_mul_right _ hi
 rw [Nat.succ_mul] at this
 refine ⟨xs,h1,by simpa [List.getD_eq_getElem?_getD,hi] using h2,by omega,?_⟩
 apply List.ext_getElem?
 intro j
 rw [List.getElem?_take]
 split
 ·rename_i hj
  rw [List.getElem?_drop]
  have hx:j<xs.length:=by omega
  rw [h3 j _ (List.getElem?_eq_getElem hx),List.getElem?_eq_getElem hx]
 ·rename_i hj
  rw [List.getElem?_eq_none (by omega)]
theorem Row.put {vs:List Value}{al:List α}(h:Row sz R V vs al){i:Nat}(hi:i<al.length)(hs:0<sz){xs:List Value}{a:α}(hx:xs.length=sz)(ha:R V (.agg xs.toArray) a) :
  Row sz R V (ae vs (i*sz) xs) (al.set i a):=by
 have hl:=h.fu hs
 have h9:∀k,k<al.length->k*sz+sz<=vs.length:=fun k hk=>by
  have:(k+1)*sz<=al.length*sz:=Nat.mul_le_mul_right _ hk
  rw [Nat.succ_mul] at this
  omega
 have hi9:=h9 i hi
 rw [lK (by omega)]
 have ht:(vs.take (i*sz)).length=i*sz:=by rw [List.length_take];omega
 refine ⟨fun k hk=>?_⟩
 rw [List.length_set] at hk
 by_cases e:k=i
 ·subst e
  refine ⟨xs,hx,by simpa using ha,fun j x hj=>?_⟩
  have hj':=(List.getElem?_eq_some_iff.1 hj).1
  rw [List.append_assoc,List.getElem?_append_right (by omega),ht,Nat.add_sub_cancel_left,List.getElem?_append_left hj']
  exact hj
 ·obtain ⟨ys,y1,y2,y3⟩:=h.at_ k hk
  refine ⟨ys,y1,by rw [List.getElem_set_ne (fun e'=>e e'.symm)];exact y2,fun j x hj=>?_⟩
  have hj':=(List.getElem?_eq_some_iff.1 hj).1
  by_cases lt:k<i
  ·have:(k+1)*sz<=i*sz:=Nat.mul_le_mul_right _ lt
   rw [Nat.succ_mul] at this
   rw [List.append_assoc,List.getElem?_append_left (by omega),List.getElem?_take,if_pos (by omega)]
   exact y3 j x hj
  ·have:(i+1)*sz<=k*sz:=Nat.mul_le_mul_right _ (by omega)
   rw [Nat.succ_mul] at this
   rw [List.getElem?_append_right (by rw [List.length_append];omega),List.length_append,ht,hx,List.getElem?_drop]
   rw [show i*sz+sz+(k*sz+j-(i*sz+sz))=k*sz+j by omega]
   exact y3 j x hj
theorem jP {vs xs:List Value}{o:Nat}(h:o+xs.length<=vs.length):(ae vs o xs).length=vs.length:=by
 rw [lK h];simp only [List.length_append,List.length_take,List.length_drop];omega
theorem Row.swap {vs:List Value}{al:List α}(h:Row sz R V vs al){i j:Nat}(hi:i<al.length)(hj:j<al.length)(hs:0<sz){xs ys:List Value}(hx:xs.length=sz)(hy:ys.length=sz)(h1:R V (.agg xs.toArray) (al.getD i d))(h2:R V (.agg ys.toArray) (al.getD j d)) :
  Row sz R V (ae (ae vs (i*sz) ys) (j*sz) xs) (jn d al i j):=by
 have:=h.put hi hs hy h2
 exact this.put (by simpa using hj) hs hx h1
end Go.bL
namespace Go.Proofs.Tryz
open Go.bL Go.fN
section
variable {α:Type} (e:α->α->Bool)
def oI:α->List α->List α
 | _,[]=>[]
 | p,a::r=>if e a p then oI a r else a::oI a r
def fq:List α->List α
 | []=>[]
 | a::r=>a::oI e a r
variable {e}
theorem xY {d:α}:∀{r:List α} {p a:α},oI e p (r++[a])=oI e p r++if e a ((p::r).getD r.length d) then [] else [a]
 | [],p,a=>by simp [oI]
 | b::r,p,a=>by
  have ih:=xY (d:=d) (r:=r) (p:=b) (a:=a)
  have hd:(p::b::r).getD (b::r).length d=(b::r).getD r.length d:=rfl
  rw [hd,List.cons_append]
  simp only [oI]
  split
  ·exact ih
  ·rw [ih];rfl
theorem nt {d:α}{l:List α}{k:Nat}(hk:k+1<l.length):fq e (l.take (k+2))=fq e (l.take (k+1))++if e (l.getD (k+1) d) (l.getD k d) then [] else [l.getD (k+1) d]:=by
 cases l with
 | nil=>simp at hk
 | cons a r=>
  have hk':k<r.length:=by simpa using hk
  have h1:(a::r).take (k+2)=a::(r.take k++[r[k]]):=by
   rw [List.take_succ_cons,List.take_append_getElem hk']
  have h2:(a::r).take (k+1)=a::r.take k:=List.take_succ_cons
  rw [h1,h2]
  simp only [fq]
  rw [xY (d:=d)]
  have e1:(a::r).getD (k+1) d=r[k]:=by rw [List.getD_cons_succ,List.getD_eq_getElem?_getD,List.getElem?_eq_getElem hk'];rfl
  have e2:(a::r.take k).getD (r.take k).length d=(a::r).getD k d:=by
   have hl:(r.take k).length=k:=by rw [List.length_take];omega
   rw [hl]
   cases k with
   | zero=>rfl
   | succ k=>
    rw [List.getD_cons_succ,List.getD_cons_succ,List.getD_eq_getElem?_getD,List.getD_eq_getElem?_getD,List.getElem?_take,if_pos (by omega)]
  rw [e1,e2,List.cons_append]
theorem uz:∀{r:List α} {p:α},∀x∈oI e p r,x∈r
 | [],p,x,h=>h
 | b::r,p,x,h=>by
  unfold oI at h
  split at h
  ·exact List.mem_cons_of_mem _ (uz x h)
  ·rcases List.mem_cons.1 h with rfl|h
   ·exact List.mem_cons_self ..
   ·exact List.mem_cons_of_mem _ (uz x h)
theorem Gg {l:List α}:∀x∈fq e l,x∈l:=by
 cases l with
 | nil=>exact fun x h=>h
 | cons a r=>
  intro x h
  rcases List.mem_cons.1 h with rfl|h
  ·exact List.mem_cons_self ..
  ·exact List.mem_cons_of_mem _ (uz x h)
theorem Ba:∀{r:List α} {p:α},(oI e p r).length<=r.length
 | [],p=>Nat.le_refl _
 | b::r,p=>by
  have:=Ba (r:=r) (p:=b)
  unfold oI
  split<;>simp<;>omega
theorem uy {l:List α}:(fq e l).length<=l.length:=by
 cases l with
 | nil=>exact Nat.le_refl _
 | cons a r=>have:=Ba (e:=e) (r:=r) (p:=a);simp [fq];omega
theorem IG {d:α}{l:List α}{k:Nat}(hk:k+1<l.length)(he:e (l.getD (k+1) d) (l.getD k d)=true):(fq e l).length<l.length:=by
 have key:∀j,k+2+j<=l.length->(fq e (l.take (k+2+j))).length<k+2+j:=by
  intro j
  induction j with
  | zero=>
   intro _
   rw [Nat.add_zero,nt (d:=d) hk,he,if_pos rfl,List.append_nil]
   have:=uy (e:=e) (l:=l.take (k+1))
   rw [List.length_take] at this
   omega
  | succ j ih=>
   intro hj
   have:=ih (by omega)
   rw [show k+2+(j+1)=k+1+j+2 by omega,nt (d:=d) (by omega),List.length_append,show k+1+j+1=k+2+j by omega]
   split<;>simp<;>omega
 have:=key (l.length-(k+2)) (by omega)
 rwa [show k+2+(l.length-(k+2))=l.length by omega,List.take_length] at this
theorem A9 {l:List α}(h:l.length<=1):fq e l=l:=by
 match l,h with
 | [],_=>rfl
 | [a],_=>rfl
 | _::_::_,h=>simp at h
end
end Go.Proofs.Tryz
namespace Go.bL
open Go.Proofs.Tryz
section
variable {α:Type} {sz:Nat} {R:View->Value->α->Prop} {V:View} {d:α}
theorem Row.IE {vs zs:List Value}{al:List α}(h:Row sz R V vs al){k:Nat}(hk:k<=al.length)(hs:0<sz):Row sz R V (vs.take (k*sz)++zs) (al.take k):=by
 have hl:=h.fu hs
 refine ⟨fun i hi=>?_⟩
 rw [List.length_take] at hi
 obtain ⟨xs,h1,h2,h3⟩:=h.at_ i (by omega)
 refine ⟨xs,h1,by rw [List.getElem_take];exact h2,fun j x hj=>?_⟩
 have hj':=(List.getElem?_eq_some_iff.1 hj).1
 have h4:(i+1)*sz<=k*sz:=Nat.mul_le_mul_right _ (by omega)
 have h5:k*sz<=al.length*sz:=Nat.mul_le_mul_right _ hk
 rw [Nat.succ_mul] at h4
 rw [List.getElem?_append_left (by rw [List.length_take];omega),List.getElem?_take,if_pos (by omega)]
 exact h3 j x hj
end
end Go.bL
namespace Go.Proofs.Tryz
open Go.bL Go.fN
def RA (V:View)(v:Value)(q:Rat):Prop:=∃p n c p' n' c',v=.agg #[.bool (decide (q.num<0)),.slice p n c,.slice p' n' c']/\RD V p n c (ai q.num.natAbs)/\RD V p' n' c' (ai q.den)
theorem RA.le {V V':View}{v:Value}{q:Rat}(h:RA V v q)(l:V.Le V'):RA V' v q:=by
 obtain ⟨p,n,c,p',n',c',e,h1,h2⟩:=h
 exact ⟨p,n,c,p',n',c',e,h1.le l,h2.le l⟩
theorem oD {V:View}(b:Bool){p q:OA}{n c m e:Nat}{xs ys:List Nat}(hx:RD V p n c xs)(hy:RD V q m e ys)(hm:xs.length<=1099511627776)(hn:ys.length<=1099511627776) :
  ab prog 103 #[.agg #[.bool b,.slice p n c,.slice q m e]] V fun r V'=>RR V' r (mkRat (aZ b xs) (val ys)):=by
 refine DI b p n c q m e V _ fun V1 l1=>(cx b (hx.le l1) (hy.le l1) hm hn).mono ?_
 rintro r V2 l2 h
 obtain ⟨u,v,w,rfl⟩:=h.shape
 exact ⟨_,_,_,rfl,fun V3 l3=>h.le l3⟩
theorem xS {V:View}{v:Value}{q:Rat}(h:RA V v q){k:Nat}(hs:Sz k q)(hk:k<=1099511627776):ab prog 103 #[v] V fun r V'=>RR V' r q:=by
 obtain ⟨p,n,c,p',n',c',rfl,h1,h2⟩:=h
 have q1:=af hs.1
 have q2:=af hs.2
 refine (oD _ h1 h2 (by omega) (by omega)).mono ?_
 rintro r V' _ h
 rw [aH,ag,Rat.mkRat_self] at h
 exact h
theorem ni {V:View}{v w:Value}{x y:Rat}(hx:RR V v x)(hy:RR V w y){k m:Nat}(hk:Sz k x)(hm:Sz m y)(hkm:k+m<1099511627776) :
  ab prog 167 #[v,w] V fun r V'=>RR V' r (x*y):=by
 obtain ⟨r0,r1,r2,rfl⟩:=hx.shape
 obtain ⟨s0,s1,s2,rfl⟩:=hy.shape
 have hxy:x*y=mkRat (x.num*y.num) (x.den*y.den):=Rat.mul_def' x y
 have b1:(x.num*y.num).natAbs<2^(k+m):=by rw [Int.natAbs_mul,Nat.pow_add];exact Nat.mul_lt_mul'' hk.1 hm.1
 have b2:x.den*y.den<2^(k+m):=by rw [Nat.pow_add];exact Nat.mul_lt_mul'' hk.2 hm.2
 have q1:=af hk.1
 have q2:=af hk.2
 have q3:=af hm.1
 have q4:=af hm.2
 have q5:=af b1
 have q6:=af b2
 refine w_ r0 r1 r2 s0 s1 s2 V _ ⟨fun hr=>⟨fun _ _=>True,⟨fun hs=>?_,fun _=>⟨(),by (try dsimp only);and_intros<;>trivial,trivial⟩⟩,fun _ V8 l8 _=>⟨rfl,fun V9 XX=>?_⟩⟩,fun _ V9 l9=>?_⟩
 ·rcases hx with ⟨ex,wx⟩|⟨a,b,p,n,c,p',n',c',ex,-,-,-,-,-,wx⟩
  ·rcases hy with ⟨ey,wy⟩|⟨a,b,p,n,c,p',n',c',ey,-,-,-,-,-,wy⟩
   ·simp only [Value.agg.injEq,Array.mk.injEq,List.cons.injEq,Value.int.injEq,Value.pointer.injEq,true_and,and_true] at ex ey
    obtain ⟨rfl,rfl,rfl⟩:=ex
    obtain ⟨rfl,rfl,rfl⟩:=ey
    obtain ⟨Pv,VW⟩:=wx
    obtain ⟨Pw,VX⟩:=wy
    have dx:=x.den_nz
    have dy:=y.den_nz
    have e1:i64.wrap ((x.den:Int)-1+1)=x.den:=by rw [ar (by omega)];omega
    have e2:i64.wrap ((y.den:Int)-1+1)=y.den:=by rw [ar (by omega)];omega
    rw [e1,e2]
    intro V1 l1
    refine (fl _ _ Pv Pw).mono ?_
    rintro r V2 l2 ⟨z1,rfl,hz1⟩
    refine ⟨_,_,rfl,fun V3 l3=>(fl _ _ (by omega) (by omega)).mono ?_⟩
    rintro r V4 l4 ⟨z2,rfl,hz2⟩
    refine ⟨_,_,rfl,fun t1=>⟨fun t2 V5 l5=>?_,fun _=>⟨(),by (try dsimp only);and_intros<;>trivial,trivial⟩⟩,fun _=>⟨(),by (try dsimp only);and_intros<;>trivial,trivial⟩⟩
    have t1:=of_decide_eq_true t1
    have t2:=of_decide_eq_true t2
    rw [hz1 t1,hz2 t2]
    have hd:((x.den:Int)*(y.den:Int))=((x.den*y.den:Nat):Int):=(Int.natCast_mul ..).symm
    rw [hd] at t2 ⊢
    refine (nW _ _ t1 (by rwa [Int.natAbs_natCast] at t2) (Nat.mul_ne_zero dx dy)).mono ?_
    rintro r V6 l6 h6
    rw [←hxy] at h6
    obtain ⟨n,d,p,rfl⟩:=h6.shape
    exact ⟨_,_,_,rfl,fun V7 l7=>h6.le l7⟩
   ·simp only [Value.agg.injEq,Array.mk.injEq,List.cons.injEq,Value.int.injEq,Value.pointer.injEq,true_and,and_true] at ey
    obtain ⟨rfl,rfl,rfl⟩:=ey
    cases hs
  ·simp only [Value.agg.injEq,Array.mk.injEq,List.cons.injEq,Value.int.injEq,Value.pointer.injEq,true_and,and_true] at ex
   obtain ⟨rfl,rfl,rfl⟩:=ex
   cases hr
 ·have l9:=l8.trans XX
  refine (jw (hx.le l9) hk (by omega)).mono ?_
  rintro r ie l10 ⟨p1,n1,c1,rfl,g1⟩
  refine ⟨_,_,_,_,rfl,fun gV bI=>(jw (hy.le (l9.trans (l10.trans bI))) hm (by omega)).mono ?_⟩
  rintro r lO cg ⟨p2,n2,c2,rfl,g2⟩
  refine ⟨_,_,_,_,rfl,fun me cp=>(gv _ _ (g1.le (bI.trans (cg.trans cp))) (g2.le cp) (by omega)).mono ?_⟩
  rintro r pC dz J4
  rw [aH,aH] at J4
  obtain ⟨p3,n3,c3,rfl,g3⟩:=J4
  have JQ:=l9.trans (l10.trans (bI.trans (cg.trans (cp.trans dz))))
  refine ⟨_,_,_,_,rfl,fun nh dm=>(eF (hx.le (JQ.trans dm)) hk (by omega)).mono ?_⟩
  rintro r mr cS ⟨p4,n4,c4,rfl,g4⟩
  refine ⟨_,_,_,rfl,fun nN cP=>(eF (hy.le (JQ.trans (dm.trans (cS.trans cP)))) hm (by omega)).mono ?_⟩
  rintro r pH df ⟨p5,n5,c5,rfl,g5⟩
  refine ⟨_,_,_,rfl,fun rP dA=>(fR (g4.le (cP.trans (df.trans dA))) (g5.le dA) (by omega)).mono ?_⟩
  rintro r yN gZ ⟨p6,n6,c6,rfl,g6⟩
  rw [ag,ag] at g6
  refine ⟨_,_,_,rfl,fun sJ eo=>(cx _ (g3.le (dm.trans (cS.trans (cP.trans (df.trans (dA.trans (gZ.trans eo))))))) (g6.le eo) (by omega) (by omega)).mono ?_⟩
  rintro r wB jE h22
  rw [aH,ag,←hxy] at h22
  obtain ⟨n,d,p,rfl⟩:=h22.shape
  exact ⟨_,_,_,rfl,fun tD fa=>h22.le fa⟩
 ·skip
  refine (jw (hx.le l9) hk (by omega)).mono ?_
  rintro r ie l10 ⟨p1,n1,c1,rfl,g1⟩
  refine ⟨_,_,_,_,rfl,fun gV bI=>(jw (hy.le (l9.trans (l10.trans bI))) hm (by omega)).mono ?_⟩
  rintro r lO cg ⟨p2,n2,c2,rfl,g2⟩
  refine ⟨_,_,_,_,rfl,fun me cp=>(gv _ _ (g1.le (bI.trans (cg.trans cp))) (g2.le cp) (by omega)).mono ?_⟩
  rintro r pC dz J4
  rw [aH,aH] at J4
  obtain ⟨p3,n3,c3,rfl,g3⟩:=J4
  have JQ:=l9.trans (l10.trans (bI.trans (cg.trans (cp.trans dz))))
  refine ⟨_,_,_,_,rfl,fun nh dm=>(eF (hx.le (JQ.trans dm)) hk (by omega)).mono ?_⟩
  rintro r mr cS ⟨p4,n4,c4,rfl,g4⟩
  refine ⟨_,_,_,rfl,fun nN cP=>(eF (hy.le (JQ.trans (dm.trans (cS.trans cP)))) hm (by omega)).mono ?_⟩
  rintro r pH df ⟨p5,n5,c5,rfl,g5⟩
  refine ⟨_,_,_,rfl,fun rP dA=>(fR (g4.le (cP.trans (df.trans dA))) (g5.le dA) (by omega)).mono ?_⟩
  rintro r yN gZ ⟨p6,n6,c6,rfl,g6⟩
  rw [ag,ag] at g6
  refine ⟨_,_,_,rfl,fun sJ eo=>(cx _ (g3.le (dm.trans (cS.trans (cP.trans (df.trans (dA.trans (gZ.trans eo))))))) (g6.le eo) (by omega) (by omega)).mono ?_⟩
  rintro r wB jE h22
  rw [aH,ag,←hxy] at h22
  obtain ⟨n,d,p,rfl⟩:=h22.shape
  exact ⟨_,_,_,rfl,fun tD fa=>h22.le fa⟩
theorem inv_neg {q:Rat}(h:q.num<0):(q⁻¹).num=-(q.den:Int)/\(q⁻¹).den=q.num.natAbs:=by
 show (Rat.inv q).num=_/\(Rat.inv q).den=_
 unfold Rat.inv
 rw [dif_pos h]
 exact ⟨rfl,rfl⟩
theorem inv_pos {q:Rat}(h:0<q.num):(q⁻¹).num=(q.den:Int)/\(q⁻¹).den=q.num.natAbs:=by
 show (Rat.inv q).num=_/\(Rat.inv q).den=_
 unfold Rat.inv
 rw [dif_neg (by omega),dif_pos h]
 exact ⟨rfl,rfl⟩
theorem inv_zero {q:Rat}(h:q.num=0):q⁻¹=0:=by
 have:q=0:=Rat.num_eq_zero.1 h
 subst this
 exact Rat.inv_zero
theorem fX {k:Nat}{q:Rat}(h:Sz k q):Sz k q⁻¹:=by
 rcases Int.lt_trichotomy q.num 0 with h0|h0|h0
 ·obtain ⟨e1,e2⟩:=inv_neg h0
  refine ⟨?_,?_⟩
  ·rw [e1,Int.natAbs_neg];exact h.2
  ·rw [e2];exact h.1
 ·rw [inv_zero h0]
  exact ⟨Nat.two_pow_pos _,Nat.lt_of_le_of_lt (Nat.pos_of_ne_zero q.den_nz) h.2⟩
 ·obtain ⟨e1,e2⟩:=inv_pos h0
  exact ⟨by rw [e1];exact h.2,by rw [e2];exact h.1⟩
theorem IB {V:View}{v:Value}{q:Rat}(h:RR V v q){k:Nat}(hs:Sz k q)(hk:k<=1099511627776):ab prog 190 #[v] V fun r V'=>RR V' r q⁻¹:=by
 rcases h with ⟨rfl,hw⟩|⟨a,b,p,n,c,p',n',c',rfl,h1,h2,h3,h4,h5,hw⟩
 ·obtain ⟨w1,w2⟩:=hw
  have hd:=q.den_nz
  refine ot _ _ _ V _ ⟨(fun h0=>nomatch h0),fun _=>⟨fun g V4 l4=>?_,fun g=>⟨fun g2 V5 l5=>?_,fun g2 V6 l6=>?_⟩⟩⟩
  ·have g:=of_decide_eq_true g
   obtain ⟨e1,e2⟩:=inv_neg g
   refine .inl ⟨?_,?_⟩
   ·rw [e1,e2,ar (x:=(q.den:Int)-1+1) (by omega),ar (x:=0-q.num) (by omega),ar (x:=0-((q.den:Int)-1+1)) (by omega),ar (by omega)]
    congr 4
    ·omega
    ·congr 1;omega
   ·unfold Wd;rw [e1,e2,Int.natAbs_neg];exact ⟨w2,w1⟩
  ·have g2:q.num=0:=by simpa using g2
   rw [inv_zero g2]
   exact .inl ⟨rfl,by decide,by decide⟩
  ·have g:¬q.num<0:=of_decide_eq_false g
   have g2:q.num≠0:=by simpa using g2
   obtain ⟨e1,e2⟩:=inv_pos (q:=q) (by omega)
   refine .inl ⟨?_,?_⟩
   ·rw [e1,e2,ar (x:=(q.den:Int)-1+1) (by omega),ar (by omega)]
    congr 4
    ·omega
    ·congr 1;omega
   ·unfold Wd;rw [e1,e2];exact ⟨w2,w1⟩
 ·obtain ⟨rfl,hn⟩:=h4.inv
  have q1:=af hs.1
  have q2:=af hs.2
  refine ot _ _ _ V _ ⟨fun _=>⟨rfl,rfl,rfl,decide (q.num<0),⟨a.add 0,by simp [ah,Addr.add],h1⟩,rfl,rfl,p',n',c',⟨a.add 2,rfl,h3⟩,rfl,rfl,rfl,p,n,c,⟨a.add 1,by simp [ah,Addr.add],h2⟩,fun V1 l1=>(cx _ (h5.le l1) (hn.le l1) (by omega) (by omega)).mono ?_⟩,fun h0=>nomatch h0⟩
  rintro r V2 l2 h
  have e:mkRat (aZ (decide (q.num<0)) (ai q.den)) (val (ai q.num.natAbs))=q⁻¹:=by
   rw [ag]
   have hv:aZ (decide (q.num<0)) (ai q.den)=if q.num<0 then -(q.den:Int) else (q.den:Int):=by
    unfold aZ
    rw [ag]
    by_cases g:q.num<0<;>simp [g]
   rw [hv]
   rcases Int.lt_trichotomy q.num 0 with h0|h0|h0
   ·obtain ⟨e1,e2⟩:=inv_neg h0
    rw [if_pos h0,←e1,←e2,Rat.mkRat_self]
   ·rw [inv_zero h0,h0];simp
   ·obtain ⟨e1,e2⟩:=inv_pos h0
    rw [if_neg (by omega),←e1,←e2,Rat.mkRat_self]
  rw [e] at h
  obtain ⟨u,v,w,rfl⟩:=h.shape
  exact ⟨_,_,_,rfl,fun V3 l3=>h.le l3⟩
def mb (V:View)(v:Value)(x y:Rat):Prop:=∃(x1 x2:Int)(p:OA)(y1 y2:Int)(q:OA),v=.agg #[.int .i64 x1,.int .i64 x2,.pointer p,.int .i64 y1,.int .i64 y2,.pointer q] /\
 RR V (.agg #[.int .i64 x1,.int .i64 x2,.pointer p]) x/\RR V (.agg #[.int .i64 y1,.int .i64 y2,.pointer q]) y
theorem mb.le {V V':View}{v:Value}{x y:Rat}(h:mb V v x y)(l:V.Le V'):mb V' v x y:=by
 obtain ⟨x1,x2,p,y1,y2,q,e,h1,h2⟩:=h
 exact ⟨x1,x2,p,y1,y2,q,e,h1.le l,h2.le l⟩
theorem za {V:View}{p:Value}{cO cN:Rat}{q:Value}{jL jM:Rat}(hp:mb V p cO cN)(hq:mb V q jL jM){k:Nat}(dB:Sz k cO)(cZ:Sz k cN)(j_:Sz k jL)(kb:Sz k jM)(hk:2*k+1<274877906944) :
  ab prog 148 #[p,q] V fun r V'=>mb V' r ((cO)+(jL)) ((cN)+(jM)):=by
 have hp0:=hp
 obtain ⟨p0,p1,p2,p3,p4,p5,rfl,pT,pU⟩:=hp
 have hq0:=hq
 obtain ⟨q0,q1,q2,q3,q4,q5,rfl,Dc,Dd⟩:=hq
 refine xh p0 p1 p2 p3 p4 p5 q0 q1 q2 q3 q4 q5 V _ fun V1 l1=>(pK (pT.le (l1)) (Dc.le (l1)) dB j_ (by omega)).mono ?_
 rintro r V2 l2 g1
 have g10:=g1
 obtain ⟨Ky,Kz,KA,rfl⟩:=g1.shape
 have bA:Sz (2*k+1) ((cO)+(jL)):=Sz.mono (Sz.add dB j_) (by omega)
 refine ⟨_,_,_,rfl,fun V3 l3=>(pK (pU.le (l1.trans (l2.trans (l3)))) (Dd.le (l1.trans (l2.trans (l3)))) cZ kb (by omega)).mono ?_⟩
 rintro r V4 l4 g2
 have g20:=g2
 obtain ⟨KB,KC,KD,rfl⟩:=g2.shape
 have bP:Sz (2*k+1) ((cN)+(jM)):=Sz.mono (Sz.add cZ kb) (by omega)
 exact ⟨_,_,_,rfl,fun V5 l5=>⟨_,_,_,_,_,_,rfl,(g10.le (l3.trans (l4.trans (l5)))),(g20.le (l5))⟩⟩
theorem jj {cO cN jL jM:Rat}{k:Nat}(dB:Sz k cO)(cZ:Sz k cN)(j_:Sz k jL)(kb:Sz k jM):Sz (2*k+1) ((cO)+(jL)):=by
 have bA:Sz (2*k+1) ((cO)+(jL)):=Sz.mono (Sz.add dB j_) (by omega)
 have bP:Sz (2*k+1) ((cN)+(jM)):=Sz.mono (Sz.add cZ kb) (by omega)
 exact Sz.mono bA (by omega)
theorem jk {cO cN jL jM:Rat}{k:Nat}(dB:Sz k cO)(cZ:Sz k cN)(j_:Sz k jL)(kb:Sz k jM):Sz (2*k+1) ((cN)+(jM)):=by
 have bA:Sz (2*k+1) ((cO)+(jL)):=Sz.mono (Sz.add dB j_) (by omega)
 have bP:Sz (2*k+1) ((cN)+(jM)):=Sz.mono (Sz.add cZ kb) (by omega)
 exact Sz.mono bP (by omega)
theorem uo {V:View}{p:Value}{cO cN:Rat}{c:Value}{CE:Rat}(hp:mb V p cO cN)(hc:RR V c CE){k:Nat}(dB:Sz k cO)(cZ:Sz k cN)(wW:Sz k CE)(hk:2*k+1<274877906944) :
  ab prog 189 #[p,c] V fun r V'=>mb V' r ((cO)*(CE)) ((cN)*(CE)):=by
 have hp0:=hp
 obtain ⟨p0,p1,p2,p3,p4,p5,rfl,pT,pU⟩:=hp
 have hc0:=hc
 obtain ⟨c0,c1,c2,rfl⟩:=hc.shape
 refine tj p0 p1 p2 p3 p4 p5 c0 c1 c2 V _ fun V1 l1=>(ni (pT.le (l1)) (hc0.le (l1)) dB wW (by omega)).mono ?_
 rintro r V2 l2 g1
 have g10:=g1
 obtain ⟨Ky,Kz,KA,rfl⟩:=g1.shape
 have bA:Sz (2*k+1) ((cO)*(CE)):=Sz.mono (Sz.mul dB wW) (by omega)
 refine ⟨_,_,_,rfl,fun V3 l3=>(ni (pU.le (l1.trans (l2.trans (l3)))) (hc0.le (l1.trans (l2.trans (l3)))) cZ wW (by omega)).mono ?_⟩
 rintro r V4 l4 g2
 have g20:=g2
 obtain ⟨KB,KC,KD,rfl⟩:=g2.shape
 have bP:Sz (2*k+1) ((cN)*(CE)):=Sz.mono (Sz.mul cZ wW) (by omega)
 exact ⟨_,_,_,rfl,fun V5 l5=>⟨_,_,_,_,_,_,rfl,(g10.le (l3.trans (l4.trans (l5)))),(g20.le (l5))⟩⟩
theorem dX {cO cN CE:Rat}{k:Nat}(dB:Sz k cO)(cZ:Sz k cN)(wW:Sz k CE):Sz (2*k+1) ((cO)*(CE)):=by
 have bA:Sz (2*k+1) ((cO)*(CE)):=Sz.mono (Sz.mul dB wW) (by omega)
 have bP:Sz (2*k+1) ((cN)*(CE)):=Sz.mono (Sz.mul cZ wW) (by omega)
 exact Sz.mono bA (by omega)
theorem dY {cO cN CE:Rat}{k:Nat}(dB:Sz k cO)(cZ:Sz k cN)(wW:Sz k CE):Sz (2*k+1) ((cN)*(CE)):=by
 have bA:Sz (2*k+1) ((cO)*(CE)):=Sz.mono (Sz.mul dB wW) (by omega)
 have bP:Sz (2*k+1) ((cN)*(CE)):=Sz.mono (Sz.mul cZ wW) (by omega)
 exact Sz.mono bP (by omega)
theorem wG {V:View}{p:Value}{cO cN:Rat}(hp:mb V p cO cN){k:Nat}(dB:Sz k cO)(cZ:Sz k cN)(hk:1*k+1<274877906944) :
  ab prog 149 #[p] V fun r V'=>mb V' r (-(cN)) (cO):=by
 have hp0:=hp
 obtain ⟨p0,p1,p2,p3,p4,p5,rfl,pT,pU⟩:=hp
 refine vP p0 p1 p2 p3 p4 p5 V _ fun V1 l1=>(pL (pU.le (l1)) cZ (by omega)).mono ?_
 rintro r V2 l2 g1
 have g10:=g1
 obtain ⟨Ky,Kz,KA,rfl⟩:=g1.shape
 have bA:Sz (1*k+0) (-(cN)):=Sz.mono (Sz.neg cZ) (by omega)
 exact ⟨_,_,_,rfl,fun V3 l3=>⟨_,_,_,_,_,_,rfl,(g10.le (l3)),(pT.le (l1.trans (l2.trans (l3))))⟩⟩
theorem pM {V:View}{p:Value}{cO cN:Rat}{q:Value}{jL jM:Rat}(hp:mb V p cO cN)(hq:mb V q jL jM){k:Nat}(dB:Sz k cO)(cZ:Sz k cN)(j_:Sz k jL)(kb:Sz k jM)(hk:4*k+3<274877906944) :
  ab prog 127 #[p,q] V fun r V'=>RR V' r (((cO)*(jL))+((cN)*(jM))):=by
 have hp0:=hp
 obtain ⟨p0,p1,p2,p3,p4,p5,rfl,pT,pU⟩:=hp
 have hq0:=hq
 obtain ⟨q0,q1,q2,q3,q4,q5,rfl,Dc,Dd⟩:=hq
 refine xi p0 p1 p2 p3 p4 p5 q0 q1 q2 q3 q4 q5 V _ fun V1 l1=>(ni (pT.le (l1)) (Dc.le (l1)) dB j_ (by omega)).mono ?_
 rintro r V2 l2 g1
 have g10:=g1
 obtain ⟨Ky,Kz,KA,rfl⟩:=g1.shape
 have bA:Sz (2*k+1) ((cO)*(jL)):=Sz.mono (Sz.mul dB j_) (by omega)
 refine ⟨_,_,_,rfl,fun V3 l3=>(ni (pU.le (l1.trans (l2.trans (l3)))) (Dd.le (l1.trans (l2.trans (l3)))) cZ kb (by omega)).mono ?_⟩
 rintro r V4 l4 g2
 have g20:=g2
 obtain ⟨KB,KC,KD,rfl⟩:=g2.shape
 have bP:Sz (2*k+1) ((cN)*(jM)):=Sz.mono (Sz.mul cZ kb) (by omega)
 refine ⟨_,_,_,rfl,fun V5 l5=>(pK (g10.le (l3.trans (l4.trans (l5)))) (g20.le (l5)) bA bP (by omega)).mono ?_⟩
 rintro r V6 l6 g3
 have Bk:=g3
 obtain ⟨MH,MI,MJ,rfl⟩:=g3.shape
 have dG:Sz (4*k+3) (((cO)*(jL))+((cN)*(jM))):=Sz.mono (Sz.add bA bP) (by omega)
 exact ⟨_,_,_,rfl,fun V7 l7=>(Bk.le (l7))⟩
theorem dO {cO cN jL jM:Rat}{k:Nat}(dB:Sz k cO)(cZ:Sz k cN)(j_:Sz k jL)(kb:Sz k jM):Sz (4*k+3) (((cO)*(jL))+((cN)*(jM))):=by
 have bA:Sz (2*k+1) ((cO)*(jL)):=Sz.mono (Sz.mul dB j_) (by omega)
 have bP:Sz (2*k+1) ((cN)*(jM)):=Sz.mono (Sz.mul cZ kb) (by omega)
 have dG:Sz (4*k+3) (((cO)*(jL))+((cN)*(jM))):=Sz.mono (Sz.add bA bP) (by omega)
 exact Sz.mono dG (by omega)
theorem my {V:View}{p:Value}{cO cN:Rat}{q:Value}{jL jM:Rat}(hp:mb V p cO cN)(hq:mb V q jL jM){k:Nat}(dB:Sz k cO)(cZ:Sz k cN)(j_:Sz k jL)(kb:Sz k jM)(hk:4*k+3<274877906944) :
  ab prog 147 #[p,q] V fun r V'=>RR V' r (((cO)*(jM))-((cN)*(jL))):=by
 have hp0:=hp
 obtain ⟨p0,p1,p2,p3,p4,p5,rfl,pT,pU⟩:=hp
 have hq0:=hq
 obtain ⟨q0,q1,q2,q3,q4,q5,rfl,Dc,Dd⟩:=hq
 refine th p0 p1 p2 p3 p4 p5 q0 q1 q2 q3 q4 q5 V _ fun V1 l1=>(ni (pT.le (l1)) (Dd.le (l1)) dB kb (by omega)).mono ?_
 rintro r V2 l2 g1
 have g10:=g1
 obtain ⟨Ky,Kz,KA,rfl⟩:=g1.shape
 have bA:Sz (2*k+1) ((cO)*(jM)):=Sz.mono (Sz.mul dB kb) (by omega)
 refine ⟨_,_,_,rfl,fun V3 l3=>(ni (pU.le (l1.trans (l2.trans (l3)))) (Dc.le (l1.trans (l2.trans (l3)))) cZ j_ (by omega)).mono ?_⟩
 rintro r V4 l4 g2
 have g20:=g2
 obtain ⟨KB,KC,KD,rfl⟩:=g2.shape
 have bP:Sz (2*k+1) ((cN)*(jL)):=Sz.mono (Sz.mul cZ j_) (by omega)
 refine ⟨_,_,_,rfl,fun V5 l5=>(D_ (g10.le (l3.trans (l4.trans (l5)))) (g20.le (l5)) bA bP (by omega)).mono ?_⟩
 rintro r V6 l6 g3
 have Bk:=g3
 obtain ⟨MH,MI,MJ,rfl⟩:=g3.shape
 have dG:Sz (4*k+3) (((cO)*(jM))-((cN)*(jL))):=Sz.mono (Sz.sub bA bP) (by omega)
 exact ⟨_,_,_,rfl,fun V7 l7=>(Bk.le (l7))⟩
theorem kQ {cO cN jL jM:Rat}{k:Nat}(dB:Sz k cO)(cZ:Sz k cN)(j_:Sz k jL)(kb:Sz k jM):Sz (4*k+3) (((cO)*(jM))-((cN)*(jL))):=by
 have bA:Sz (2*k+1) ((cO)*(jM)):=Sz.mono (Sz.mul dB kb) (by omega)
 have bP:Sz (2*k+1) ((cN)*(jL)):=Sz.mono (Sz.mul cZ j_) (by omega)
 have dG:Sz (4*k+3) (((cO)*(jM))-((cN)*(jL))):=Sz.mono (Sz.sub bA bP) (by omega)
 exact Sz.mono dG (by omega)
theorem y_ {V:View}{l:Value}{aK l_1 bX:Rat}(hl:CC V l aK l_1 bX){k:Nat}(bG:Sz k aK)(bJ:Sz k l_1)(bK:Sz k bX)(hk:1*k+1<274877906944) :
  ab prog 154 #[l] V fun r V'=>mb V' r (l_1) (-(aK)):=by
 have hl0:=hl
 obtain ⟨l0,l1,l2,l3,l4,l5,l6,l7,l8,rfl,uM,uN,zF⟩:=hl
 refine xg l0 l1 l2 l3 l4 l5 l6 l7 l8 V _ fun V1 l1=>(pL (uM.le (l1)) bG (by omega)).mono ?_
 rintro r V2 l2 g1
 have g10:=g1
 obtain ⟨Ky,Kz,KA,rfl⟩:=g1.shape
 have bA:Sz (1*k+0) (-(aK)):=Sz.mono (Sz.neg bG) (by omega)
 exact ⟨_,_,_,rfl,fun V3 l3=>⟨_,_,_,_,_,_,rfl,(uN.le (l1.trans (l2.trans (l3)))),(g10.le (l3))⟩⟩
theorem nf {aK l_1 bX:Rat}{k:Nat}(bG:Sz k aK)(bJ:Sz k l_1)(bK:Sz k bX):Sz (1*k+0) (l_1):=by
 have bA:Sz (1*k+0) (-(aK)):=Sz.mono (Sz.neg bG) (by omega)
 exact Sz.mono bJ (by omega)
theorem ng {aK l_1 bX:Rat}{k:Nat}(bG:Sz k aK)(bJ:Sz k l_1)(bK:Sz k bX):Sz (1*k+0) (-(aK)):=by
 have bA:Sz (1*k+0) (-(aK)):=Sz.mono (Sz.neg bG) (by omega)
 exact Sz.mono bA (by omega)
theorem lQ {V:View}{l:Value}{aK l_1 bX:Rat}(hl:CC V l aK l_1 bX){k:Nat}(bG:Sz k aK)(bJ:Sz k l_1)(bK:Sz k bX)(hk:1*k+1<274877906944) :
  ab prog 126 #[l] V fun r V'=>mb V' r (aK) (l_1):=by
 have hl0:=hl
 obtain ⟨l0,l1,l2,l3,l4,l5,l6,l7,l8,rfl,uM,uN,zF⟩:=hl
 exact rJ l0 l1 l2 l3 l4 l5 l6 l7 l8 V _ fun V1 l1=>⟨_,_,_,_,_,_,rfl,(uM.le (l1)),(uN.le (l1))⟩
theorem dD {aK l_1 bX:Rat}{k:Nat}(bG:Sz k aK)(bJ:Sz k l_1)(bK:Sz k bX):Sz (1*k+0) (aK):=by
 exact Sz.mono bG (by omega)
theorem dE {aK l_1 bX:Rat}{k:Nat}(bG:Sz k aK)(bJ:Sz k l_1)(bK:Sz k bX):Sz (1*k+0) (l_1):=by
 exact Sz.mono bJ (by omega)
theorem um {V:View}{l:Value}{aK l_1 bX:Rat}{p:Value}{cO cN:Rat}(hl:CC V l aK l_1 bX)(hp:mb V p cO cN){k:Nat}(bG:Sz k aK)(bJ:Sz k l_1)(bK:Sz k bX)(dB:Sz k cO)(cZ:Sz k cN)(hk:5*k+4<274877906944) :
  ab prog 166 #[l,p] V fun r V'=>RR V' r ((((aK)*(cO))+((l_1)*(cN)))+(bX)):=by
 have hl0:=hl
 obtain ⟨l0,l1,l2,l3,l4,l5,l6,l7,l8,rfl,uM,uN,zF⟩:=hl
 have hp0:=hp
 obtain ⟨p0,p1,p2,p3,p4,p5,rfl,pT,pU⟩:=hp
 refine s_ l0 l1 l2 l3 l4 l5 l6 l7 l8 p0 p1 p2 p3 p4 p5 V _ fun V1 l1=>(lQ (hl0.le (l1)) (Sz.mono bG (by omega):Sz (1*k+0) _) (Sz.mono bJ (by omega):Sz (1*k+0) _) (Sz.mono bK (by omega):Sz (1*k+0) _) (by omega)).mono ?_
 rintro r V2 l2 g1
 have g10:=g1
 obtain ⟨Pn,Po,Pr,Ps,Pt,Pu,rfl,Np,Nq⟩:=g1
 have bA:Sz (1*k+0) (aK):=Sz.mono ((dD (Sz.mono bG (by omega):Sz (1*k+0) _) (Sz.mono bJ (by omega):Sz (1*k+0) _) (Sz.mono bK (by omega):Sz (1*k+0) _))) (by omega)
 have dW:Sz (1*k+0) (l_1):=Sz.mono ((dE (Sz.mono bG (by omega):Sz (1*k+0) _) (Sz.mono bJ (by omega):Sz (1*k+0) _) (Sz.mono bK (by omega):Sz (1*k+0) _))) (by omega)
 refine ⟨_,_,_,_,_,_,rfl,fun V3 l3=>(pM (g10.le (l3)) (hp0.le (l1.trans (l2.trans (l3)))) (Sz.mono bA (by omega):Sz (1*k+0) _) (Sz.mono dW (by omega):Sz (1*k+0) _) (Sz.mono dB (by omega):Sz (1*k+0) _) (Sz.mono cZ (by omega):Sz (1*k+0) _) (by omega)).mono ?_⟩
 rintro r V4 l4 g2
 have g20:=g2
 obtain ⟨KB,KC,KD,rfl⟩:=g2.shape
 have bP:Sz (4*k+3) (((aK)*(cO))+((l_1)*(cN))):=Sz.mono ((dO (Sz.mono bA (by omega):Sz (1*k+0) _) (Sz.mono dW (by omega):Sz (1*k+0) _) (Sz.mono dB (by omega):Sz (1*k+0) _) (Sz.mono cZ (by omega):Sz (1*k+0) _))) (by omega)
 refine ⟨_,_,_,rfl,fun V5 l5=>(pK (g20.le (l5)) (zF.le (l1.trans (l2.trans (l3.trans (l4.trans (l5)))))) bP bK (by omega)).mono ?_⟩
 rintro r V6 l6 g3
 have Bk:=g3
 obtain ⟨MH,MI,MJ,rfl⟩:=g3.shape
 have dG:Sz (5*k+4) ((((aK)*(cO))+((l_1)*(cN)))+(bX)):=Sz.mono (Sz.add bP bK) (by omega)
 exact ⟨_,_,_,rfl,fun V7 l7=>(Bk.le (l7))⟩
theorem rO {aK l_1 bX cO cN:Rat}{k:Nat}(bG:Sz k aK)(bJ:Sz k l_1)(bK:Sz k bX)(dB:Sz k cO)(cZ:Sz k cN):Sz (5*k+4) ((((aK)*(cO))+((l_1)*(cN)))+(bX)):=by
 have bA:Sz (1*k+0) (aK):=Sz.mono ((dD (Sz.mono bG (by omega):Sz (1*k+0) _) (Sz.mono bJ (by omega):Sz (1*k+0) _) (Sz.mono bK (by omega):Sz (1*k+0) _))) (by omega)
 have dW:Sz (1*k+0) (l_1):=Sz.mono ((dE (Sz.mono bG (by omega):Sz (1*k+0) _) (Sz.mono bJ (by omega):Sz (1*k+0) _) (Sz.mono bK (by omega):Sz (1*k+0) _))) (by omega)
 have bP:Sz (4*k+3) (((aK)*(cO))+((l_1)*(cN))):=Sz.mono ((dO (Sz.mono bA (by omega):Sz (1*k+0) _) (Sz.mono dW (by omega):Sz (1*k+0) _) (Sz.mono dB (by omega):Sz (1*k+0) _) (Sz.mono cZ (by omega):Sz (1*k+0) _))) (by omega)
 have dG:Sz (5*k+4) ((((aK)*(cO))+((l_1)*(cN)))+(bX)):=Sz.mono (Sz.add bP bK) (by omega)
 exact Sz.mono dG (by omega)
theorem lW {aK l_1 bX:Rat}{k:Nat}(bG:Sz k aK)(bJ:Sz k l_1)(bK:Sz k bX):Sz (10*k+9) ((aK)*(((-(bX))*(((aK)*(aK))+((l_1)*(l_1)))⁻¹))):=by
 have bA:Sz (1*k+0) (aK):=Sz.mono ((dD (Sz.mono bG (by omega):Sz (1*k+0) _) (Sz.mono bJ (by omega):Sz (1*k+0) _) (Sz.mono bK (by omega):Sz (1*k+0) _))) (by omega)
 have dW:Sz (1*k+0) (l_1):=Sz.mono ((dE (Sz.mono bG (by omega):Sz (1*k+0) _) (Sz.mono bJ (by omega):Sz (1*k+0) _) (Sz.mono bK (by omega):Sz (1*k+0) _))) (by omega)
 have bP:Sz (1*k+0) (-(bX)):=Sz.mono (Sz.neg bK) (by omega)
 have dG:Sz (4*k+3) (((aK)*(aK))+((l_1)*(l_1))):=Sz.mono ((dO (Sz.mono bA (by omega):Sz (1*k+0) _) (Sz.mono dW (by omega):Sz (1*k+0) _) (Sz.mono bA (by omega):Sz (1*k+0) _) (Sz.mono dW (by omega):Sz (1*k+0) _))) (by omega)
 have mj:Sz (5*k+4) ((-(bX))*(((aK)*(aK))+((l_1)*(l_1)))⁻¹):=Sz.mono (Sz.mul bP (fX dG)) (by omega)
 have nU:Sz (10*k+9) ((aK)*(((-(bX))*(((aK)*(aK))+((l_1)*(l_1)))⁻¹))):=Sz.mono ((dX (Sz.mono bA (by omega):Sz (5*k+4) _) (Sz.mono dW (by omega):Sz (5*k+4) _) (Sz.mono mj (by omega):Sz (5*k+4) _))) (by omega)
 have PF:Sz (10*k+9) ((l_1)*(((-(bX))*(((aK)*(aK))+((l_1)*(l_1)))⁻¹))):=Sz.mono ((dY (Sz.mono bA (by omega):Sz (5*k+4) _) (Sz.mono dW (by omega):Sz (5*k+4) _) (Sz.mono mj (by omega):Sz (5*k+4) _))) (by omega)
 exact Sz.mono nU (by omega)
theorem lY {aK l_1 bX:Rat}{k:Nat}(bG:Sz k aK)(bJ:Sz k l_1)(bK:Sz k bX):Sz (10*k+9) ((l_1)*(((-(bX))*(((aK)*(aK))+((l_1)*(l_1)))⁻¹))):=by
 have bA:Sz (1*k+0) (aK):=Sz.mono ((dD (Sz.mono bG (by omega):Sz (1*k+0) _) (Sz.mono bJ (by omega):Sz (1*k+0) _) (Sz.mono bK (by omega):Sz (1*k+0) _))) (by omega)
 have dW:Sz (1*k+0) (l_1):=Sz.mono ((dE (Sz.mono bG (by omega):Sz (1*k+0) _) (Sz.mono bJ (by omega):Sz (1*k+0) _) (Sz.mono bK (by omega):Sz (1*k+0) _))) (by omega)
 have bP:Sz (1*k+0) (-(bX)):=Sz.mono (Sz.neg bK) (by omega)
 have dG:Sz (4*k+3) (((aK)*(aK))+((l_1)*(l_1))):=Sz.mono ((dO (Sz.mono bA (by omega):Sz (1*k+0) _) (Sz.mono dW (by omega):Sz (1*k+0) _) (Sz.mono bA (by omega):Sz (1*k+0) _) (Sz.mono dW (by omega):Sz (1*k+0) _))) (by omega)
 have mj:Sz (5*k+4) ((-(bX))*(((aK)*(aK))+((l_1)*(l_1)))⁻¹):=Sz.mono (Sz.mul bP (fX dG)) (by omega)
 have nU:Sz (10*k+9) ((aK)*(((-(bX))*(((aK)*(aK))+((l_1)*(l_1)))⁻¹))):=Sz.mono ((dX (Sz.mono bA (by omega):Sz (5*k+4) _) (Sz.mono dW (by omega):Sz (5*k+4) _) (Sz.mono mj (by omega):Sz (5*k+4) _))) (by omega)
 have PF:Sz (10*k+9) ((l_1)*(((-(bX))*(((aK)*(aK))+((l_1)*(l_1)))⁻¹))):=Sz.mono ((dY (Sz.mono bA (by omega):Sz (5*k+4) _) (Sz.mono dW (by omega):Sz (5*k+4) _) (Sz.mono mj (by omega):Sz (5*k+4) _))) (by omega)
 exact Sz.mono PF (by omega)
theorem xC {aK l_1 bX yH:Rat}{k:Nat}(bG:Sz k aK)(bJ:Sz k l_1)(bK:Sz k bX)(Ad:Sz k yH):Sz (20*k+19) ((((aK)*(((-(bX))*(((aK)*(aK))+((l_1)*(l_1)))⁻¹))))+(((l_1)*(yH)))):=by
 have bA:Sz (10*k+9) ((aK)*(((-(bX))*(((aK)*(aK))+((l_1)*(l_1)))⁻¹))):=Sz.mono ((lW (Sz.mono bG (by omega):Sz (1*k+0) _) (Sz.mono bJ (by omega):Sz (1*k+0) _) (Sz.mono bK (by omega):Sz (1*k+0) _))) (by omega)
 have dW:Sz (10*k+9) ((l_1)*(((-(bX))*(((aK)*(aK))+((l_1)*(l_1)))⁻¹))):=Sz.mono ((lY (Sz.mono bG (by omega):Sz (1*k+0) _) (Sz.mono bJ (by omega):Sz (1*k+0) _) (Sz.mono bK (by omega):Sz (1*k+0) _))) (by omega)
 have bP:Sz (1*k+0) (l_1):=Sz.mono ((nf (Sz.mono bG (by omega):Sz (1*k+0) _) (Sz.mono bJ (by omega):Sz (1*k+0) _) (Sz.mono bK (by omega):Sz (1*k+0) _))) (by omega)
 have CB:Sz (1*k+0) (-(aK)):=Sz.mono ((ng (Sz.mono bG (by omega):Sz (1*k+0) _) (Sz.mono bJ (by omega):Sz (1*k+0) _) (Sz.mono bK (by omega):Sz (1*k+0) _))) (by omega)
 have dG:Sz (2*k+1) ((l_1)*(yH)):=Sz.mono ((dX (Sz.mono bP (by omega):Sz (1*k+0) _) (Sz.mono CB (by omega):Sz (1*k+0) _) (Sz.mono Ad (by omega):Sz (1*k+0) _))) (by omega)
 have FG:Sz (2*k+1) (((-(aK)))*(yH)):=Sz.mono ((dY (Sz.mono bP (by omega):Sz (1*k+0) _) (Sz.mono CB (by omega):Sz (1*k+0) _) (Sz.mono Ad (by omega):Sz (1*k+0) _))) (by omega)
 have mj:Sz (20*k+19) ((((aK)*(((-(bX))*(((aK)*(aK))+((l_1)*(l_1)))⁻¹))))+(((l_1)*(yH)))):=Sz.mono ((jj (Sz.mono bA (by omega):Sz (10*k+9) _) (Sz.mono dW (by omega):Sz (10*k+9) _) (Sz.mono dG (by omega):Sz (10*k+9) _) (Sz.mono FG (by omega):Sz (10*k+9) _))) (by omega)
 have PE:Sz (20*k+19) ((((l_1)*(((-(bX))*(((aK)*(aK))+((l_1)*(l_1)))⁻¹))))+((((-(aK)))*(yH)))):=Sz.mono ((jk (Sz.mono bA (by omega):Sz (10*k+9) _) (Sz.mono dW (by omega):Sz (10*k+9) _) (Sz.mono dG (by omega):Sz (10*k+9) _) (Sz.mono FG (by omega):Sz (10*k+9) _))) (by omega)
 exact Sz.mono mj (by omega)
theorem xD {aK l_1 bX yH:Rat}{k:Nat}(bG:Sz k aK)(bJ:Sz k l_1)(bK:Sz k bX)(Ad:Sz k yH):Sz (20*k+19) ((((l_1)*(((-(bX))*(((aK)*(aK))+((l_1)*(l_1)))⁻¹))))+((((-(aK)))*(yH)))):=by
 have bA:Sz (10*k+9) ((aK)*(((-(bX))*(((aK)*(aK))+((l_1)*(l_1)))⁻¹))):=Sz.mono ((lW (Sz.mono bG (by omega):Sz (1*k+0) _) (Sz.mono bJ (by omega):Sz (1*k+0) _) (Sz.mono bK (by omega):Sz (1*k+0) _))) (by omega)
 have dW:Sz (10*k+9) ((l_1)*(((-(bX))*(((aK)*(aK))+((l_1)*(l_1)))⁻¹))):=Sz.mono ((lY (Sz.mono bG (by omega):Sz (1*k+0) _) (Sz.mono bJ (by omega):Sz (1*k+0) _) (Sz.mono bK (by omega):Sz (1*k+0) _))) (by omega)
 have bP:Sz (1*k+0) (l_1):=Sz.mono ((nf (Sz.mono bG (by omega):Sz (1*k+0) _) (Sz.mono bJ (by omega):Sz (1*k+0) _) (Sz.mono bK (by omega):Sz (1*k+0) _))) (by omega)
 have CB:Sz (1*k+0) (-(aK)):=Sz.mono ((ng (Sz.mono bG (by omega):Sz (1*k+0) _) (Sz.mono bJ (by omega):Sz (1*k+0) _) (Sz.mono bK (by omega):Sz (1*k+0) _))) (by omega)
 have dG:Sz (2*k+1) ((l_1)*(yH)):=Sz.mono ((dX (Sz.mono bP (by omega):Sz (1*k+0) _) (Sz.mono CB (by omega):Sz (1*k+0) _) (Sz.mono Ad (by omega):Sz (1*k+0) _))) (by omega)
 have FG:Sz (2*k+1) (((-(aK)))*(yH)):=Sz.mono ((dY (Sz.mono bP (by omega):Sz (1*k+0) _) (Sz.mono CB (by omega):Sz (1*k+0) _) (Sz.mono Ad (by omega):Sz (1*k+0) _))) (by omega)
 have mj:Sz (20*k+19) ((((aK)*(((-(bX))*(((aK)*(aK))+((l_1)*(l_1)))⁻¹))))+(((l_1)*(yH)))):=Sz.mono ((jj (Sz.mono bA (by omega):Sz (10*k+9) _) (Sz.mono dW (by omega):Sz (10*k+9) _) (Sz.mono dG (by omega):Sz (10*k+9) _) (Sz.mono FG (by omega):Sz (10*k+9) _))) (by omega)
 have PE:Sz (20*k+19) ((((l_1)*(((-(bX))*(((aK)*(aK))+((l_1)*(l_1)))⁻¹))))+((((-(aK)))*(yH)))):=Sz.mono ((jk (Sz.mono bA (by omega):Sz (10*k+9) _) (Sz.mono dW (by omega):Sz (10*k+9) _) (Sz.mono dG (by omega):Sz (10*k+9) _) (Sz.mono FG (by omega):Sz (10*k+9) _))) (by omega)
 exact Sz.mono PE (by omega)
theorem iU {V:View}{v w:Value}{x y:Rat}(hx:RQ V v x)(hy:RQ V w y)(hy0:y.num≠0){k m:Nat}(hk:Sz k x)(hm:Sz m y)(hkm:k+m<274877906944) :
  ab prog 67 #[v,w] V fun r V'=>RQ V' r (x*y⁻¹):=by
 obtain ⟨p,n,c,p',n',c',rfl,hx1,hx2⟩:=hx
 obtain ⟨q,i,e,q',i',e',rfl,hy1,hy2⟩:=hy
 have R9:=fX hm
 have q1:=af hk.1
 have q2:=af hk.2
 have q3:=af hm.1
 have q4:=af R9.1
 have iv:(y⁻¹).num=(if decide (y.num<0)=true then -((y.den:Nat):Int) else ((y.den:Nat):Int))/\(y⁻¹).den=y.num.natAbs:=by
  rcases Int.lt_or_gt_of_ne hy0 with h|h
  ·rw [if_pos (decide_eq_true h)];exact inv_neg h
  ·rw [if_neg (fun hh=>by have:=of_decide_eq_true hh;omega)];exact inv_pos h
 have hxy:x*y⁻¹=mkRat (x.num*(y⁻¹).num) (x.den*(y⁻¹).den):=Rat.mul_def' x y⁻¹
 have b1:(x.num*(y⁻¹).num).natAbs<2^(k+m):=by rw [Int.natAbs_mul];exact bB hk.1 R9.1
 have b2:x.den*(y⁻¹).den<2^(k+m):=bB hk.2 R9.2
 refine Cq _ p n c p' n' c' _ q i e q' i' e' V _ fun V1 l1=>(bZ y _ (hy2.le l1)).mono ?_
 rintro r V2 l2 ⟨p1,n1,c1,rfl,g1⟩
 refine ⟨_,_,_,rfl,fun V3 l3=>(cB _ (g1.le l3)).mono ?_⟩
 rw [←iv.1]
 rintro r V4 l4 ⟨p4,n4,c4,rfl,g4⟩
 refine ⟨_,_,_,_,rfl,fun V5 l5=>(iG x.num (y⁻¹).num (hx1.le (l1.trans (l2.trans (l3.trans (l4.trans l5))))) (g4.le l5) (by omega)).mono ?_⟩
 rintro r V6 l6 ⟨p6,n6,c6,rfl,g6⟩
 have Ls:=l1.trans (l2.trans (l3.trans (l4.trans (l5.trans l6))))
 refine ⟨_,_,_,_,rfl,fun V7 l7=>(bZ x _ (hx2.le (Ls.trans l7))).mono ?_⟩
 rintro r V8 l8 ⟨p8,n8,c8,rfl,g8⟩
 refine ⟨_,_,_,rfl,fun V9 l9=>(cz (g8.le l9) (hy1.le (Ls.trans (l7.trans (l8.trans l9)))) (by omega)).mono ?_⟩
 rintro r ie l10 ⟨Ie,n10,c10,rfl,g10⟩
 rw [ag,ag,←iv.2] at g10
 refine ⟨_,_,_,rfl,fun gV bI=>(k_ _ (g6.le (l7.trans (l8.trans (l9.trans (l10.trans bI))))) (g10.le bI) (Nat.le_trans (af b1) (by omega)) (Nat.le_trans (af b2) (by omega)) (Nat.mul_ne_zero x.den_nz (y⁻¹).den_nz)).mono ?_⟩
 rw [hxy]
 rintro r wB jE ⟨VC,n21,c21,VD,n22,Uz,rfl,g21,g22⟩
 exact ⟨_,_,_,_,_,_,_,rfl,fun tD fa=>⟨_,_,_,_,_,_,rfl,g21.le fa,g22.le fa⟩⟩
theorem EZ {V:View}(z:Int){p:OA}{n c:Nat}(h:RD V p n c (ai z.natAbs)) :
  ab prog 97 #[.agg #[.bool (decide (z<0)),.slice p n c]] V fun r V'=>RQ V' r (z:Rat):=
 D0 _ p n c V _ fun V1 l1=>lT (z:=z) (d:=1) rfl rfl (h.le l1) RD.nil rfl
end Go.Proofs.Tryz
