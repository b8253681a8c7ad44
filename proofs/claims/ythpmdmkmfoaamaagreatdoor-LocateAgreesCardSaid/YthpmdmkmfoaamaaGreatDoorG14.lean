import Derived.Test.YthpmdmkmfoaamaaGreatDoorG13
import Derived.Test.YthpmdmkmfoaamaaGreatDoorG10
import Derived.Test.YthpmdmkmfoaamaaGreatDoorG5
import Derived.Test.YthpmdmkmfoaamaaGreatDoorG7
set_option linter.unusedVariables false
open Go.IntKind (i64 u64 u32)
namespace Go.Proofs.Tryz
open Go.bK Go.fV
theorem NS.rd {V:View}{p:OA}{n c:Nat}{l:List Nd}(h:NS V p n c l){k:Nat}{d:Nd}(hd:l[k]?=some d) :
  ∃(b1:Bool)(p1:OA)(n1 c1:Nat)(b2:Bool)(p2:OA)(n2 c2:Nat)(b3:Bool)(p3:OA)(n3 c3:Nat)(a:Addr),ah p (k*8)=some a /\
   V.at (a.add 0) (.bool b1)/\V.at (a.add 1) (.slice p1 n1 c1)/\V.at (a.add 2) (.bool b2)/\V.at (a.add 3) (.slice p2 n2 c2)/\V.at (a.add 4) (.bool b3)/\V.at (a.add 5) (.slice p3 n3 c3)/\V.at (a.add 6) (.int .i64 d.left)/\V.at (a.add 7) (.int .i64 d.right) /\
   HO V (.agg #[.bool b1,.slice p1 n1 c1,.bool b2,.slice p2 n2 c2,.bool b3,.slice p3 n3 c3]) d.ln:=by
 obtain ⟨vs,hs,hr⟩:=h.row
 obtain ⟨b1,p1,n1,c1,b2,p2,n2,c2,b3,p3,n3,c3,h1,h2⟩:=hr k d hd
 obtain ⟨ad,rfl,-⟩:=hs _ _ (h1 0 _ rfl)
 have key:∀j v,([.bool b1,.slice p1 n1 c1,.bool b2,.slice p2 n2 c2,.bool b3,.slice p3 n3 c3,.int .i64 d.left,.int .i64 d.right]:List Value)[j]?=some v->V.at ((ad.add (k*8)).add j) v:=by
  intro j v hv
  obtain ⟨T3,e,ha⟩:=hs _ _ (h1 j v hv)
  cases e
  rw [Cw]
  exact ha
 exact ⟨b1,p1,n1,c1,b2,p2,n2,c2,b3,p3,n3,c3,_,rfl,key 0 _ rfl,key 1 _ rfl,key 2 _ rfl,key 3 _ rfl,key 4 _ rfl,key 5 _ rfl,key 6 _ rfl,key 7 _ rfl,h2⟩
theorem CA {l:List Nd}(hb:∀x∈l,Bd x.ln)(hlen:l.length<=65536):∀(f:Nat) (n:Int) (s:RS) {V:View} {rb sb:Nat} {Md:OA} {nc:Nat},NS V Md l.length nc l ->
  V.w.heap[rb]?=some (.cells #[.slice Md l.length nc,.slice (some ⟨sb,0,none⟩) l.length l.length,.int .i64 (s.kY:Int),.bool s.bad] 162 (0,0))->V.X rb ->
  V.w.heap[sb]?=some (.cells (mc s.seen).toArray 4 (0,0))->V.X sb->rb≠sb->s.seen.length=l.length->s.seen.count false<f->s.kY+s.seen.count false<=l.length ->
  ab prog 98 #[.pointer (some ⟨rb,0,none⟩),.int .i64 n] V fun r V'=>∃p,r=.pointer p/\RT V' p (eB l f n s).1 /\
   V'.w.heap[rb]?=some (.cells #[.slice Md l.length nc,.slice (some ⟨sb,0,none⟩) l.length l.length,.int .i64 ((eB l f n s).2.kY:Int),.bool (eB l f n s).2.bad] 162 (0,0)) /\
   V'.w.heap[sb]?=some (.cells (mc (eB l f n s).2.seen).toArray 4 (0,0)):=by
 intro f
 induction f with
 | zero=>intro n s V rb sb Md nc _ _ _ _ _ _ _ h;omega
 | succ f ih=>
  intro n s V rb sb Md nc hns hw1 hx1 hw2 hx2 hne hsl hcf hct
  refine oS rb sb Md l.length nc l.length l.length s.kY s.bad (mc s.seen) n V _ hw1 hx1 hw2 hx2 hne ⟨fun h0 V1 l1=>(fL _).mono ?_,fun h0=>⟨fun h1 V4 l4=>(fL _).mono ?_,fun h1=>⟨fun h2 V7 l7=>(fL _).mono ?_,fun h2=>⟨fun h3 g_ l10=>(fL _).mono ?_,fun h3=>?_⟩⟩⟩⟩
  ·rintro r V2 l2 ⟨p,rfl,hp⟩
   have e0:n=-2:=by simpa using h0
   have e:eB l (f+1) n s=(.leaf true,s):=by simp [eB,e0]
   rw [h0] at hp
   exact ⟨p,rfl,fun V3 l3 g1 g2=>⟨p,rfl,by rw [e];exact hp.le l3,by rw [e];exact g1,by rw [e];exact g2⟩⟩
  ·rintro r V2 l2 ⟨p,rfl,hp⟩
   have e0:n=-1:=by simpa using h1
   have e:eB l (f+1) n s=(.leaf false,s):=by simp [eB,e0]
   rw [h0] at hp
   exact ⟨p,rfl,fun V3 l3 g1 g2=>⟨p,rfl,by rw [e];exact hp.le l3,by rw [e];exact g1,by rw [e];exact g2⟩⟩
  ·rintro r V2 l2 ⟨p,rfl,hp⟩
   have n0:¬n=-2:=by simpa using h0
   have n1:¬n=-1:=by simpa using h1
   have n2:n<0:=by simpa using h2
   have e:eB l (f+1) n s=(.leaf false,{ s with bad:=true }):=by simp [eB,n0,n1,n2]
   exact ⟨p,rfl,fun V3 l3 g1 g2=>⟨p,rfl,by rw [e];exact hp.le l3,by rw [e];exact g1,by rw [e];exact g2⟩⟩
  ·rintro r V2 l2 ⟨p,rfl,hp⟩
   have n0:¬n=-2:=by simpa using h0
   have n1:¬n=-1:=by simpa using h1
   have n2:¬n<0:=by simpa using h2
   have n3:(l.length:Int)<=n:=by simpa using h3
   have e:eB l (f+1) n s=(.leaf false,{ s with bad:=true }):=by
    simp only [eB,n0,n1,n2,if_false]
    rw [List.getElem?_eq_none (by omega)]
   exact ⟨p,rfl,fun V3 l3 g1 g2=>⟨p,rfl,by rw [e];exact hp.le l3,by rw [e];exact g1,by rw [e];exact g2⟩⟩
  ·have n0:¬n=-2:=by simpa using h0
   have n1:¬n=-1:=by simpa using h1
   have n2:¬n<0:=by simpa using h2
   have n3:n<(l.length:Int):=by simpa using h3
   clear h0 h1 h2 h3
   obtain ⟨k,rfl⟩:=Int.eq_ofNat_of_zero_le (Int.not_lt.1 n2)
   have hk:k<l.length:=by omega
   have hks:k<s.seen.length:=by omega
   simp only [Int.toNat_natCast,Nat.mul_one,Nat.zero_add]
   have hsk:s.seen[k]?=some s.seen[k]:=List.getElem?_eq_getElem hks
   have hlk:l[k]?=some l[k]:=List.getElem?_eq_getElem hk
   refine ⟨⟨by omega,n3⟩,s.seen[k],Ev hsk,fun h4 lU cd=>(fL _).mono ?_,fun h4=>⟨⟨by omega,n3⟩,by simp [mc];omega,hns.R4 (by omega),⟨by omega,n3⟩,?_⟩⟩
   ·rintro r V2 l2 ⟨p,rfl,hp⟩
    have e:eB l (f+1) (k:Int) s=(.leaf false,{ s with bad:=true }):=by
     simp only [eB,n0,n1,n2,if_false,Int.toNat_natCast]
     rw [hsk,h4,hlk]
    exact ⟨p,rfl,fun V3 l3 g1 g2=>⟨p,rfl,by rw [e];exact hp.le l3,by rw [e];exact g1,by rw [e];exact g2⟩⟩
   ·obtain ⟨b1,p1,m1,c1,b2,p2,m2,c2,b3,p3,m3,c3,a,ha,a0,a1,a2,a3,a4,a5,a6,a7,hL⟩:=hns.rd hlk
    refine ⟨b1,p1,m1,c1,b2,p2,m2,c2,b3,p3,m3,c3,_,_,a,ha,a0,a1,a2,a3,a4,a5,a6,a7,fun mW dm=>(yS (hL.le dm) (hb _ (List.getElem_mem hk))).mono ?_⟩
    rintro r nN cP ⟨w,rfl,⟨x1,x2,x3,y1,y2,y3,z1,z2,z3,rfl⟩,hw⟩
    rw [h4] at hsk
    have hset:(mc s.seen).set k (.bool true)=mc (s.seen.set k true):=by simp [mc,List.map_set]
    have hcount:=count_set hsk
    have w1:i64.wrap ((s.kY:Int)+1)=((s.kY+1:Nat):Int):=by rw [ar (by omega)];omega
    rw [hset,w1]
    refine ⟨_,_,_,_,_,_,_,_,_,_,rfl,fun h5 qI dZ=>(fL _).mono ?_,fun h5 tu eh bk1 bk2 g1 g2 g3 g4 g5=>?_⟩
    ·rintro r V2 l2 ⟨p,rfl,hp⟩
     have h5:j9 l[k].ln=false:=by simpa using h5
     have e:eB l (f+1) (k:Int) s=(.leaf false,⟨s.seen.set k true,s.kY+1,true⟩):=by
      simp only [eB,n0,n1,n2,if_false,Int.toNat_natCast]
      rw [hsk,hlk]
      simp [h5]
     exact ⟨p,rfl,fun V3 l3 g1 g2=>⟨p,rfl,by rw [e];exact hp.le l3,by rw [e];exact g1,by rw [e];exact g2⟩⟩
    ·have h5:j9 l[k].ln=true:=by simpa using h5
     have lv:V.Le tu:=dm.trans (cP.trans eh)
     have lX:∀(U:View)(u v:Nat),U.H u->U.H v->(U.au [u,v]).X u/\(U.au [u,v]).X v:=fun U u v hu hv=>⟨⟨by simp,hu⟩,⟨by simp,hv⟩⟩
     have i1:=ih l[k].left ⟨s.seen.set k true,s.kY+1,s.bad⟩ (V:=tu.au [bk1,bk2]) (hns.le lv) g1 (lX _ _ _ g2 g4).1 g3 (lX _ _ _ g2 g4).2 g5 (by simp [hsl]) (by dsimp only;omega) (by dsimp only;omega)
     have hm:=pY l f l[k].left ⟨s.seen.set k true,s.kY+1,s.bad⟩
     have hcc:=zz l f l[k].left ⟨s.seen.set k true,s.kY+1,s.bad⟩
     have e:eB l (f+1) (k:Int) s=(.node l[k].ln (eB l f l[k].left ⟨s.seen.set k true,s.kY+1,s.bad⟩).1 (eB l f l[k].right (eB l f l[k].left ⟨s.seen.set k true,s.kY+1,s.bad⟩).2).1,(eB l f l[k].right (eB l f l[k].left ⟨s.seen.set k true,s.kY+1,s.bad⟩).2).2):=by
      simp only [eB,n0,n1,n2,if_false,Int.toNat_natCast]
      rw [hsk,hlk]
      simp [h5]
     rw [e]
     clear e
     dsimp only
     generalize eB l f l[k].left ⟨s.seen.set k true,s.kY+1,s.bad⟩=q1 at *
     obtain ⟨t1,s1⟩:=q1
     dsimp only at i1 hm hcc ⊢
     refine i1.mono ?_
     rintro r wi kq ⟨p,rfl,hp,e1,e2⟩
     refine ⟨p,rfl,_,_,_,_,_,e1,_,e2,fun tM fB HW Ko f1 f2 f3 f4 f5=>?_⟩
     have U3:tu.Le tM:=fun b o h=>fB b o (kq b o h)
     have i2:=ih l[k].right s1 (V:=tM.au [HW,Ko]) (hns.le (lv.trans U3)) f1 (lX _ _ _ f2 f4).1 f3 (lX _ _ _ f2 f4).2 f5 (by rw [hm.2];simp [hsl]) (by omega) (by omega)
     generalize eB l f l[k].right s1=q2 at *
     obtain ⟨t2,s2⟩:=q2
     dsimp only at i2 ⊢
     refine i2.mono ?_
     rintro r Cu pg ⟨q,rfl,hq,e3,e4⟩
     refine ⟨q,rfl,_,_,_,_,_,e3,_,e4,fun DN gF=>?_⟩
     have NJ:tM.Le Cu:=fun b o h=>pg b o h
     have K3:Cu.Le DN:=fun b o h=>gF b o h
     have lw:nN.Le DN:=eh.trans (U3.trans (NJ.trans K3))
     have R7:wi.Le tM:=fun b o h=>fB b o h
     refine (Ez ((hw h5).le lw) (hp.le (R7.trans (NJ.trans K3))) (hq.le K3)).mono ?_
     rintro r Fv nV ⟨u,rfl,hu⟩
     exact ⟨u,rfl,fun Js lY g1 g2=>⟨u,rfl,hu.le lY,g1,g2⟩⟩
theorem FP {V:View}{l:List Nd}(hb:∀x∈l,Bd x.ln){p:OA}{n c:Nat}(root:Int)(h:NS V p n c l) :
  ab prog 45 #[.agg #[.int .i64 root,.slice p n c]] V fun r V'=>(nI l root=none->∃q,r=.tuple #[.pointer q,.bool false])/\(∀t,nI l root=some t->∃q,r=.tuple #[.pointer q,.bool true]/\RT V' q t):=by
 have hl:=h.len
 subst hl
 refine Fh root p l.length c V _ ⟨fun h0 V1 l1=>?_,fun h0=>⟨by omega,Int.le_refl _,?_,fun V2 l2 bk1 bk2 g1 g2 g3 g4 g5=>?_⟩⟩
 ·have h0:65536<l.length:=by simp at h0;omega
  have e:nI l root=none:=by unfold nI;rw [if_pos h0]
  exact ⟨fun _=>⟨_,rfl⟩,fun t ht=>by rw [e] at ht;cases ht⟩
 ·have h0:¬65536<l.length:=by simp at h0;omega
  omega
 ·have h0:¬65536<l.length:=by simp at h0;omega
  simp only [Int.toNat_natCast] at g1 g3 ⊢
  have hr:List.replicate l.length (Value.bool false)=mc (List.replicate l.length false):=by simp [mc]
  rw [hr] at g3
  have hc0:(List.replicate l.length false).count false=l.length:=by simp
  refine (CA hb (by omega) (l.length+1) root ⟨List.replicate l.length false,0,false⟩ (V:=V2.au [bk1,bk2]) (h.le l2) g1 ⟨by simp,g2⟩ g3 ⟨by simp,g4⟩ g5 (by simp) (by dsimp only;omega) (by dsimp only;omega)).mono ?_
  rintro r V3 l3 ⟨q,rfl,hq,e1,e2⟩
  have hof:nI l root=if (eB l (l.length+1) root ⟨List.replicate l.length false,0,false⟩).2.bad=true\/(eB l (l.length+1) root ⟨List.replicate l.length false,0,false⟩).2.kY≠l.length then none else some (eB l (l.length+1) root ⟨List.replicate l.length false,0,false⟩).1:=by
   unfold nI;rw [if_neg h0]
  rw [hof]
  clear hof
  generalize eB l (l.length+1) root ⟨List.replicate l.length false,0,false⟩=r0 at *
  obtain ⟨t,s⟩:=r0
  refine ⟨q,rfl,_,_,_,_,_,e1,_,e2,fun h1 V4 l4=>?_,fun h1=>⟨fun h2 V5 l5=>?_,fun h2 V6 l6=>?_⟩⟩
  ·rw [if_pos (.inl h1)]
   exact ⟨fun _=>⟨_,rfl⟩,fun t ht=>by cases ht⟩
  ·have h2:s.kY≠l.length:=by simp at h2;omega
   rw [if_pos (.inr h2)]
   exact ⟨fun _=>⟨_,rfl⟩,fun t ht=>by cases ht⟩
  ·have h2:s.kY=l.length:=by simp at h2;omega
   dsimp only at h1 ⊢
   rw [if_neg (by rw [h1,h2];simp)]
   exact ⟨fun e=>(by cases e),fun t1 ht=>by cases ht;exact ⟨q,rfl,RT.le (V:=V3) (V':=V6) (fun b o h=>l6 b o h) hq⟩⟩
theorem ab.N5 {f:FuncId}{args:Array Value}{V:View}{R R':Value->View->Prop}(h:ab prog f args V R)(hR:∀r V',V.Le V'->(∀b,V'.H b->V.H b)->R r V'->R' r V'):ab prog f args V R':=
 ⟨h.1,h.2.mono fun _ w' ⟨r,he,hx,hr⟩=>⟨r,he,hx,hR r _ (V.Gr w' hx) (fun _ hb=>hb) hr⟩⟩
theorem vB {vs:List Value}{n b:Nat}(h:vs≠[]):vb vs n b=b:=by cases vs with|nil=>exact absurd rfl h|cons v r=>rfl
theorem NR.push {V:View}{vs sp:List Value}{l:List Nd}(h:NR V vs l)(hl:l.length*8<=vs.length){ln:L3}{x y:Int}{b1:Bool}{p1:OA}{n1 c1:Nat}{b2:Bool}{p2:OA}{n2 c2:Nat}{b3:Bool}{p3:OA}{n3 c3:Nat}
  (hL:RL V (.agg #[.bool b1,.slice p1 n1 c1,.bool b2,.slice p2 n2 c2,.bool b3,.slice p3 n3 c3]) ln.1 ln.2.1 ln.2.2) :
  NR V (vs.take (l.length*8)++[.bool b1,.slice p1 n1 c1,.bool b2,.slice p2 n2 c2,.bool b3,.slice p3 n3 c3,.int .i64 x,.int .i64 y]++sp) (l++[⟨ln,x,y⟩]):=by
 intro i d hd
 rcases Nat.lt_or_ge i l.length with hi|hi
 ·rw [List.getElem?_append_left hi] at hd
  obtain ⟨b1',Sn,n1',c1',b2',So,Sf,c2',b3',Sq,Sg,c3',h1,h2⟩:=h i d hd
  refine ⟨b1',Sn,n1',c1',b2',So,Sf,c2',b3',Sq,Sg,c3',fun j v hv=>?_,h2⟩
  have hj:j<8:=by
   rcases Nat.lt_or_ge j 8 with hj|hj
   ·exact hj
   ·rw [List.getElem?_eq_none (by simpa using hj)] at hv;cases hv
  have:=h1 j v hv
  rw [List.append_assoc,List.getElem?_append_left (by rw [List.length_take];omega),List.getElem?_take,if_pos (by omega)]
  exact this
 ·rw [List.getElem?_append_right hi] at hd
  have hi':i=l.length:=by
   rcases Nat.lt_or_ge (i-l.length) 1 with h'|h'
   ·omega
   ·rw [List.getElem?_eq_none (by simpa using h')] at hd;cases hd
  subst hi'
  simp only [Nat.sub_self,List.getElem?_cons_zero,Option.some.injEq] at hd
  subst hd
  refine ⟨b1,p1,n1,c1,b2,p2,n2,c2,b3,p3,n3,c3,fun j v hv=>?_,.inl hL⟩
  have hj:j<8:=by
   rcases Nat.lt_or_ge j 8 with hj|hj
   ·exact hj
   ·rw [List.getElem?_eq_none (by simpa using hj)] at hv;cases hv
  rw [List.append_assoc,List.getElem?_append_right (by rw [List.length_take];omega),List.length_take,Nat.min_eq_left hl,Nat.add_sub_cancel_left,List.getElem?_append_left (by simpa using hj)]
  exact hv
theorem NR.SZ {V:View}{vs:List Value}{l:List Nd}(h:NR V vs l){k:Nat}{d:Nd}(hd:l[k]?=some d){x:Int}:NR V (vs.set (k*8+6) (.int .i64 x)) (l.set k ⟨d.ln,x,d.right⟩):=by
 intro i d' hd'
 rw [List.getElem?_set] at hd'
 split at hd'
 ·rename_i e
  subst e
  split at hd'
  ·cases hd'
   obtain ⟨b1,p1,n1,c1,b2,p2,n2,c2,b3,p3,n3,c3,h1,h2⟩:=h k d hd
   refine ⟨b1,p1,n1,c1,b2,p2,n2,c2,b3,p3,n3,c3,fun j v hv=>?_,h2⟩
   rw [List.getElem?_set]
   by_cases hj:j=6
   ·subst hj
    have:=h1 6 _ rfl
    have hlt:k*8+6<vs.length:=by
     rcases Nat.lt_or_ge (k*8+6) vs.length with h|h
     ·exact h
     ·rw [List.getElem?_eq_none h] at this;cases this
    rw [if_pos rfl,if_pos hlt]
    exact hv
   ·rw [if_neg (by omega)]
    refine h1 j v ?_
    match j,hj,hv with
    | 0,_,hv=>exact hv
    | 1,_,hv=>exact hv
    | 2,_,hv=>exact hv
    | 3,_,hv=>exact hv
    | 4,_,hv=>exact hv
    | 5,_,hv=>exact hv
    | 6,hj,_=>exact absurd rfl hj
    | 7,_,hv=>exact hv
    | n+8,_,hv=>exact hv
  ·cases hd'
 ·rename_i e
  obtain ⟨b1,p1,n1,c1,b2,p2,n2,c2,b3,p3,n3,c3,h1,h2⟩:=h i d' hd'
  refine ⟨b1,p1,n1,c1,b2,p2,n2,c2,b3,p3,n3,c3,fun j v hv=>?_,h2⟩
  have hj:j<8:=by
   rcases Nat.lt_or_ge j 8 with hj|hj
   ·exact hj
   ·rw [List.getElem?_eq_none (by simpa using hj)] at hv;cases hv
  rw [List.getElem?_set_ne (by omega)]
  exact h1 j v hv
theorem NR.S0 {V:View}{vs:List Value}{l:List Nd}(h:NR V vs l){k:Nat}{d:Nd}(hd:l[k]?=some d){x:Int}:NR V (vs.set (k*8+7) (.int .i64 x)) (l.set k ⟨d.ln,d.left,x⟩):=by
 intro i d' hd'
 rw [List.getElem?_set] at hd'
 split at hd'
 ·rename_i e
  subst e
  split at hd'
  ·cases hd'
   obtain ⟨b1,p1,n1,c1,b2,p2,n2,c2,b3,p3,n3,c3,h1,h2⟩:=h k d hd
   refine ⟨b1,p1,n1,c1,b2,p2,n2,c2,b3,p3,n3,c3,fun j v hv=>?_,h2⟩
   rw [List.getElem?_set]
   by_cases hj:j=7
   ·subst hj
    have:=h1 7 _ rfl
    have hlt:k*8+7<vs.length:=by
     rcases Nat.lt_or_ge (k*8+7) vs.length with h|h
     ·exact h
     ·rw [List.getElem?_eq_none h] at this;cases this
    rw [if_pos rfl,if_pos hlt]
    exact hv
   ·rw [if_neg (by omega)]
    refine h1 j v ?_
    match j,hj,hv with
    | 0,_,hv=>exact hv
    | 1,_,hv=>exact hv
    | 2,_,hv=>exact hv
    | 3,_,hv=>exact hv
    | 4,_,hv=>exact hv
    | 5,_,hv=>exact hv
    | 6,_,hv=>exact hv
    | 7,hj,_=>exact absurd rfl hj
    | n+8,_,hv=>exact hv
  ·cases hd'
 ·rename_i e
  obtain ⟨b1,p1,n1,c1,b2,p2,n2,c2,b3,p3,n3,c3,h1,h2⟩:=h i d' hd'
  refine ⟨b1,p1,n1,c1,b2,p2,n2,c2,b3,p3,n3,c3,fun j v hv=>?_,h2⟩
  have hj:j<8:=by
   rcases Nat.lt_or_ge j 8 with hj|hj
   ·exact hj
   ·rw [List.getElem?_eq_none (by simpa using hj)] at hv;cases hv
  rw [List.getElem?_set_ne (by omega)]
  exact h1 j v hv
theorem NR.kids {V:View}{vs:List Value}{l r:List Nd}{ln:L3}{u v x y:Int}(h:NR V vs (l++⟨ln,u,v⟩::r)):NR V ((vs.set (l.length*8+6) (.int .i64 x)).set (l.length*8+7) (.int .i64 y)) (l++⟨ln,x,y⟩::r):=by
 have e1:(l++(⟨ln,u,v⟩:Nd)::r)[l.length]?=some ⟨ln,u,v⟩:=by simp
 have h1:=h.SZ e1 (x:=x)
 have e2:(l++(⟨ln,u,v⟩:Nd)::r).set l.length ⟨ln,x,v⟩=l++⟨ln,x,v⟩::r:=by simp
 rw [e2] at h1
 have e3:(l++(⟨ln,x,v⟩:Nd)::r)[l.length]?=some ⟨ln,x,v⟩:=by simp
 have h2:=h1.S0 e3 (x:=y)
 have e4:(l++(⟨ln,x,v⟩:Nd)::r).set l.length ⟨ln,x,y⟩=l++⟨ln,x,y⟩::r:=by simp
 rw [e4] at h2
 exact h2
theorem NR.take {V:View}{vs:List Value}{l:List Nd}(h:NR V vs l):NR V (vs.take (l.length*8)) l:=by
 intro i d hd
 obtain ⟨b1,p1,n1,c1,b2,p2,n2,c2,b3,p3,n3,c3,h1,h2⟩:=h i d hd
 refine ⟨b1,p1,n1,c1,b2,p2,n2,c2,b3,p3,n3,c3,fun j v hv=>?_,h2⟩
 have hj:j<8:=by
  rcases Nat.lt_or_ge j 8 with hj|hj
  ·exact hj
  ·rw [List.getElem?_eq_none (by simpa using hj)] at hv;cases hv
 have hi:i<l.length:=by
  rcases Nat.lt_or_ge i l.length with h|h
  ·exact h
  ·rw [List.getElem?_eq_none h] at hd;cases hd
 rw [List.getElem?_take,if_pos (by omega)]
 exact h1 j v hv
theorem NS.ofRow {V:View}{b c:Nat}{vm:List Value}{l:List Nd}{ty:TypeId}(hb:vm≠[]->V.bE b (.cells vm.toArray ty (0,0)))(hc:l.length<=c)(hr:NR V vm l):NS V (mA b c) l.length c l:=by
 refine ⟨rfl,hc,⟨_,?_,hr.take⟩,?_⟩
 ·intro i v hv
  rw [List.getElem?_take] at hv
  split at hv
  ·rename_i hi
   have hne:vm≠[]:=fun e=>by rw [e] at hv;simp at hv
   refine ⟨⟨b,0,none⟩,by unfold mA;rw [if_neg (by omega)],?_⟩
   rw [add_zero']
   exact cU (hb hne) hv
  ·cases hv
 ·intro e
  unfold mA at e
  split at e
  ·assumption
  ·cases e
def P0 (V:View)(vs:List Value)(ts:List Tr):Prop:=∀(i:Nat)(t:Tr),ts[i]?=some t->∃p,vs[i]?=some (.pointer p)/\RT V p t
theorem P0.le {V V':View}{vs:List Value}{ts:List Tr}(h:P0 V vs ts)(l:V.Le V'):P0 V' vs ts:=fun i t ht=>by
 obtain ⟨p,h1,h2⟩:=h i t ht
 exact ⟨p,h1,h2.le l⟩
def AT (V:View)(v:Value)(root:Int)(l:List Nd):Prop:=∃q n c,v=.agg #[.int .i64 root,.slice q n c]/\NS V q n c l
theorem AT.le {V V':View}{v:Value}{root:Int}{l:List Nd}(h:AT V v root l)(hl:V.Le V'):AT V' v root l:=by
 obtain ⟨q,n,c,e,h⟩:=h;exact ⟨q,n,c,e,h.le hl⟩
theorem AT.zero {V:View}:AT V (.agg #[.int .i64 0,.slice none 0 0]) 0 []:=⟨_,_,_,rfl,NS.nil⟩
end Go.Proofs.Tryz
namespace Go.Proofs.Tryz
open Go.bK
set_option maxRecDepth 100000
end Go.Proofs.Tryz
namespace Go.Proofs.Tryz
open Go.bK Go.fV
theorem xN {V:View}{l:List Nd}(hb:∀x∈l,Bd x.ln){v:Value}{root:Int}(h:AT V v root l) :
  ab prog 45 #[v] V fun r V'=>∃q,r=.tuple #[.pointer q,.bool (nI l root).isSome]/\∀t,nI l root=some t->RT V' q t:=by
 obtain ⟨p,n,c,rfl,h⟩:=h
 refine (FP hb root h).mono ?_
 rintro r V' _ ⟨h1,h2⟩
 cases e:nI l root with
 | none=>obtain ⟨q,rfl⟩:=h1 e;exact ⟨q,rfl,fun t ht=>by cases ht⟩
 | some t=>obtain ⟨q,rfl,hq⟩:=h2 t e;exact ⟨q,rfl,fun t' ht=>by cases ht;exact hq⟩
theorem RQ.ofNat {V:View}{p:OA}{n c x:Nat}(h:RN V p n c x){b:Bool}(hb:b=decide ((x:Int)<0)):RQ V (.agg #[.bool b,.slice p n c,.slice none 0 0]) ((x:Int):Rat):=
 lM (z:=(x:Int)) (d:=1) rfl rfl h RD.nil hb
theorem RQ.int {V:View}{q:Rat}{b:Bool}{p:OA}{n c:Nat}{p':OA}{n' c':Nat}(h:RQ V (.agg #[.bool b,.slice p n c,.slice p' n' c']) q):RI V (.agg #[.bool b,.slice p n c]) q.num:=by
 obtain ⟨p1,n1,c1,p2,n2,c2,e,h1,h2⟩:=h
 cases e
 exact ⟨_,_,_,rfl,h1⟩
theorem RQ.den {V:View}{q:Rat}{b:Bool}{p:OA}{n c:Nat}{p':OA}{n' c':Nat}(h:RQ V (.agg #[.bool b,.slice p n c,.slice p' n' c']) q):RD V p' n' c' (sJ q.den):=by
 obtain ⟨p1,n1,c1,p2,n2,c2,e,h1,h2⟩:=h
 cases e
 exact h2
def wg (px py qx qy:Rat):Rat×Rat×Rat:=
 let a:=-(qy-py);let b:=qx-px;let c:=-(a*px+b*py)
 let f:Rat:=(((a.den*b.den*c.den:Nat):Int):Rat)
 (a*f,b*f,c*f)
theorem LG {n k:Nat}(h:n<2^k)(hk:0<k):Sz k (((n:Nat):Int):Rat):=by
 refine ⟨?_,?_⟩
 ·show ((n:Nat):Int).natAbs<_
  simpa using h
 ·show 1<2^k
  exact Nat.one_lt_two_pow (by omega)
theorem lK {V:View}{u w:Value}{px py qx qy:Rat}(hp:RP V u px py)(hq:RP V w qx qy){k:Nat}(s1:Sz k px)(s2:Sz k py)(s3:Sz k qx)(s4:Sz k qy)(hk1:1<=k)(hk:64*k+64<274877906944) :
  ab prog 50 #[u,w] V fun r V'=>((wg px py qx qy).1.num=0/\(wg px py qx qy).2.1.num=0->∃l,r=.tuple #[l,.bool false]/\RL V' l 0 0 0) /\
   (¬((wg px py qx qy).1.num=0/\(wg px py qx qy).2.1.num=0)->∃l,r=.tuple #[l,.bool true] /\
    RL V' l ((wg px py qx qy).1.num / (ji (wg px py qx qy).1.num (wg px py qx qy).2.1.num (wg px py qx qy).2.2.num:Int)) ((wg px py qx qy).2.1.num / (ji (wg px py qx qy).1.num (wg px py qx qy).2.1.num (wg px py qx qy).2.2.num:Int)) ((wg px py qx qy).2.2.num / (ji (wg px py qx qy).1.num (wg px py qx qy).2.1.num (wg px py qx qy).2.2.num:Int))):=by
 have hp0:=hp
 have hq0:=hq
 obtain ⟨p1,n1,c1,p2,n2,c2,p3,n3,c3,p4,n4,c4,rfl,hp1,hp2⟩:=hp
 obtain ⟨q1,m1,e1,q2,m2,e2,q3,m3,e3,q4,m4,e4,rfl,-,-⟩:=hq
 refine rH _ p1 n1 c1 p2 n2 c2 _ p3 n3 c3 p4 n4 c4 _ q1 m1 e1 q2 m2 e2 _ q3 m3 e3 q4 m4 e4 V _ fun V1 l1=>(AP (hq0.le l1) (hp0.le l1) s3 s4 s1 s2 hk1 (by omega)).mono ?_
 rintro r V2 l2 ⟨a1,a2,a3,a4,a5,a6,a7,a8,a9,T1,T2,a12,rfl,hb,hd⟩
 have tb:Sz (k+k+1) (qx-px):=s3.sub s1
 have td:Sz (k+k+1) (qy-py):=s4.sub s2
 have uM:=l1.trans l2
 refine ⟨_,_,_,_,_,_,_,_,_,_,_,_,_,_,rfl,fun V3 l3=>(m_ (qy-py) (by obtain ⟨_,_,_,_,_,_,e,h1,h2⟩:=hd.le l3;cases e;exact h1) (RQ.den (hd.le l3))).mono ?_⟩
 rintro r V4 l4 ha
 obtain ⟨b1,b2,b3,b4,b5,b6,rfl⟩:=ha.shape
 have ta:=td.neg
 have RG:wg px py qx qy=(-(qy-py)*(((((-(qy-py)).den*(qx-px).den*(-(-(qy-py)*px+(qx-px)*py)).den:Nat):Int):Rat)),(qx-px)*(((((-(qy-py)).den*(qx-px).den*(-(-(qy-py)*px+(qx-px)*py)).den:Nat):Int):Rat)),(-(-(qy-py)*px+(qx-px)*py))*(((((-(qy-py)).den*(qx-px).den*(-(-(qy-py)*px+(qx-px)*py)).den:Nat):Int):Rat))):=rfl
 rw [RG]
 generalize -(qy-py)=A at *
 generalize qx-px=B at *
 replace hb:=hb.le (l3.trans l4)
 replace hp1:=hp1.le (uM.trans (l3.trans l4))
 replace hp2:=hp2.le (uM.trans (l3.trans l4))
 refine ⟨_,_,_,_,_,_,_,rfl,fun V5 l5=>(aO (ha.le l5) (hp1.le l5) ta s1 (by omega)).mono ?_⟩
 rintro r V6 l6 g6
 obtain ⟨d1,d2,d3,d4,d5,d6,rfl⟩:=g6.shape
 refine ⟨_,_,_,_,_,_,_,rfl,fun V7 l7=>(aO (hb.le (l5.trans (l6.trans l7))) (hp2.le (l5.trans (l6.trans l7))) tb s2 (by omega)).mono ?_⟩
 rintro r V8 l8 g8
 obtain ⟨f1,f2,f3,f4,f5,f6,rfl⟩:=g8.shape
 refine ⟨_,_,_,_,_,_,_,rfl,fun V9 l9=>(eH (g6.le (l7.trans (l8.trans l9))) (g8.le l9) (ta.mul s1) (tb.mul s2) (by omega)).mono ?_⟩
 rintro r g_ l10 g10
 have tc:=((ta.mul s1).add (tb.mul s2)).neg
 obtain ⟨i1,i2,i3,i4,i5,i6,rfl⟩:=g10.shape
 refine ⟨_,_,_,_,_,_,_,rfl,fun gW bI=>(m_ (A*px+B*py) (by obtain ⟨_,_,_,_,_,_,e,h1,h2⟩:=g10.le bI;cases e;exact h1) (RQ.den (g10.le bI))).mono ?_⟩
 rintro r lH cw hc
 generalize -(A*px+B*py)=C at *
 obtain ⟨j1,j2,j3,j4,j5,j6,rfl⟩:=hc.shape
 have IA:=l5.trans (l6.trans (l7.trans (l8.trans (l9.trans (l10.trans (bI.trans cw))))))
 replace ha:=ha.le IA
 replace hb:=hb.le IA
 refine ⟨_,_,_,_,_,_,_,rfl,fun lU cd=>(bY A _ (RQ.den (ha.le cd))).mono ?_⟩
 rintro r po dN ⟨k1,k2,k3,rfl,g14⟩
 refine ⟨_,_,_,rfl,fun nF dk=>(bY B _ (RQ.den (hb.le (cd.trans (dN.trans dk))))).mono ?_⟩
 rintro r mW dm ⟨k4,k5,k6,rfl,g16⟩
 obtain ⟨-,da,-⟩:=cu ta
 obtain ⟨-,db,-⟩:=cu tb
 obtain ⟨-,dc,-⟩:=cu tc
 refine ⟨_,_,_,rfl,fun nN cP=>(ct (g14.le (dk.trans (dm.trans cP))) (g16.le cP) (by omega)).mono ?_⟩
 rintro r qI dZ ⟨k7,k8,k9,rfl,g18⟩
 rw [ag,ag] at g18
 refine ⟨_,_,_,rfl,fun tq dR=>(bY C _ (RQ.den (hc.le (cd.trans (dN.trans (dk.trans (dm.trans (cP.trans (dZ.trans dR))))))))).mono ?_⟩
 rintro r An iQ ⟨k10,k11,k12,rfl,g20⟩
 have YM:=h_ (a:=A.den) (b:=B.den)
 refine ⟨_,_,_,rfl,fun tu eh=>(ct (g18.le (dR.trans (iQ.trans eh))) (g20.le eh) (by omega)).mono ?_⟩
 rintro r wi kq ⟨k13,k14,k15,rfl,g22⟩
 rw [ag,ag] at g22
 have tf:Sz (k+k+1+(k+k+1)+(k+k+1+k+1+(k+k+1+k+1)+1)) (((A.den*B.den*C.den:Nat):Int):Rat):=LG (bA (bA ta.2 tb.2) tc.2) (by omega)
 generalize A.den*B.den*C.den=M at *
 refine ⟨_,_,_,rfl,fun tM fB=>(qR (g22.le fB)).mono ?_⟩
 rintro r Cu pg ⟨k16,k17,k18,rfl,g24⟩
 have hf:=RQ.ofNat g24 rfl
 have KX:=cd.trans (dN.trans (dk.trans (dm.trans (cP.trans (dZ.trans (dR.trans (iQ.trans (eh.trans (kq.trans (fB.trans pg))))))))))
 refine ⟨_,_,_,_,rfl,fun DN gF=>(aO (ha.le (KX.trans gF)) (hf.le gF) ta tf (by omega)).mono ?_⟩
 rintro r Fv nV Ud
 obtain ⟨o1,o2,o3,o4,o5,o6,rfl⟩:=Ud.shape
 refine ⟨_,_,_,_,_,_,_,rfl,fun Js lY=>(aO (hb.le (KX.trans (gF.trans (nV.trans lY)))) (hf.le (gF.trans (nV.trans lY))) tb tf (by omega)).mono ?_⟩
 rintro r HR Bk Ue
 obtain ⟨o7,o8,o9,Y2,Y3,Y4,rfl⟩:=Ue.shape
 refine ⟨_,_,_,_,_,_,_,rfl,fun LX tB=>(aO (hc.le (KX.trans (gF.trans (nV.trans (lY.trans (Bk.trans tB)))))) (hf.le (gF.trans (nV.trans (lY.trans (Bk.trans tB))))) tc tf (by omega)).mono ?_⟩
 rintro r Fw uN A6
 obtain ⟨t1,t2,t3,t4,t5,t6,rfl⟩:=A6.shape
 refine ⟨_,_,_,_,_,_,_,rfl,fun Mt Cq=>(wE (RQ.int (Ud.le (lY.trans (Bk.trans (tB.trans (uN.trans Cq)))))) (RQ.int (Ue.le (tB.trans (uN.trans Cq)))) (RQ.int (A6.le Cq)) (Nat.le_trans (cu (ta.mul tf)).1 (by omega)) (Nat.le_trans (cu (tb.mul tf)).1 (by omega)) (Nat.le_trans (cu (tc.mul tf)).1 (by omega))).mono ?_⟩
 rintro r P1 IC ⟨z1,z2⟩
 by_cases hz:(A*((M:Int):Rat)).num=0/\(B*((M:Int):Rat)).num=0
 ·obtain ⟨l,rfl,y1,y2,y3,y4,y5,y6,y7,y8,y9,rfl,w1,w2,w3⟩:=z1 hz
  exact ⟨_,_,_,_,_,_,_,_,_,_,_,_,_,rfl,fun P2 zj=>⟨fun _=>⟨_,rfl,_,_,_,_,_,_,_,_,_,rfl,w1.le zj,w2.le zj,w3.le zj⟩,fun h=>absurd hz h⟩⟩
 ·obtain ⟨l,rfl,y1,y2,y3,y4,y5,y6,y7,y8,y9,rfl,w1,w2,w3⟩:=z2 hz
  exact ⟨_,_,_,_,_,_,_,_,_,_,_,_,_,rfl,fun P2 zj=>⟨fun h=>absurd h hz,fun _=>⟨_,rfl,_,_,_,_,_,_,_,_,_,rfl,w1.le zj,w2.le zj,w3.le zj⟩⟩⟩
theorem Jg (x y u w:Int):wg (x:Rat) (y:Rat) ((x:Rat)+((1:Int):Rat)*(u:Rat)) ((y:Rat)+((1:Int):Rat)*(w:Rat))=(((-w:Int):Rat),((u:Int):Rat),((w*x-u*y:Int):Rat)):=by
 have e1:(x:Rat)+((1:Int):Rat)*(u:Rat)=((x+u:Int):Rat):=by rw [←Rat.intCast_mul,←Rat.intCast_add,Int.one_mul]
 have e2:(y:Rat)+((1:Int):Rat)*(w:Rat)=((y+w:Int):Rat):=by rw [←Rat.intCast_mul,←Rat.intCast_add,Int.one_mul]
 rw [e1,e2]
 have ha:-(((y+w:Int):Rat)-(y:Rat))=((-w:Int):Rat):=by rw [←Rat.intCast_sub,←Rat.intCast_neg];congr 1;omega
 have hb:((x+u:Int):Rat)-(x:Rat)=((u:Int):Rat):=by rw [←Rat.intCast_sub];congr 1;omega
 have hc:-(((-w:Int):Rat)*(x:Rat)+((u:Int):Rat)*(y:Rat))=((w*x-u*y:Int):Rat):=by
  rw [←Rat.intCast_mul,←Rat.intCast_mul,←Rat.intCast_add,←Rat.intCast_neg];congr 1;rw [Int.neg_mul];omega
 have hf:(((((-w:Int):Rat).den*((u:Int):Rat).den*((w*x-u*y:Int):Rat).den:Nat):Int):Rat)=1:=rfl
 unfold wg
 dsimp only
 rw [ha,hb,hc,hf,Rat.mul_one,Rat.mul_one,Rat.mul_one]
def C3 (a b c:Int):L3:=(a / (ji a b c:Int),b / (ji a b c:Int),c / (ji a b c:Int))
def small (z:Int)(k:Nat):Bool:=decide (z.natAbs<=k)
theorem Gs:∀i:Fin 9,∀j:Fin 9,∀k:Fin 65,(i.1=4/\j.1=4)\/(j9 (C3 ((i.1:Int)-4) ((j.1:Int)-4) ((k.1:Int)-32))&&small (C3 ((i.1:Int)-4) ((j.1:Int)-4) ((k.1:Int)-32)).1 32&&small (C3 ((i.1:Int)-4) ((j.1:Int)-4) ((k.1:Int)-32)).2.1 32&&small (C3 ((i.1:Int)-4) ((j.1:Int)-4) ((k.1:Int)-32)).2.2 32)=true:=by decide +kernel
theorem Km (k:Nat)(hk:6<=k){z:Int}(h:z.natAbs<=32):z.natAbs<2^k:=Nat.lt_of_le_of_lt h (Nat.lt_of_lt_of_le (by decide:32<2^6) (Nat.pow_le_pow_right (by decide) hk))
theorem MC (k:Nat)(hk:6<=k){x:L3}(h1:x.1.natAbs<=32)(h2:x.2.1.natAbs<=32)(h3:x.2.2.natAbs<=32):x.1.natAbs<2^k/\x.2.1.natAbs<2^k/\x.2.2.natAbs<2^k:=⟨Km k hk h1,Km k hk h2,Km k hk h3⟩
theorem IG {a b c:Int}(h1:-4<=a/\a<=4)(h2:-4<=b/\b<=4)(h3:-32<=c/\c<=32)(h:¬(a=0/\b=0)):j9 (C3 a b c)=true/\Bd (C3 a b c):=by
 have:=Gs ⟨(a+4).toNat,by omega⟩ ⟨(b+4).toNat,by omega⟩ ⟨(c+32).toNat,by omega⟩
 dsimp only at this
 rw [show (((a+4).toNat:Nat):Int)-4=a from by omega,show (((b+4).toNat:Nat):Int)-4=b from by omega,show (((c+32).toNat:Nat):Int)-32=c from by omega] at this
 rcases this with h'|h'
 ·omega
 ·simp only [Bool.and_eq_true,small,decide_eq_true_eq] at h'
  exact ⟨h'.1.1.1,MC 1000 (by decide) h'.1.1.2 h'.1.2 h'.2⟩
theorem Gx {x y:Int}(h1:-4<=x/\x<=4)(h2:-4<=y/\y<=4):-16<=x*y/\x*y<=16:=by
 have:(x*y).natAbs<=4*4:=by rw [Int.natAbs_mul];exact Nat.mul_le_mul (by omega) (by omega)
 omega
theorem qH {V:View}{v:Value}{a b c:Int}(h:RL V v a b c):∃(b1:Bool)(p1:OA)(n1 c1:Nat)(b2:Bool)(p2:OA)(n2 c2:Nat)(b3:Bool)(p3:OA)(n3 c3:Nat),v=.agg #[.bool b1,.slice p1 n1 c1,.bool b2,.slice p2 n2 c2,.bool b3,.slice p3 n3 c3]:=by
 obtain ⟨p,n,s,p',n',s',q,m,e,rfl,-⟩:=h
 exact ⟨_,_,_,_,_,_,_,_,_,_,_,_,rfl⟩
def Ep (V:View)(p:OA)(n:Nat):Prop:=∀i,i<n->∃(a:Addr)(x:Int),ah p (i*1)=some a/\V.at a (.int .i64 x)
theorem Ep.le {V V':View}{p:OA}{n:Nat}(h:Ep V p n)(l:V.Le V'):Ep V' p n:=fun i hi=>by
 obtain ⟨a,x,e,hx⟩:=h i hi;exact ⟨a,x,e,l.at hx⟩
def lT (V:View)(tb:Nat)(p:OA)(n c:Nat)(at_:Int):Prop:=V.w.heap[tb]?=some (.cells #[.slice p n c,.int .i64 at_] 95 (0,0))
theorem jJ {V:View}{tb:Nat}{p:OA}{n c:Nat}{at_:Int}(k:Int)(hr:Ep V p n)(hn:n<=400)(hw:lT V tb p n c at_)(hx:V.X tb)(h0:0<=at_)(hk:0<k)(hk2:k<=1000) :
  ab prog 22 #[.pointer (some ⟨tb,0,none⟩),.int .i64 k] V fun r V'=>∃x at',r=.int .i64 x/\0<=x/\x<k/\0<=at'/\lT V' tb p n c at':=by
 refine pe tb p n c at_ k V _ hw hx ⟨fun g V1 l1 e=>⟨0,at_,rfl,by omega,hk,h0,e⟩,fun g=>?_⟩
 have g:at_<n:=by have:=of_decide_eq_false g;omega
 obtain ⟨i,rfl⟩:∃i:Nat,at_=i:=⟨at_.toNat,by omega⟩
 obtain ⟨a,x,e1,e2⟩:=hr i (by omega)
 have hs:p.isSome=true:=by
  cases p with
  | none=>simp [ah] at e1
  | some a=>rfl
 have m1:(x.tmod k).natAbs<k.natAbs:=by rw [Int.natAbs_tmod];exact Nat.mod_lt _ (by omega)
 have w1:i64.wrap ((i:Int)+1)=((i+1:Nat):Int):=by rw [ar (by omega)];omega
 rw [Int.toNat_natCast,w1]
 have w2:i64.wrap (x.tmod k+k)=x.tmod k+k:=ar (by omega)
 refine ⟨hs,⟨by omega,by omega⟩,x,⟨a,e1,e2⟩,by omega,fun g2 V2 l2 e=>⟨x.tmod k+k,_,by rw [w2],?_,?_,?_,e⟩,fun g2 V3 l3 e=>⟨_,_,rfl,?_,?_,?_,e⟩⟩
 ·omega
 ·have:=of_decide_eq_true g2;omega
 ·omega
 ·have:=of_decide_eq_false g2;omega
 ·omega
 ·omega
theorem T6 {V:View}{tb:Nat}{p:OA}{n c:Nat}{at_:Int}(hr:Ep V p n)(hn:n<=400)(hw:lT V tb p n c at_)(hx:V.X tb)(h0:0<=at_) :
  ab prog 70 #[.pointer (some ⟨tb,0,none⟩)] V fun r V'=>∃(x y at':Int),RP V' r (x:Rat) (y:Rat)/\(-4<=x/\x<=4)/\(-4<=y/\y<=4)/\0<=at'/\lT V' tb p n c at':=by
 refine s_ tb p n c at_ V _ hw hx fun V1 l1 bk1 e1 h1=>(jJ (V:=V1.au [bk1]) 9 (hr.le fun b o h=>l1 b o h) hn e1 ⟨by simp,h1⟩ h0 (by omega) (by omega)).mono ?_
 rintro r V2 l2 ⟨x,FD,rfl,x0,x1,t1,hw1⟩
 refine ⟨_,rfl,_,_,_,_,hw1,fun V3 l3 ME e3 h3=>(jJ (V:=V3.au [ME]) 9 (hr.le fun b o h=>l3 b o (l2 b o (l1 b o h))) hn e3 ⟨by simp,h3⟩ t1 (by omega) (by omega)).mono ?_⟩
 rintro r V4 l4 ⟨y,at2,rfl,y0,y1,t2,hw2⟩
 refine ⟨_,rfl,_,_,_,_,hw2,fun V5 l5=>?_⟩
 rw [ar (x:=x-4) (by omega),ar (x:=y-4) (by omega)]
 refine (dF (x-4) (y-4) (by omega) (by omega) (by omega) (by omega)).mono ?_
 rintro r V6 l6 hp
 have hp0:=hp
 obtain ⟨p1,n1,c1,p2,n2,c2,p3,n3,c3,p4,n4,c4,rfl,-⟩:=hp
 exact ⟨_,_,_,_,_,_,_,_,_,_,_,_,_,_,rfl,fun V7 l7 e7=>⟨x-4,y-4,at2,hp0.le l7,⟨by omega,by omega⟩,⟨by omega,by omega⟩,t2,e7⟩⟩
theorem RQ.zero {V:View}:RQ V (.agg #[.bool false,.slice none 0 0,.slice none 0 0]) ((0:Int):Rat):=⟨none,0,0,none,0,0,rfl,RD.nil,RD.nil⟩
theorem RP.zero {V:View}:RP V (.agg #[.bool false,.slice none 0 0,.slice none 0 0,.bool false,.slice none 0 0,.slice none 0 0]) ((0:Int):Rat) ((0:Int):Rat):=
 ⟨none,0,0,none,0,0,none,0,0,none,0,0,rfl,RQ.zero,RQ.zero⟩
theorem rz {z:Int}(h:-40<=z/\z<=40):Sz 10 (z:Rat):=rA (by omega) (by omega)
theorem Wj {V:View}{tb:Nat}{p:OA}{n c:Nat}{at_:Int}(hr:Ep V p n)(hn:n<=400)(hw:lT V tb p n c at_)(hx:V.X tb)(h0:0<=at_) :
  ab prog 71 #[.pointer (some ⟨tb,0,none⟩)] V fun r V'=>∃(x y at':Int),RP V' r (x:Rat) (y:Rat)/\(-4<=x/\x<=4)/\(-4<=y/\y<=4)/\¬(x=0/\y=0)/\0<=at'/\lT V' tb p n c at':=by
 refine tj tb p n c at_ V _ hw hx fun V1 l1 bk1 e1 h1=>(T6 (V:=V1.au [bk1]) (hr.le fun b o h=>l1 b o h) hn e1 ⟨by simp,h1⟩ h0).mono ?_
 rintro r V2 l2 ⟨x,y,FD,hp,hx1,hy1,t1,hw1⟩
 have hp0:=hp
 obtain ⟨p1,n1,c1,p2,n2,c2,p3,n3,c3,p4,n4,c4,rfl,-⟩:=hp
 refine ⟨_,_,_,_,_,_,_,_,_,_,_,_,_,_,rfl,_,_,_,_,hw1,fun V3 l3=>(yZ (hp0.le fun b o h=>l3 b o h) RP.zero (rz (by omega)) (rz (by omega)) (rz (by omega)) (rz (by omega)) (by omega)).mono ?_⟩
 rintro r V4 l4 rfl
 refine ⟨_,rfl,fun g V5 l5=>(dF 1 0 (by omega) (by omega) (by omega) (by omega)).mono ?_,fun g V8 l8 e8=>⟨x,y,FD,hp0.le fun b o h=>l8 b o (l4 b o (l3 b o h)),hx1,hy1,?_,t1,e8⟩⟩
 ·rintro r V6 l6 hq
  have hq0:=hq
  obtain ⟨p1,n1,c1,p2,n2,c2,p3,n3,c3,p4,n4,c4,rfl,-⟩:=hq
  exact ⟨_,_,_,_,_,_,_,_,_,_,_,_,_,_,rfl,fun V7 l7 e7=>⟨1,0,FD,hq0.le l7,⟨by omega,by omega⟩,⟨by omega,by omega⟩,by omega,t1,e7⟩⟩
 ·rintro ⟨rfl,rfl⟩
  simp at g
theorem Wi {V:View}{tb:Nat}{p:OA}{n c:Nat}{at_:Int}(hr:Ep V p n)(hn:n<=400)(hw:lT V tb p n c at_)(hx:V.X tb)(h0:0<=at_) :
  ab prog 21 #[.pointer (some ⟨tb,0,none⟩)] V fun r V'=>∃(x:L3)(at':Int),RL V' r x.1 x.2.1 x.2.2/\j9 x=true/\Bd x/\0<=at'/\lT V' tb p n c at':=by
 refine sZ tb p n c at_ V _ hw hx fun V1 l1 bk1 e1 h1=>(T6 (V:=V1.au [bk1]) (hr.le fun b o h=>l1 b o h) hn e1 ⟨by simp,h1⟩ h0).mono ?_
 rintro r V2 l2 ⟨x,y,FD,hp,hx1,hy1,t1,hw1⟩
 have hp0:=hp
 obtain ⟨p1,n1,c1,p2,n2,c2,p3,n3,c3,p4,n4,c4,rfl,-⟩:=hp
 refine ⟨_,_,_,_,_,_,_,_,_,_,_,_,_,_,rfl,_,_,_,_,hw1,fun V3 l3=>(ki 1 (by omega) (by omega)).mono ?_⟩
 rintro r V4 l4 hq
 have hq0:=hq
 obtain ⟨p5,n5,c5,p6,n6,c6,rfl⟩:=hq.shape
 refine ⟨_,_,_,_,_,_,_,rfl,fun V5 l5 Ql e5 h5=>(Wj (V:=V5.au [Ql]) (hr.le fun b o h=>l5 b o (l4 b o (l3 b o (l2 b o (l1 b o h))))) hn e5 ⟨by simp,h5⟩ t1).mono ?_⟩
 rintro r V6 l6 ⟨u,w,at2,hv,hu1,RM,hne,t2,hw2⟩
 have hv0:=hv
 obtain ⟨q1,m1,d1,q2,m2,d2,q3,m3,d3,q4,m4,d4,rfl,-⟩:=hv
 refine ⟨_,_,_,_,_,_,_,_,_,_,_,_,_,_,rfl,_,_,_,_,hw2,fun V7 l7=>?_⟩
 have lY:V2.Le V7:=fun b o h=>l7 b o (l6 b o (l5 b o (l4 b o (l3 b o h))))
 have NN:V4.Le V7:=fun b o h=>l7 b o (l6 b o (l5 b o h))
 have Xk:V6.Le V7:=fun b o h=>l7 b o h
 refine (jq (hp0.le lY) (hq0.le NN) (hv0.le Xk) (k:=10) (m:=10) (rz (by omega)) (rz (by omega)) (rz (by omega)) (rz (by omega)) (rz (by omega)) (by omega)).mono ?_
 rintro r V8 l8 hs
 have hs0:=hs
 obtain ⟨s1,i1,j1,s2,i2,j2,s3,i3,j3,s4,i4,j4,rfl,-⟩:=hs
 have f1:(x:Rat)+((1:Int):Rat)*(u:Rat)=((x+u:Int):Rat):=by rw [←Rat.intCast_mul,←Rat.intCast_add,Int.one_mul]
 have f2:(y:Rat)+((1:Int):Rat)*(w:Rat)=((y+w:Int):Rat):=by rw [←Rat.intCast_mul,←Rat.intCast_add,Int.one_mul]
 refine ⟨_,_,_,_,_,_,_,_,_,_,_,_,_,_,rfl,fun V9 l9=>(lK (hp0.le (lY.trans (l8.trans l9))) (hs0.le l9) (k:=10) (rz (by omega)) (rz (by omega)) (by rw [f1];exact rz (by omega)) (by rw [f2];exact rz (by omega)) (by omega) (by omega)).mono ?_⟩
 rintro r g_ l10 ⟨-,h⟩
 rw [Jg] at h
 have n1:((-w:Int):Rat).num=-w:=rfl
 have n2:((u:Int):Rat).num=u:=rfl
 have n3:((w*x-u*y:Int):Rat).num=w*x-u*y:=rfl
 dsimp only at h
 rw [n1,n2,n3] at h
 obtain ⟨l,rfl,hl⟩:=h (by omega)
 have m1:=Gx RM hx1
 have m2:=Gx hu1 hy1
 obtain ⟨k1,k2⟩:=IG (a:=-w) (b:=u) (c:=w*x-u*y) (by omega) (by omega) (by omega) (by omega)
 have hl0:=hl
 obtain ⟨b1,u1,v1,w1,b2,u2,v2,w2,b3,u3,v3,w3,rfl⟩:=(qH hl)
 exact ⟨_,_,_,_,_,_,_,_,_,_,_,_,_,rfl,fun gW bI e11=>⟨C3 (-w) u (w*x-u*y),at2,hl0.le bI,k1,k2,t2,e11⟩⟩
def RW (V:View):OA->Tr->Prop
 | p,.leaf i=>∃(b:Nat)(c2 c3 c4 c5 c6 c7 c8 c9:Value),p=some ⟨b,0,none⟩/\V.bE b (.cells #[.bool true,.bool i,c2,c3,c4,c5,c6,c7,c8,c9] 64 (0,0))
 | p,.node l x y=>∃(b:Nat)(i:Bool)(b1:Bool)(p1:OA)(n1 c1:Nat)(b2:Bool)(p2:OA)(n2 c2:Nat)(b3:Bool)(p3:OA)(n3 c3:Nat)(pl pr:OA),p=some ⟨b,0,none⟩ /\
   V.bE b (.cells #[.bool false,.bool i,.bool b1,.slice p1 n1 c1,.bool b2,.slice p2 n2 c2,.bool b3,.slice p3 n3 c3,.pointer pl,.pointer pr] 64 (0,0)) /\
   RL V (.agg #[.bool b1,.slice p1 n1 c1,.bool b2,.slice p2 n2 c2,.bool b3,.slice p3 n3 c3]) l.1 l.2.1 l.2.2/\RW V pl x/\RW V pr y
theorem RW.le {V V':View}(h:V.Le V'):∀{t:Tr} {p:OA},RW V p t->RW V' p t
 | .leaf i,p,⟨b,c2,c3,c4,c5,c6,c7,c8,c9,e,hb⟩=>⟨b,c2,c3,c4,c5,c6,c7,c8,c9,e,h _ _ hb⟩
 | .node l x y,p,⟨b,i,b1,p1,n1,c1,b2,p2,n2,c2,b3,p3,n3,c3,pl,pr,e,hb,hl,hx,hy⟩=>⟨b,i,b1,p1,n1,c1,b2,p2,n2,c2,b3,p3,n3,c3,pl,pr,e,h _ _ hb,hl.le h,RW.le h hx,RW.le h hy⟩
theorem hU {V:View}(i:Bool):ab prog 42 #[.bool i] V fun r V'=>∃p,r=.pointer p/\RW V' p (.leaf i):=
 xq i V _ fun V1 l1 b hb=>⟨_,rfl,b,_,_,_,_,_,_,_,_,rfl,hb⟩
def Ft (x:L3):Prop:=j9 x=true/\Bd x
theorem Kq:∀(k:Nat) {V:View} {tb:Nat} {p:OA} {n c:Nat} {at_:Int},k<=10->Ep V p n->n<=400->lT V tb p n c at_->V.X tb->0<=at_ ->
  ab prog 11 #[.pointer (some ⟨tb,0,none⟩),.int .i64 (k:Int)] V fun r V'=>∃q t at',r=.pointer q/\RW V' q t/\t.lG Ft/\t.size<2^k/\0<=at'/\lT V' tb p n c at':=by
 intro k
 induction k with
 | zero=>
  intro V tb p n c at_ _ hr hn hw hx h0
  refine ja tb p n c at_ _ V _ hw hx ⟨fun g V1 l1 bk1 e1 h1=>(jJ (V:=V1.au [bk1]) 2 (hr.le fun b o h=>l1 b o h) hn e1 ⟨by simp,h1⟩ h0 (by omega) (by omega)).mono ?_,fun g=>by simp at g⟩
  rintro r V2 l2 ⟨x,FD,rfl,-,-,t1,hw1⟩
  refine ⟨_,rfl,_,_,_,_,hw1,fun V3 l3=>(hU _).mono ?_⟩
  rintro r V4 l4 ⟨q,rfl,hq⟩
  exact ⟨_,rfl,fun V5 l5 e5=>⟨_,_,FD,rfl,hq.le l5,trivial,by simp [Tr.size],t1,e5⟩⟩
 | succ k ih=>
  intro V tb p n c at_ hk hr hn hw hx h0
  refine ja tb p n c at_ _ V _ hw hx ⟨fun g=>by rw [beq_iff_eq] at g;omega,fun _ V6 l6 Pq e6 h6=>(jJ (V:=V6.au [Pq]) 4 (hr.le fun b o h=>l6 b o h) hn e6 ⟨by simp,h6⟩ h0 (by omega) (by omega)).mono ?_⟩
  rintro r V7 l7 ⟨x,FD,rfl,-,-,t1,hw1⟩
  have Fs:V.Le V7:=fun b o h=>l7 b o (l6 b o h)
  refine ⟨_,rfl,_,_,_,_,hw1,fun g V8 l8 Qj e8 h8=>(jJ (V:=V8.au [Qj]) 2 (hr.le fun b o h=>l8 b o (Fs b o h)) hn e8 ⟨by simp,h8⟩ t1 (by omega) (by omega)).mono ?_,fun g lU cd Qm e13 LZ=>(Wi (V:=lU.au [Qm]) (hr.le fun b o h=>cd b o (Fs b o h)) hn e13 ⟨by simp,LZ⟩ t1).mono ?_⟩
  ·rintro r V9 l9 ⟨x,at2,rfl,-,-,t2,hw2⟩
   refine ⟨_,rfl,_,_,_,_,hw2,fun g_ l10=>(hU _).mono ?_⟩
   rintro r gW bI ⟨q,rfl,hq⟩
   exact ⟨_,rfl,fun lH cw e12=>⟨_,_,at2,rfl,hq.le cw,trivial,by simpa [Tr.size] using Nat.two_pow_pos _,t2,e12⟩⟩
  ·rintro r po dN ⟨ln,at2,hl,hok,hbd,t2,hw2⟩
   have hl0:=hl
   obtain ⟨b1,u1,v1,w1,b2,u2,v2,w2,b3,u3,v3,w3,rfl⟩:=(qH hl)
   have Gj:V.Le po:=fun b o h=>dN b o (cd b o (Fs b o h))
   have wk:i64.wrap (((k+1:Nat):Int)-1)=(k:Int):=by rw [ar (by omega)];omega
   refine ⟨_,_,_,_,_,_,_,_,_,_,_,_,rfl,_,_,_,_,hw2,fun nF dk Qn e15 Pu=>?_⟩
   rw [wk]
   refine ((ih (V:=nF.au [Qn]) (by omega) (hr.le fun b o h=>dk b o (Gj b o h)) hn e15 ⟨by simp,Pu⟩ t2).mono ?_)
   rintro r mW dm ⟨qa,ta,at3,rfl,Na,HJ,hsa,t3,hw3⟩
   have KW:V.Le mW:=fun b o h=>dm b o (dk b o (Gj b o h))
   refine ⟨_,rfl,_,_,_,_,hw3,fun nN cP Qo e17 Q8=>(ih (V:=nN.au [Qo]) (by omega) (hr.le fun b o h=>cP b o (KW b o h)) hn e17 ⟨by simp,Q8⟩ t3).mono ?_⟩
   rintro r qI dZ ⟨qb,XC,at4,rfl,WZ,htb,hsb,t4,hw4⟩
   refine ⟨_,rfl,_,_,_,_,hw4,fun tq dR Qp e19 hb=>⟨_,.node ln ta XC,at4,rfl,⟨Qp,_,_,_,_,_,_,_,_,_,_,_,_,_,_,_,rfl,hb,?_,?_,?_⟩,⟨⟨hok,hbd⟩,HJ,htb⟩,?_,t4,e19⟩⟩
   ·exact hl0.le fun b o h=>dR b o (dZ b o (cP b o (dm b o (dk b o h))))
   ·exact RW.le (V:=mW) (V':=tq) (fun b o h=>dR b o (dZ b o (cP b o h))) Na
   ·exact RW.le (V:=qI) (V':=tq) (fun b o h=>dR b o h) WZ
   ·simp only [Tr.size];rw [Nat.pow_succ];omega
end Go.Proofs.Tryz
namespace Go.Proofs.Tryz
open Go.bK
set_option maxRecDepth 100000
end Go.Proofs.Tryz
namespace Go.Proofs.Tryz
open Go.bK Go.fV
def Tr.depth:Tr->Nat
 | .leaf _=>0
 | .node _ a b=>1+max a.depth b.depth
def Tr.ins:Tr->Nat
 | .leaf i=>if i then 1 else 0
 | .node _ a b=>a.ins+b.ins
theorem I5 {V:View}{p:OA}{i:Bool}(h:RW V p (.leaf i)):p.isSome=true/\(∃a,ah p 0=some a/\V.at a (.bool true))/\∃a,ah p 1=some a/\V.at a (.bool i):=by
 obtain ⟨b,c2,c3,c4,c5,c6,c7,c8,c9,rfl,hb⟩:=h
 exact ⟨rfl,BE hb 0 rfl,BE hb 1 rfl⟩
end Go.Proofs.Tryz
namespace Go.bK
theorem tP (a:Addr)(m n:Nat):(a.add m).add n=a.add (m+n):=by
 unfold Addr.add
 by_cases h1:m=0
 ·subst h1;simp
 ·by_cases h2:n=0
  ·subst h2;simp [h1]
  ·rw [if_neg h1,if_neg h2,if_neg (by omega)]
   simp only [Nat.add_assoc]
variable {α:Type} {sz:Nat} {R:View->Value->α->Prop} {V V':View}
structure Row (sz:Nat) (R:View->Value->α->Prop) (V:View) (vs:List Value) (al:List α):Prop where
 at_:∀(i:Nat)(h:i<al.length),∃xs:List Value,xs.length=sz/\R V (.agg xs.toArray) al[i]/\∀j x,xs[j]?=some x->vs[i*sz+j]?=some x
structure og (sz:Nat) (R:View->Value->α->Prop) (V:View) (p:OA) (n:Nat) (al:List α):Prop where
 len:n=al.length
 at_:∀(i:Nat)(h:i<al.length),∃ad,ah p (i*sz)=some ad/\∃xs:List Value,xs.length=sz/\R V (.agg xs.toArray) al[i]/\∀j x,xs[j]?=some x->V.at (ad.add j) x
theorem Row.nil {vs:List Value}:Row sz R V vs []:=⟨fun i h=>absurd h (Nat.not_lt_zero i)⟩
theorem og.nil {p:OA}:og sz R V p 0 []:=⟨rfl,fun i h=>absurd h (Nat.not_lt_zero i)⟩
theorem Row.le {vs:List Value}{al:List α}(h:Row sz R V vs al)(m:∀v a,R V v a->R V' v a):Row sz R V' vs al:=
 ⟨fun i hi=>by obtain ⟨xs,h1,h2,h3⟩:=h.at_ i hi;exact ⟨xs,h1,m _ _ h2,h3⟩⟩
theorem og.le {p:OA}{n:Nat}{al:List α}(h:og sz R V p n al)(l:V.Le V')(m:∀v a,R V v a->R V' v a):og sz R V' p n al:=
 ⟨h.len,fun i hi=>by obtain ⟨ad,h0,xs,h1,h2,h3⟩:=h.at_ i hi;exact ⟨ad,h0,xs,h1,m _ _ h2,fun j x hx=>l.at (h3 j x hx)⟩⟩
theorem Row.fl {vs:List Value}{al:List α}(h:Row sz R V vs al)(hs:0<sz):al.length*sz<=vs.length:=by
 by_cases h0:al.length=0
 ·rw [h0];omega
 ·obtain ⟨xs,h1,-,h3⟩:=h.at_ (al.length-1) (by omega)
  have hx:sz-1<xs.length:=by omega
  have:=(List.getElem?_eq_some_iff.1 (h3 (sz-1) _ (List.getElem?_eq_getElem hx))).1
  have e:al.length*sz=(al.length-1)*sz+sz:=by
   obtain ⟨m,hm⟩:∃m,al.length=m+1:=⟨al.length-1,by omega⟩
   rw [hm,Nat.add_sub_cancel,Nat.succ_mul]
  omega
theorem Row.snoc {vs:List Value}{al:List α}(h:Row sz R V vs al){xs sp:List Value}{a:α}(hx:xs.length=sz)(ha:R V (.agg xs.toArray) a)(hs:0<sz) :
  Row sz R V (vs.take (al.length*sz)++xs++sp) (al++[a]):=by
 have hl:=h.fl hs
 have ht:(vs.take (al.length*sz)).length=al.length*sz:=by rw [List.length_take];omega
 refine ⟨fun i hi=>?_⟩
 rw [List.length_append,List.length_singleton] at hi
 by_cases e:i=al.length
 ·subst e
  refine ⟨xs,hx,by rw [List.getElem_append_right (Nat.le_refl _)];simpa using ha,fun j x hj=>?_⟩
  have hj':=(List.getElem?_eq_some_iff.1 hj).1
  rw [List.append_assoc,List.getElem?_append_right (by rw [ht];omega),ht,Nat.add_sub_cancel_left,List.getElem?_append_left hj']
  exact hj
 ·have hi':i<al.length:=by omega
  obtain ⟨ys,y1,y2,y3⟩:=h.at_ i hi'
  refine ⟨ys,y1,by rw [List.getElem_append_left hi'];exact y2,fun j x hj=>?_⟩
  have hj':=(List.getElem?_eq_some_iff.1 hj).1
  have hlt:i*sz+j<al.length*sz:=by
   have:(i+1)*sz<=al.length*sz:=Nat.mul_le_mul_right _ hi'
   rw [Nat.succ_mul] at this
   omega
  rw [List.append_assoc,List.getElem?_append_left (by rw [ht];exact hlt),List.getElem?_take,if_pos hlt]
  exact y3 j x hj
theorem og.zo {bk:Nat}{ty:TypeId}{m:Nat×Nat}{vs:List Value}{al:List α}(hb:V.bE bk (.cells vs.toArray ty m))(h:Row sz R V vs al):og sz R V (some ⟨bk,0,none⟩) al.length al:=by
 refine ⟨rfl,fun i hi=>?_⟩
 obtain ⟨xs,h1,h2,h3⟩:=h.at_ i hi
 refine ⟨⟨bk,i*sz,none⟩,by simp [ah,add_zero'],xs,h1,h2,fun j x hj=>?_⟩
 have e:(⟨bk,i*sz,none⟩:Addr).add j=⟨bk,i*sz+j,none⟩:=by rw [←add_zero',tP,add_zero']
 rw [e]
 exact cU hb (h3 j x hj)
theorem og.tE {bk c:Nat}{ty:TypeId}{m:Nat×Nat}{vs:List Value}{al:List α}(hb:vs≠[]->V.bE bk (.cells vs.toArray ty m))(h:Row sz R V vs al)(hs:0<sz)(hc:al.length<=c):og sz R V (mA bk c) al.length al:=by
 cases al with
 | nil=>exact og.nil
 | cons a r=>
  have hne:vs≠[]:=fun e=>by
   have:=h.fl hs
   rw [e,List.length_cons,Nat.succ_mul] at this
   simp at this;omega
  have:mA bk c=some ⟨bk,0,none⟩:=by unfold mA;rw [if_neg];rw [List.length_cons] at hc;omega
  rw [this]
  exact og.zo (hb hne) h
end Go.bK
namespace Go.bK
open Go.Proofs.Tryz
variable {α:Type} {sz:Nat} {R:View->Value->α->Prop} {V V':View} {d:α}
theorem Row.get {vs:List Value}{al:List α}(h:Row sz R V vs al){i:Nat}(hi:i<al.length)(hs:0<sz) :
  ∃xs:List Value,xs.length=sz/\R V (.agg xs.toArray) (al.getD i d)/\i*sz+sz<=vs.length/\(vs.drop (i*sz)).take sz=xs:=by
 obtain ⟨xs,h1,h2,h3⟩:=h.at_ i hi
 have hl:=h.fl hs
 have:(i+1)*sz<=al.length*sz:=Nat.mul_le_mul_right _ hi
 rw [Nat.succ_mul] at this
 refine ⟨xs,h1,by simpa [List.getD_eq_getElem?_getD,hi] using h2,by omega,?_⟩
 apply List.ext_getElem?
 intro j
 rw [List.getElem?_take]
 split
 ·rename_i hj
  rw [List.getElem?_drop]
  have hx:j<xs.length:=by omega
  rw [h3 j _ (List.getElem?_eq_getElem hx),List.getElem?_eq_getElem hx]
 ·rename_i hj
  rw [List.getElem?_eq_none (by omega)]
theorem Row.put {vs:List Value}{al:List α}(h:Row sz R V vs al){i:Nat}(hi:i<al.length)(hs:0<sz){xs:List Value}{a:α}(hx:xs.length=sz)(ha:R V (.agg xs.toArray) a) :
  Row sz R V (ae vs (i*sz) xs) (al.set i a):=by
 have hl:=h.fl hs
 have h9:∀k,k<al.length->k*sz+sz<=vs.length:=fun k hk=>by
  have:(k+1)*sz<=al.length*sz:=Nat.mul_le_mul_right _ hk
  rw [Nat.succ_mul] at this
  omega
 have hi9:=h9 i hi
 rw [lD (by omega)]
 have ht:(vs.take (i*sz)).length=i*sz:=by rw [List.length_take];omega
 refine ⟨fun k hk=>?_⟩
 rw [List.length_set] at hk
 by_cases e:k=i
 ·subst e
  refine ⟨xs,hx,by simpa using ha,fun j x hj=>?_⟩
  have hj':=(List.getElem?_eq_some_iff.1 hj).1
  rw [List.append_assoc,List.getElem?_append_right (by omega),ht,Nat.add_sub_cancel_left,List.getElem?_append_left hj']
  exact hj
 ·obtain ⟨ys,y1,y2,y3⟩:=h.at_ k hk
  refine ⟨ys,y1,by rw [List.getElem_set_ne (fun e'=>e e'.symm)];exact y2,fun j x hj=>?_⟩
  have hj':=(List.getElem?_eq_some_iff.1 hj).1
  by_cases lt:k<i
  ·have:(k+1)*sz<=i*sz:=Nat.mul_le_mul_right _ lt
   rw [Nat.succ_mul] at this
   rw [List.append_assoc,List.getElem?_append_left (by omega),List.getElem?_take,if_pos (by omega)]
   exact y3 j x hj
  ·have:(i+1)*sz<=k*sz:=Nat.mul_le_mul_right _ (by omega)
   rw [Nat.succ_mul] at this
   rw [List.getElem?_append_right (by rw [List.length_append];omega),List.length_append,ht,hx,List.getElem?_drop]
   rw [show i*sz+sz+(k*sz+j-(i*sz+sz))=k*sz+j by omega]
   exact y3 j x hj
theorem jG {vs xs:List Value}{o:Nat}(h:o+xs.length<=vs.length):(ae vs o xs).length=vs.length:=by
 rw [lD h];simp only [List.length_append,List.length_take,List.length_drop];omega
theorem Row.swap {vs:List Value}{al:List α}(h:Row sz R V vs al){i j:Nat}(hi:i<al.length)(hj:j<al.length)(hs:0<sz){xs ys:List Value}(hx:xs.length=sz)(hy:ys.length=sz)(h1:R V (.agg xs.toArray) (al.getD i d))(h2:R V (.agg ys.toArray) (al.getD j d)) :
  Row sz R V (ae (ae vs (i*sz) ys) (j*sz) xs) (jf d al i j):=by
 have:=h.put hi hs hy h2
 exact this.put (by simpa using hj) hs hx h1
end Go.bK
namespace Go.Proofs.Tryz
open Go.bK Go.fV
section
variable {α:Type} (e:α->α->Bool)
def oC:α->List α->List α
 | _,[]=>[]
 | p,a::r=>if e a p then oC a r else a::oC a r
def fj:List α->List α
 | []=>[]
 | a::r=>a::oC e a r
variable {e}
theorem xV {d:α}:∀{r:List α} {p a:α},oC e p (r++[a])=oC e p r++if e a ((p::r).getD r.length d) then [] else [a]
 | [],p,a=>by simp [oC]
 | b::r,p,a=>by
  have ih:=xV (d:=d) (r:=r) (p:=b) (a:=a)
  have hd:(p::b::r).getD (b::r).length d=(b::r).getD r.length d:=rfl
  rw [hd,List.cons_append]
  simp only [oC]
  split
  ·exact ih
  ·rw [ih];rfl
theorem nf {d:α}{l:List α}{k:Nat}(hk:k+1<l.length):fj e (l.take (k+2))=fj e (l.take (k+1))++if e (l.getD (k+1) d) (l.getD k d) then [] else [l.getD (k+1) d]:=by
 cases l with
 | nil=>simp at hk
 | cons a r=>
  have hk':k<r.length:=by simpa using hk
  have h1:(a::r).take (k+2)=a::(r.take k++[r[k]]):=by
   rw [List.take_succ_cons,List.take_append_getElem hk']
  have h2:(a::r).take (k+1)=a::r.take k:=List.take_succ_cons
  rw [h1,h2]
  simp only [fj]
  rw [xV (d:=d)]
  have e1:(a::r).getD (k+1) d=r[k]:=by rw [List.getD_cons_succ,List.getD_eq_getElem?_getD,List.getElem?_eq_getElem hk'];rfl
  have e2:(a::r.take k).getD (r.take k).length d=(a::r).getD k d:=by
   have hl:(r.take k).length=k:=by rw [List.length_take];omega
   rw [hl]
   cases k with
   | zero=>rfl
   | succ k=>
    rw [List.getD_cons_succ,List.getD_cons_succ,List.getD_eq_getElem?_getD,List.getD_eq_getElem?_getD,List.getElem?_take,if_pos (by omega)]
  rw [e1,e2,List.cons_append]
theorem um:∀{r:List α} {p:α},∀x∈oC e p r,x∈r
 | [],p,x,h=>h
 | b::r,p,x,h=>by
  unfold oC at h
  split at h
  ·exact List.mem_cons_of_mem _ (um x h)
  ·rcases List.mem_cons.1 h with rfl|h
   ·exact List.mem_cons_self ..
   ·exact List.mem_cons_of_mem _ (um x h)
theorem FU {l:List α}:∀x∈fj e l,x∈l:=by
 cases l with
 | nil=>exact fun x h=>h
 | cons a r=>
  intro x h
  rcases List.mem_cons.1 h with rfl|h
  ·exact List.mem_cons_self ..
  ·exact List.mem_cons_of_mem _ (um x h)
theorem AX:∀{r:List α} {p:α},(oC e p r).length<=r.length
 | [],p=>Nat.le_refl _
 | b::r,p=>by
  have:=AX (r:=r) (p:=b)
  unfold oC
  split<;>simp<;>omega
theorem uk {l:List α}:(fj e l).length<=l.length:=by
 cases l with
 | nil=>exact Nat.le_refl _
 | cons a r=>have:=AX (e:=e) (r:=r) (p:=a);simp [fj];omega
theorem Ic {d:α}{l:List α}{k:Nat}(hk:k+1<l.length)(he:e (l.getD (k+1) d) (l.getD k d)=true):(fj e l).length<l.length:=by
 have key:∀j,k+2+j<=l.length->(fj e (l.take (k+2+j))).length<k+2+j:=by
  intro j
  induction j with
  | zero=>
   intro _
   rw [Nat.add_zero,nf (d:=d) hk,he,if_pos rfl,List.append_nil]
   have:=uk (e:=e) (l:=l.take (k+1))
   rw [List.length_take] at this
   omega
  | succ j ih=>
   intro hj
   have:=ih (by omega)
   rw [show k+2+(j+1)=k+1+j+2 by omega,nf (d:=d) (by omega),List.length_append,show k+1+j+1=k+2+j by omega]
   split<;>simp<;>omega
 have:=key (l.length-(k+2)) (by omega)
 rwa [show k+2+(l.length-(k+2))=l.length by omega,List.take_length] at this
theorem AV {l:List α}(h:l.length<=1):fj e l=l:=by
 match l,h with
 | [],_=>rfl
 | [a],_=>rfl
 | _::_::_,h=>simp at h
end
end Go.Proofs.Tryz
namespace Go.bK
open Go.Proofs.Tryz
section
variable {α:Type} {sz:Nat} {R:View->Value->α->Prop} {V:View} {d:α}
theorem Row.H9 {vs zs:List Value}{al:List α}(h:Row sz R V vs al){k:Nat}(hk:k<=al.length)(hs:0<sz):Row sz R V (vs.take (k*sz)++zs) (al.take k):=by
 have hl:=h.fl hs
 refine ⟨fun i hi=>?_⟩
 rw [List.length_take] at hi
 obtain ⟨xs,h1,h2,h3⟩:=h.at_ i (by omega)
 refine ⟨xs,h1,by rw [List.getElem_take];exact h2,fun j x hj=>?_⟩
 have hj':=(List.getElem?_eq_some_iff.1 hj).1
 have h4:(i+1)*sz<=k*sz:=Nat.mul_le_mul_right _ (by omega)
 have h5:k*sz<=al.length*sz:=Nat.mul_le_mul_right _ hk
 rw [Nat.succ_mul] at h4
 rw [List.getElem?_append_left (by rw [List.length_take];omega),List.getElem?_take,if_pos (by omega)]
 exact h3 j x hj
end
end Go.bK
namespace Go.Proofs.Tryz
open Go.bK Go.fV
def RA (V:View)(v:Value)(q:Rat):Prop:=∃p n c p' n' c',v=.agg #[.bool (decide (q.num<0)),.slice p n c,.slice p' n' c']/\RD V p n c (ai q.num.natAbs)/\RD V p' n' c' (ai q.den)
theorem RA.le {V V':View}{v:Value}{q:Rat}(h:RA V v q)(l:V.Le V'):RA V' v q:=by
 obtain ⟨p,n,c,p',n',c',e,h1,h2⟩:=h
 exact ⟨p,n,c,p',n',c',e,h1.le l,h2.le l⟩
theorem ou {V:View}(b:Bool){p q:OA}{n c m e:Nat}{xs ys:List Nat}(hx:RD V p n c xs)(hy:RD V q m e ys)(hm:xs.length<=1099511627776)(hn:ys.length<=1099511627776) :
  ab prog 103 #[.agg #[.bool b,.slice p n c,.slice q m e]] V fun r V'=>RR V' r (mkRat (aY b xs) (val ys)):=by
 refine Dt b p n c q m e V _ fun V1 l1=>(cq b (hx.le l1) (hy.le l1) hm hn).mono ?_
 rintro r V2 l2 h
 obtain ⟨u,v,w,rfl⟩:=h.shape
 exact ⟨_,_,_,rfl,fun V3 l3=>h.le l3⟩
theorem xO {V:View}{v:Value}{q:Rat}(h:RA V v q){k:Nat}(hs:Sz k q)(hk:k<=1099511627776):ab prog 103 #[v] V fun r V'=>RR V' r q:=by
 obtain ⟨p,n,c,p',n',c',rfl,h1,h2⟩:=h
 have q1:=af hs.1
 have q2:=af hs.2
 refine (ou _ h1 h2 (by omega) (by omega)).mono ?_
 rintro r V' _ h
 rw [aH,ag,Rat.mkRat_self] at h
 exact h
theorem mY {V:View}{v w:Value}{x y:Rat}(hx:RR V v x)(hy:RR V w y){k m:Nat}(hk:Sz k x)(hm:Sz m y)(hkm:k+m<1099511627776) :
  ab prog 167 #[v,w] V fun r V'=>RR V' r (x*y):=by
 obtain ⟨r0,r1,r2,rfl⟩:=hx.shape
 obtain ⟨s0,s1,s2,rfl⟩:=hy.shape
 have hxy:x*y=mkRat (x.num*y.num) (x.den*y.den):=Rat.mul_def' x y
 have b1:(x.num*y.num).natAbs<2^(k+m):=by rw [Int.natAbs_mul,Nat.pow_add];exact Nat.mul_lt_mul'' hk.1 hm.1
 have b2:x.den*y.den<2^(k+m):=by rw [Nat.pow_add];exact Nat.mul_lt_mul'' hk.2 hm.2
 have q1:=af hk.1
 have q2:=af hk.2
 have q3:=af hm.1
 have q4:=af hm.2
 have q5:=af b1
 have q6:=af b2
 refine wW r0 r1 r2 s0 s1 s2 V _ ⟨fun hr=>⟨fun _ _=>True,⟨fun hs=>?_,fun _=>⟨(),by (try dsimp only);and_intros<;>trivial,trivial⟩⟩,fun _ V8 l8 _=>⟨rfl,fun V9 Xl=>?_⟩⟩,fun _ V9 l9=>?_⟩
 ·rcases hx with ⟨ex,wx⟩|⟨a,b,p,n,c,p',n',c',ex,-,-,-,-,-,wx⟩
  ·rcases hy with ⟨ey,wy⟩|⟨a,b,p,n,c,p',n',c',ey,-,-,-,-,-,wy⟩
   ·simp only [Value.agg.injEq,Array.mk.injEq,List.cons.injEq,Value.int.injEq,Value.pointer.injEq,true_and,and_true] at ex ey
    obtain ⟨rfl,rfl,rfl⟩:=ex
    obtain ⟨rfl,rfl,rfl⟩:=ey
    obtain ⟨O0,Vn⟩:=wx
    obtain ⟨O1,Vo⟩:=wy
    have dx:=x.den_nz
    have dy:=y.den_nz
    have e1:i64.wrap ((x.den:Int)-1+1)=x.den:=by rw [ar (by omega)];omega
    have e2:i64.wrap ((y.den:Int)-1+1)=y.den:=by rw [ar (by omega)];omega
    rw [e1,e2]
    intro V1 l1
    refine (fg _ _ O0 O1).mono ?_
    rintro r V2 l2 ⟨z1,rfl,hz1⟩
    refine ⟨_,_,rfl,fun V3 l3=>(fg _ _ (by omega) (by omega)).mono ?_⟩
    rintro r V4 l4 ⟨z2,rfl,hz2⟩
    refine ⟨_,_,rfl,fun t1=>⟨fun t2 V5 l5=>?_,fun _=>⟨(),by (try dsimp only);and_intros<;>trivial,trivial⟩⟩,fun _=>⟨(),by (try dsimp only);and_intros<;>trivial,trivial⟩⟩
    have t1:=of_decide_eq_true t1
    have t2:=of_decide_eq_true t2
    rw [hz1 t1,hz2 t2]
    have hd:((x.den:Int)*(y.den:Int))=((x.den*y.den:Nat):Int):=(Int.natCast_mul ..).symm
    rw [hd] at t2 ⊢
    refine (nP _ _ t1 (by rwa [Int.natAbs_natCast] at t2) (Nat.mul_ne_zero dx dy)).mono ?_
    rintro r V6 l6 h6
    rw [←hxy] at h6
    obtain ⟨n,d,p,rfl⟩:=h6.shape
    exact ⟨_,_,_,rfl,fun V7 l7=>h6.le l7⟩
   ·simp only [Value.agg.injEq,Array.mk.injEq,List.cons.injEq,Value.int.injEq,Value.pointer.injEq,true_and,and_true] at ey
    obtain ⟨rfl,rfl,rfl⟩:=ey
    cases hs
  ·simp only [Value.agg.injEq,Array.mk.injEq,List.cons.injEq,Value.int.injEq,Value.pointer.injEq,true_and,and_true] at ex
   obtain ⟨rfl,rfl,rfl⟩:=ex
   cases hr
 ·have l9:=l8.trans Xl
  refine (jm (hx.le l9) hk (by omega)).mono ?_
  rintro r g_ l10 ⟨p1,n1,c1,rfl,g1⟩
  refine ⟨_,_,_,_,rfl,fun gW bI=>(jm (hy.le (l9.trans (l10.trans bI))) hm (by omega)).mono ?_⟩
  rintro r lH cw ⟨p2,n2,c2,rfl,g2⟩
  refine ⟨_,_,_,_,rfl,fun lU cd=>(fY _ _ (g1.le (bI.trans (cw.trans cd))) (g2.le cd) (by omega)).mono ?_⟩
  rintro r po dN JB
  rw [aH,aH] at JB
  obtain ⟨p3,n3,c3,rfl,g3⟩:=JB
  have Jn:=l9.trans (l10.trans (bI.trans (cw.trans (cd.trans dN))))
  refine ⟨_,_,_,_,rfl,fun nF dk=>(eE (hx.le (Jn.trans dk)) hk (by omega)).mono ?_⟩
  rintro r mW dm ⟨p4,n4,c4,rfl,g4⟩
  refine ⟨_,_,_,rfl,fun nN cP=>(eE (hy.le (Jn.trans (dk.trans (dm.trans cP)))) hm (by omega)).mono ?_⟩
  rintro r qI dZ ⟨p5,n5,c5,rfl,g5⟩
  refine ⟨_,_,_,rfl,fun tq dR=>(fN (g4.le (cP.trans (dZ.trans dR))) (g5.le dR) (by omega)).mono ?_⟩
  rintro r An iQ ⟨p6,n6,c6,rfl,g6⟩
  rw [ag,ag] at g6
  refine ⟨_,_,_,rfl,fun tu eh=>(cq _ (g3.le (dk.trans (dm.trans (cP.trans (dZ.trans (dR.trans (iQ.trans eh))))))) (g6.le eh) (by omega) (by omega)).mono ?_⟩
  rintro r wi kq h22
  rw [aH,ag,←hxy] at h22
  obtain ⟨n,d,p,rfl⟩:=h22.shape
  exact ⟨_,_,_,rfl,fun tM fB=>h22.le fB⟩
 ·skip
  refine (jm (hx.le l9) hk (by omega)).mono ?_
  rintro r g_ l10 ⟨p1,n1,c1,rfl,g1⟩
  refine ⟨_,_,_,_,rfl,fun gW bI=>(jm (hy.le (l9.trans (l10.trans bI))) hm (by omega)).mono ?_⟩
  rintro r lH cw ⟨p2,n2,c2,rfl,g2⟩
  refine ⟨_,_,_,_,rfl,fun lU cd=>(fY _ _ (g1.le (bI.trans (cw.trans cd))) (g2.le cd) (by omega)).mono ?_⟩
  rintro r po dN JB
  rw [aH,aH] at JB
  obtain ⟨p3,n3,c3,rfl,g3⟩:=JB
  have Jn:=l9.trans (l10.trans (bI.trans (cw.trans (cd.trans dN))))
  refine ⟨_,_,_,_,rfl,fun nF dk=>(eE (hx.le (Jn.trans dk)) hk (by omega)).mono ?_⟩
  rintro r mW dm ⟨p4,n4,c4,rfl,g4⟩
  refine ⟨_,_,_,rfl,fun nN cP=>(eE (hy.le (Jn.trans (dk.trans (dm.trans cP)))) hm (by omega)).mono ?_⟩
  rintro r qI dZ ⟨p5,n5,c5,rfl,g5⟩
  refine ⟨_,_,_,rfl,fun tq dR=>(fN (g4.le (cP.trans (dZ.trans dR))) (g5.le dR) (by omega)).mono ?_⟩
  rintro r An iQ ⟨p6,n6,c6,rfl,g6⟩
  rw [ag,ag] at g6
  refine ⟨_,_,_,rfl,fun tu eh=>(cq _ (g3.le (dk.trans (dm.trans (cP.trans (dZ.trans (dR.trans (iQ.trans eh))))))) (g6.le eh) (by omega) (by omega)).mono ?_⟩
  rintro r wi kq h22
  rw [aH,ag,←hxy] at h22
  obtain ⟨n,d,p,rfl⟩:=h22.shape
  exact ⟨_,_,_,rfl,fun tM fB=>h22.le fB⟩
theorem inv_neg {q:Rat}(h:q.num<0):(q⁻¹).num=-(q.den:Int)/\(q⁻¹).den=q.num.natAbs:=by
 show (Rat.inv q).num=_/\(Rat.inv q).den=_
 unfold Rat.inv
 rw [dif_pos h]
 exact ⟨rfl,rfl⟩
theorem inv_pos {q:Rat}(h:0<q.num):(q⁻¹).num=(q.den:Int)/\(q⁻¹).den=q.num.natAbs:=by
 show (Rat.inv q).num=_/\(Rat.inv q).den=_
 unfold Rat.inv
 rw [dif_neg (by omega),dif_pos h]
 exact ⟨rfl,rfl⟩
theorem inv_zero {q:Rat}(h:q.num=0):q⁻¹=0:=by
 have:q=0:=Rat.num_eq_zero.1 h
 subst this
 exact Rat.inv_zero
theorem iZ {k:Nat}{q:Rat}(h:Sz k q):Sz k q⁻¹:=by
 rcases Int.lt_trichotomy q.num 0 with h0|h0|h0
 ·obtain ⟨e1,e2⟩:=inv_neg h0
  refine ⟨?_,?_⟩
  ·rw [e1,Int.natAbs_neg];exact h.2
  ·rw [e2];exact h.1
 ·rw [inv_zero h0]
  exact ⟨Nat.two_pow_pos _,Nat.lt_of_le_of_lt (Nat.pos_of_ne_zero q.den_nz) h.2⟩
 ·obtain ⟨e1,e2⟩:=inv_pos h0
  exact ⟨by rw [e1];exact h.2,by rw [e2];exact h.1⟩
theorem H6 {V:View}{v:Value}{q:Rat}(h:RR V v q){k:Nat}(hs:Sz k q)(hk:k<=1099511627776):ab prog 190 #[v] V fun r V'=>RR V' r q⁻¹:=by
 rcases h with ⟨rfl,hw⟩|⟨a,b,p,n,c,p',n',c',rfl,h1,h2,h3,h4,h5,hw⟩
 ·obtain ⟨w1,w2⟩:=hw
  have hd:=q.den_nz
  refine n_ _ _ _ V _ ⟨(fun h0=>nomatch h0),fun _=>⟨fun g V4 l4=>?_,fun g=>⟨fun g2 V5 l5=>?_,fun g2 V6 l6=>?_⟩⟩⟩
  ·have g:=of_decide_eq_true g
   obtain ⟨e1,e2⟩:=inv_neg g
   refine .inl ⟨?_,?_⟩
   ·rw [e1,e2,ar (x:=(q.den:Int)-1+1) (by omega),ar (x:=0-q.num) (by omega),ar (x:=0-((q.den:Int)-1+1)) (by omega),ar (by omega)]
    congr 4
    ·omega
    ·congr 1;omega
   ·unfold Wd;rw [e1,e2,Int.natAbs_neg];exact ⟨w2,w1⟩
  ·have g2:q.num=0:=by simpa using g2
   rw [inv_zero g2]
   exact .inl ⟨rfl,by decide,by decide⟩
  ·have g:¬q.num<0:=of_decide_eq_false g
   have g2:q.num≠0:=by simpa using g2
   obtain ⟨e1,e2⟩:=inv_pos (q:=q) (by omega)
   refine .inl ⟨?_,?_⟩
   ·rw [e1,e2,ar (x:=(q.den:Int)-1+1) (by omega),ar (by omega)]
    congr 4
    ·omega
    ·congr 1;omega
   ·unfold Wd;rw [e1,e2];exact ⟨w2,w1⟩
 ·obtain ⟨rfl,hn⟩:=h4.inv
  have q1:=af hs.1
  have q2:=af hs.2
  refine n_ _ _ _ V _ ⟨fun _=>⟨rfl,rfl,rfl,decide (q.num<0),⟨a.add 0,by simp [ah,Addr.add],h1⟩,rfl,rfl,p',n',c',⟨a.add 2,rfl,h3⟩,rfl,rfl,rfl,p,n,c,⟨a.add 1,by simp [ah,Addr.add],h2⟩,fun V1 l1=>(cq _ (h5.le l1) (hn.le l1) (by omega) (by omega)).mono ?_⟩,fun h0=>nomatch h0⟩
  rintro r V2 l2 h
  have e:mkRat (aY (decide (q.num<0)) (ai q.den)) (val (ai q.num.natAbs))=q⁻¹:=by
   rw [ag]
   have hv:aY (decide (q.num<0)) (ai q.den)=if q.num<0 then -(q.den:Int) else (q.den:Int):=by
    unfold aY
    rw [ag]
    by_cases g:q.num<0<;>simp [g]
   rw [hv]
   rcases Int.lt_trichotomy q.num 0 with h0|h0|h0
   ·obtain ⟨e1,e2⟩:=inv_neg h0
    rw [if_pos h0,←e1,←e2,Rat.mkRat_self]
   ·rw [inv_zero h0,h0];simp
   ·obtain ⟨e1,e2⟩:=inv_pos h0
    rw [if_neg (by omega),←e1,←e2,Rat.mkRat_self]
  rw [e] at h
  obtain ⟨u,v,w,rfl⟩:=h.shape
  exact ⟨_,_,_,rfl,fun V3 l3=>h.le l3⟩
def lS (V:View)(v:Value)(x y:Rat):Prop:=∃(x1 x2:Int)(p:OA)(y1 y2:Int)(q:OA),v=.agg #[.int .i64 x1,.int .i64 x2,.pointer p,.int .i64 y1,.int .i64 y2,.pointer q] /\
 RR V (.agg #[.int .i64 x1,.int .i64 x2,.pointer p]) x/\RR V (.agg #[.int .i64 y1,.int .i64 y2,.pointer q]) y
theorem lS.le {V V':View}{v:Value}{x y:Rat}(h:lS V v x y)(l:V.Le V'):lS V' v x y:=by
 obtain ⟨x1,x2,p,y1,y2,q,e,h1,h2⟩:=h
 exact ⟨x1,x2,p,y1,y2,q,e,h1.le l,h2.le l⟩
theorem yU {V:View}{p:Value}{cL cK:Rat}{q:Value}{jC jD:Rat}(hp:lS V p cL cK)(hq:lS V q jC jD){k:Nat}(dv:Sz k cL)(cY:Sz k cK)(jT:Sz k jC)(jU:Sz k jD)(hk:2*k+1<274877906944) :
  ab prog 148 #[p,q] V fun r V'=>lS V' r ((cL)+(jC)) ((cK)+(jD)):=by
 have hp0:=hp
 obtain ⟨p0,p1,p2,p3,p4,p5,rfl,pO,pP⟩:=hp
 have hq0:=hq
 obtain ⟨q0,q1,q2,q3,q4,q5,rfl,CY,CZ⟩:=hq
 refine xd p0 p1 p2 p3 p4 p5 q0 q1 q2 q3 q4 q5 V _ fun V1 l1=>(pC (pO.le (l1)) (CY.le (l1)) dv jT (by omega)).mono ?_
 rintro r V2 l2 g1
 have g10:=g1
 obtain ⟨J5,J6,J7,rfl⟩:=g1.shape
 have bz:Sz (2*k+1) ((cL)+(jC)):=Sz.mono (Sz.add dv jT) (by omega)
 refine ⟨_,_,_,rfl,fun V3 l3=>(pC (pP.le (l1.trans (l2.trans (l3)))) (CZ.le (l1.trans (l2.trans (l3)))) cY jU (by omega)).mono ?_⟩
 rintro r V4 l4 g2
 have g20:=g2
 obtain ⟨J8,J9,J_,rfl⟩:=g2.shape
 have bO:Sz (2*k+1) ((cK)+(jD)):=Sz.mono (Sz.add cY jU) (by omega)
 exact ⟨_,_,_,rfl,fun V5 l5=>⟨_,_,_,_,_,_,rfl,(g10.le (l3.trans (l4.trans (l5)))),(g20.le (l5))⟩⟩
theorem jc {cL cK jC jD:Rat}{k:Nat}(dv:Sz k cL)(cY:Sz k cK)(jT:Sz k jC)(jU:Sz k jD):Sz (2*k+1) ((cL)+(jC)):=by
 have bz:Sz (2*k+1) ((cL)+(jC)):=Sz.mono (Sz.add dv jT) (by omega)
 have bO:Sz (2*k+1) ((cK)+(jD)):=Sz.mono (Sz.add cY jU) (by omega)
 exact Sz.mono bz (by omega)
theorem jd {cL cK jC jD:Rat}{k:Nat}(dv:Sz k cL)(cY:Sz k cK)(jT:Sz k jC)(jU:Sz k jD):Sz (2*k+1) ((cK)+(jD)):=by
 have bz:Sz (2*k+1) ((cL)+(jC)):=Sz.mono (Sz.add dv jT) (by omega)
 have bO:Sz (2*k+1) ((cK)+(jD)):=Sz.mono (Sz.add cY jU) (by omega)
 exact Sz.mono bO (by omega)
theorem uf {V:View}{p:Value}{cL cK:Rat}{c:Value}{Co:Rat}(hp:lS V p cL cK)(hc:RR V c Co){k:Nat}(dv:Sz k cL)(cY:Sz k cK)(wS:Sz k Co)(hk:2*k+1<274877906944) :
  ab prog 189 #[p,c] V fun r V'=>lS V' r ((cL)*(Co)) ((cK)*(Co)):=by
 have hp0:=hp
 obtain ⟨p0,p1,p2,p3,p4,p5,rfl,pO,pP⟩:=hp
 have hc0:=hc
 obtain ⟨c0,c1,c2,rfl⟩:=hc.shape
 refine sR p0 p1 p2 p3 p4 p5 c0 c1 c2 V _ fun V1 l1=>(mY (pO.le (l1)) (hc0.le (l1)) dv wS (by omega)).mono ?_
 rintro r V2 l2 g1
 have g10:=g1
 obtain ⟨J5,J6,J7,rfl⟩:=g1.shape
 have bz:Sz (2*k+1) ((cL)*(Co)):=Sz.mono (Sz.mul dv wS) (by omega)
 refine ⟨_,_,_,rfl,fun V3 l3=>(mY (pP.le (l1.trans (l2.trans (l3)))) (hc0.le (l1.trans (l2.trans (l3)))) cY wS (by omega)).mono ?_⟩
 rintro r V4 l4 g2
 have g20:=g2
 obtain ⟨J8,J9,J_,rfl⟩:=g2.shape
 have bO:Sz (2*k+1) ((cK)*(Co)):=Sz.mono (Sz.mul cY wS) (by omega)
 exact ⟨_,_,_,rfl,fun V5 l5=>⟨_,_,_,_,_,_,rfl,(g10.le (l3.trans (l4.trans (l5)))),(g20.le (l5))⟩⟩
theorem dX {cL cK Co:Rat}{k:Nat}(dv:Sz k cL)(cY:Sz k cK)(wS:Sz k Co):Sz (2*k+1) ((cL)*(Co)):=by
 have bz:Sz (2*k+1) ((cL)*(Co)):=Sz.mono (Sz.mul dv wS) (by omega)
 have bO:Sz (2*k+1) ((cK)*(Co)):=Sz.mono (Sz.mul cY wS) (by omega)
 exact Sz.mono bz (by omega)
theorem dY {cL cK Co:Rat}{k:Nat}(dv:Sz k cL)(cY:Sz k cK)(wS:Sz k Co):Sz (2*k+1) ((cK)*(Co)):=by
 have bz:Sz (2*k+1) ((cL)*(Co)):=Sz.mono (Sz.mul dv wS) (by omega)
 have bO:Sz (2*k+1) ((cK)*(Co)):=Sz.mono (Sz.mul cY wS) (by omega)
 exact Sz.mono bO (by omega)
theorem wz {V:View}{p:Value}{cL cK:Rat}(hp:lS V p cL cK){k:Nat}(dv:Sz k cL)(cY:Sz k cK)(hk:1*k+1<274877906944) :
  ab prog 149 #[p] V fun r V'=>lS V' r (-(cK)) (cL):=by
 have hp0:=hp
 obtain ⟨p0,p1,p2,p3,p4,p5,rfl,pO,pP⟩:=hp
 refine vH p0 p1 p2 p3 p4 p5 V _ fun V1 l1=>(pD (pP.le (l1)) cY (by omega)).mono ?_
 rintro r V2 l2 g1
 have g10:=g1
 obtain ⟨J5,J6,J7,rfl⟩:=g1.shape
 have bz:Sz (1*k+0) (-(cK)):=Sz.mono (Sz.neg cY) (by omega)
 exact ⟨_,_,_,rfl,fun V3 l3=>⟨_,_,_,_,_,_,rfl,(g10.le (l3)),(pO.le (l1.trans (l2.trans (l3))))⟩⟩
theorem pF {V:View}{p:Value}{cL cK:Rat}{q:Value}{jC jD:Rat}(hp:lS V p cL cK)(hq:lS V q jC jD){k:Nat}(dv:Sz k cL)(cY:Sz k cK)(jT:Sz k jC)(jU:Sz k jD)(hk:4*k+3<274877906944) :
  ab prog 127 #[p,q] V fun r V'=>RR V' r (((cL)*(jC))+((cK)*(jD))):=by
 have hp0:=hp
 obtain ⟨p0,p1,p2,p3,p4,p5,rfl,pO,pP⟩:=hp
 have hq0:=hq
 obtain ⟨q0,q1,q2,q3,q4,q5,rfl,CY,CZ⟩:=hq
 refine xe p0 p1 p2 p3 p4 p5 q0 q1 q2 q3 q4 q5 V _ fun V1 l1=>(mY (pO.le (l1)) (CY.le (l1)) dv jT (by omega)).mono ?_
 rintro r V2 l2 g1
 have g10:=g1
 obtain ⟨J5,J6,J7,rfl⟩:=g1.shape
 have bz:Sz (2*k+1) ((cL)*(jC)):=Sz.mono (Sz.mul dv jT) (by omega)
 refine ⟨_,_,_,rfl,fun V3 l3=>(mY (pP.le (l1.trans (l2.trans (l3)))) (CZ.le (l1.trans (l2.trans (l3)))) cY jU (by omega)).mono ?_⟩
 rintro r V4 l4 g2
 have g20:=g2
 obtain ⟨J8,J9,J_,rfl⟩:=g2.shape
 have bO:Sz (2*k+1) ((cK)*(jD)):=Sz.mono (Sz.mul cY jU) (by omega)
 refine ⟨_,_,_,rfl,fun V5 l5=>(pC (g10.le (l3.trans (l4.trans (l5)))) (g20.le (l5)) bz bO (by omega)).mono ?_⟩
 rintro r V6 l6 g3
 have A6:=g3
 obtain ⟨Mh,Mi,Mj,rfl⟩:=g3.shape
 have dC:Sz (4*k+3) (((cL)*(jC))+((cK)*(jD))):=Sz.mono (Sz.add bz bO) (by omega)
 exact ⟨_,_,_,rfl,fun V7 l7=>(A6.le (l7))⟩
theorem dK {cL cK jC jD:Rat}{k:Nat}(dv:Sz k cL)(cY:Sz k cK)(jT:Sz k jC)(jU:Sz k jD):Sz (4*k+3) (((cL)*(jC))+((cK)*(jD))):=by
 have bz:Sz (2*k+1) ((cL)*(jC)):=Sz.mono (Sz.mul dv jT) (by omega)
 have bO:Sz (2*k+1) ((cK)*(jD)):=Sz.mono (Sz.mul cY jU) (by omega)
 have dC:Sz (4*k+3) (((cL)*(jC))+((cK)*(jD))):=Sz.mono (Sz.add bz bO) (by omega)
 exact Sz.mono dC (by omega)
theorem mf {V:View}{p:Value}{cL cK:Rat}{q:Value}{jC jD:Rat}(hp:lS V p cL cK)(hq:lS V q jC jD){k:Nat}(dv:Sz k cL)(cY:Sz k cK)(jT:Sz k jC)(jU:Sz k jD)(hk:4*k+3<274877906944) :
  ab prog 147 #[p,q] V fun r V'=>RR V' r (((cL)*(jD))-((cK)*(jC))):=by
 have hp0:=hp
 obtain ⟨p0,p1,p2,p3,p4,p5,rfl,pO,pP⟩:=hp
 have hq0:=hq
 obtain ⟨q0,q1,q2,q3,q4,q5,rfl,CY,CZ⟩:=hq
 refine sQ p0 p1 p2 p3 p4 p5 q0 q1 q2 q3 q4 q5 V _ fun V1 l1=>(mY (pO.le (l1)) (CZ.le (l1)) dv jU (by omega)).mono ?_
 rintro r V2 l2 g1
 have g10:=g1
 obtain ⟨J5,J6,J7,rfl⟩:=g1.shape
 have bz:Sz (2*k+1) ((cL)*(jD)):=Sz.mono (Sz.mul dv jU) (by omega)
 refine ⟨_,_,_,rfl,fun V3 l3=>(mY (pP.le (l1.trans (l2.trans (l3)))) (CY.le (l1.trans (l2.trans (l3)))) cY jT (by omega)).mono ?_⟩
 rintro r V4 l4 g2
 have g20:=g2
 obtain ⟨J8,J9,J_,rfl⟩:=g2.shape
 have bO:Sz (2*k+1) ((cK)*(jC)):=Sz.mono (Sz.mul cY jT) (by omega)
 refine ⟨_,_,_,rfl,fun V5 l5=>(DU (g10.le (l3.trans (l4.trans (l5)))) (g20.le (l5)) bz bO (by omega)).mono ?_⟩
 rintro r V6 l6 g3
 have A6:=g3
 obtain ⟨Mh,Mi,Mj,rfl⟩:=g3.shape
 have dC:Sz (4*k+3) (((cL)*(jD))-((cK)*(jC))):=Sz.mono (Sz.sub bz bO) (by omega)
 exact ⟨_,_,_,rfl,fun V7 l7=>(A6.le (l7))⟩
theorem kH {cL cK jC jD:Rat}{k:Nat}(dv:Sz k cL)(cY:Sz k cK)(jT:Sz k jC)(jU:Sz k jD):Sz (4*k+3) (((cL)*(jD))-((cK)*(jC))):=by
 have bz:Sz (2*k+1) ((cL)*(jD)):=Sz.mono (Sz.mul dv jU) (by omega)
 have bO:Sz (2*k+1) ((cK)*(jC)):=Sz.mono (Sz.mul cY jT) (by omega)
 have dC:Sz (4*k+3) (((cL)*(jD))-((cK)*(jC))):=Sz.mono (Sz.sub bz bO) (by omega)
 exact Sz.mono dC (by omega)
theorem yT {V:View}{l:Value}{aK l_1 bW:Rat}(hl:Cn V l aK l_1 bW){k:Nat}(bF:Sz k aK)(bH:Sz k l_1)(bJ:Sz k bW)(hk:1*k+1<274877906944) :
  ab prog 154 #[l] V fun r V'=>lS V' r (l_1) (-(aK)):=by
 have hl0:=hl
 obtain ⟨l0,l1,l2,l3,l4,l5,l6,l7,l8,rfl,uE,uF,zg⟩:=hl
 refine w_ l0 l1 l2 l3 l4 l5 l6 l7 l8 V _ fun V1 l1=>(pD (uE.le (l1)) bF (by omega)).mono ?_
 rintro r V2 l2 g1
 have g10:=g1
 obtain ⟨J5,J6,J7,rfl⟩:=g1.shape
 have bz:Sz (1*k+0) (-(aK)):=Sz.mono (Sz.neg bF) (by omega)
 exact ⟨_,_,_,rfl,fun V3 l3=>⟨_,_,_,_,_,_,rfl,(uF.le (l1.trans (l2.trans (l3)))),(g10.le (l3))⟩⟩
theorem mT {aK l_1 bW:Rat}{k:Nat}(bF:Sz k aK)(bH:Sz k l_1)(bJ:Sz k bW):Sz (1*k+0) (l_1):=by
 have bz:Sz (1*k+0) (-(aK)):=Sz.mono (Sz.neg bF) (by omega)
 exact Sz.mono bH (by omega)
theorem mU {aK l_1 bW:Rat}{k:Nat}(bF:Sz k aK)(bH:Sz k l_1)(bJ:Sz k bW):Sz (1*k+0) (-(aK)):=by
 have bz:Sz (1*k+0) (-(aK)):=Sz.mono (Sz.neg bF) (by omega)
 exact Sz.mono bz (by omega)
theorem lJ {V:View}{l:Value}{aK l_1 bW:Rat}(hl:Cn V l aK l_1 bW){k:Nat}(bF:Sz k aK)(bH:Sz k l_1)(bJ:Sz k bW)(hk:1*k+1<274877906944) :
  ab prog 126 #[l] V fun r V'=>lS V' r (aK) (l_1):=by
 have hl0:=hl
 obtain ⟨l0,l1,l2,l3,l4,l5,l6,l7,l8,rfl,uE,uF,zg⟩:=hl
 exact rD l0 l1 l2 l3 l4 l5 l6 l7 l8 V _ fun V1 l1=>⟨_,_,_,_,_,_,rfl,(uE.le (l1)),(uF.le (l1))⟩
theorem dz {aK l_1 bW:Rat}{k:Nat}(bF:Sz k aK)(bH:Sz k l_1)(bJ:Sz k bW):Sz (1*k+0) (aK):=by
 exact Sz.mono bF (by omega)
theorem dA {aK l_1 bW:Rat}{k:Nat}(bF:Sz k aK)(bH:Sz k l_1)(bJ:Sz k bW):Sz (1*k+0) (l_1):=by
 exact Sz.mono bH (by omega)
theorem ue {V:View}{l:Value}{aK l_1 bW:Rat}{p:Value}{cL cK:Rat}(hl:Cn V l aK l_1 bW)(hp:lS V p cL cK){k:Nat}(bF:Sz k aK)(bH:Sz k l_1)(bJ:Sz k bW)(dv:Sz k cL)(cY:Sz k cK)(hk:5*k+4<274877906944) :
  ab prog 166 #[l,p] V fun r V'=>RR V' r ((((aK)*(cL))+((l_1)*(cK)))+(bW)):=by
 have hl0:=hl
 obtain ⟨l0,l1,l2,l3,l4,l5,l6,l7,l8,rfl,uE,uF,zg⟩:=hl
 have hp0:=hp
 obtain ⟨p0,p1,p2,p3,p4,p5,rfl,pO,pP⟩:=hp
 refine sP l0 l1 l2 l3 l4 l5 l6 l7 l8 p0 p1 p2 p3 p4 p5 V _ fun V1 l1=>(lJ (hl0.le (l1)) (Sz.mono bF (by omega):Sz (1*k+0) _) (Sz.mono bH (by omega):Sz (1*k+0) _) (Sz.mono bJ (by omega):Sz (1*k+0) _) (by omega)).mono ?_
 rintro r V2 l2 g1
 have g10:=g1
 obtain ⟨OS,OT,OW,OX,OY,OZ,rfl,MU,MV⟩:=g1
 have bz:Sz (1*k+0) (aK):=Sz.mono ((dz (Sz.mono bF (by omega):Sz (1*k+0) _) (Sz.mono bH (by omega):Sz (1*k+0) _) (Sz.mono bJ (by omega):Sz (1*k+0) _))) (by omega)
 have dW:Sz (1*k+0) (l_1):=Sz.mono ((dA (Sz.mono bF (by omega):Sz (1*k+0) _) (Sz.mono bH (by omega):Sz (1*k+0) _) (Sz.mono bJ (by omega):Sz (1*k+0) _))) (by omega)
 refine ⟨_,_,_,_,_,_,rfl,fun V3 l3=>(pF (g10.le (l3)) (hp0.le (l1.trans (l2.trans (l3)))) (Sz.mono bz (by omega):Sz (1*k+0) _) (Sz.mono dW (by omega):Sz (1*k+0) _) (Sz.mono dv (by omega):Sz (1*k+0) _) (Sz.mono cY (by omega):Sz (1*k+0) _) (by omega)).mono ?_⟩
 rintro r V4 l4 g2
 have g20:=g2
 obtain ⟨J8,J9,J_,rfl⟩:=g2.shape
 have bO:Sz (4*k+3) (((aK)*(cL))+((l_1)*(cK))):=Sz.mono ((dK (Sz.mono bz (by omega):Sz (1*k+0) _) (Sz.mono dW (by omega):Sz (1*k+0) _) (Sz.mono dv (by omega):Sz (1*k+0) _) (Sz.mono cY (by omega):Sz (1*k+0) _))) (by omega)
 refine ⟨_,_,_,rfl,fun V5 l5=>(pC (g20.le (l5)) (zg.le (l1.trans (l2.trans (l3.trans (l4.trans (l5)))))) bO bJ (by omega)).mono ?_⟩
 rintro r V6 l6 g3
 have A6:=g3
 obtain ⟨Mh,Mi,Mj,rfl⟩:=g3.shape
 have dC:Sz (5*k+4) ((((aK)*(cL))+((l_1)*(cK)))+(bW)):=Sz.mono (Sz.add bO bJ) (by omega)
 exact ⟨_,_,_,rfl,fun V7 l7=>(A6.le (l7))⟩
theorem rJ {aK l_1 bW cL cK:Rat}{k:Nat}(bF:Sz k aK)(bH:Sz k l_1)(bJ:Sz k bW)(dv:Sz k cL)(cY:Sz k cK):Sz (5*k+4) ((((aK)*(cL))+((l_1)*(cK)))+(bW)):=by
 have bz:Sz (1*k+0) (aK):=Sz.mono ((dz (Sz.mono bF (by omega):Sz (1*k+0) _) (Sz.mono bH (by omega):Sz (1*k+0) _) (Sz.mono bJ (by omega):Sz (1*k+0) _))) (by omega)
 have dW:Sz (1*k+0) (l_1):=Sz.mono ((dA (Sz.mono bF (by omega):Sz (1*k+0) _) (Sz.mono bH (by omega):Sz (1*k+0) _) (Sz.mono bJ (by omega):Sz (1*k+0) _))) (by omega)
 have bO:Sz (4*k+3) (((aK)*(cL))+((l_1)*(cK))):=Sz.mono ((dK (Sz.mono bz (by omega):Sz (1*k+0) _) (Sz.mono dW (by omega):Sz (1*k+0) _) (Sz.mono dv (by omega):Sz (1*k+0) _) (Sz.mono cY (by omega):Sz (1*k+0) _))) (by omega)
 have dC:Sz (5*k+4) ((((aK)*(cL))+((l_1)*(cK)))+(bW)):=Sz.mono (Sz.add bO bJ) (by omega)
 exact Sz.mono dC (by omega)
theorem lP {aK l_1 bW:Rat}{k:Nat}(bF:Sz k aK)(bH:Sz k l_1)(bJ:Sz k bW):Sz (10*k+9) ((aK)*(((-(bW))*(((aK)*(aK))+((l_1)*(l_1)))⁻¹))):=by
 have bz:Sz (1*k+0) (aK):=Sz.mono ((dz (Sz.mono bF (by omega):Sz (1*k+0) _) (Sz.mono bH (by omega):Sz (1*k+0) _) (Sz.mono bJ (by omega):Sz (1*k+0) _))) (by omega)
 have dW:Sz (1*k+0) (l_1):=Sz.mono ((dA (Sz.mono bF (by omega):Sz (1*k+0) _) (Sz.mono bH (by omega):Sz (1*k+0) _) (Sz.mono bJ (by omega):Sz (1*k+0) _))) (by omega)
 have bO:Sz (1*k+0) (-(bW)):=Sz.mono (Sz.neg bJ) (by omega)
 have dC:Sz (4*k+3) (((aK)*(aK))+((l_1)*(l_1))):=Sz.mono ((dK (Sz.mono bz (by omega):Sz (1*k+0) _) (Sz.mono dW (by omega):Sz (1*k+0) _) (Sz.mono bz (by omega):Sz (1*k+0) _) (Sz.mono dW (by omega):Sz (1*k+0) _))) (by omega)
 have mb:Sz (5*k+4) ((-(bW))*(((aK)*(aK))+((l_1)*(l_1)))⁻¹):=Sz.mono (Sz.mul bO (iZ dC)) (by omega)
 have nM:Sz (10*k+9) ((aK)*(((-(bW))*(((aK)*(aK))+((l_1)*(l_1)))⁻¹))):=Sz.mono ((dX (Sz.mono bz (by omega):Sz (5*k+4) _) (Sz.mono dW (by omega):Sz (5*k+4) _) (Sz.mono mb (by omega):Sz (5*k+4) _))) (by omega)
 have O_:Sz (10*k+9) ((l_1)*(((-(bW))*(((aK)*(aK))+((l_1)*(l_1)))⁻¹))):=Sz.mono ((dY (Sz.mono bz (by omega):Sz (5*k+4) _) (Sz.mono dW (by omega):Sz (5*k+4) _) (Sz.mono mb (by omega):Sz (5*k+4) _))) (by omega)
 exact Sz.mono nM (by omega)
theorem lQ {aK l_1 bW:Rat}{k:Nat}(bF:Sz k aK)(bH:Sz k l_1)(bJ:Sz k bW):Sz (10*k+9) ((l_1)*(((-(bW))*(((aK)*(aK))+((l_1)*(l_1)))⁻¹))):=by
 have bz:Sz (1*k+0) (aK):=Sz.mono ((dz (Sz.mono bF (by omega):Sz (1*k+0) _) (Sz.mono bH (by omega):Sz (1*k+0) _) (Sz.mono bJ (by omega):Sz (1*k+0) _))) (by omega)
 have dW:Sz (1*k+0) (l_1):=Sz.mono ((dA (Sz.mono bF (by omega):Sz (1*k+0) _) (Sz.mono bH (by omega):Sz (1*k+0) _) (Sz.mono bJ (by omega):Sz (1*k+0) _))) (by omega)
 have bO:Sz (1*k+0) (-(bW)):=Sz.mono (Sz.neg bJ) (by omega)
 have dC:Sz (4*k+3) (((aK)*(aK))+((l_1)*(l_1))):=Sz.mono ((dK (Sz.mono bz (by omega):Sz (1*k+0) _) (Sz.mono dW (by omega):Sz (1*k+0) _) (Sz.mono bz (by omega):Sz (1*k+0) _) (Sz.mono dW (by omega):Sz (1*k+0) _))) (by omega)
 have mb:Sz (5*k+4) ((-(bW))*(((aK)*(aK))+((l_1)*(l_1)))⁻¹):=Sz.mono (Sz.mul bO (iZ dC)) (by omega)
 have nM:Sz (10*k+9) ((aK)*(((-(bW))*(((aK)*(aK))+((l_1)*(l_1)))⁻¹))):=Sz.mono ((dX (Sz.mono bz (by omega):Sz (5*k+4) _) (Sz.mono dW (by omega):Sz (5*k+4) _) (Sz.mono mb (by omega):Sz (5*k+4) _))) (by omega)
 have O_:Sz (10*k+9) ((l_1)*(((-(bW))*(((aK)*(aK))+((l_1)*(l_1)))⁻¹))):=Sz.mono ((dY (Sz.mono bz (by omega):Sz (5*k+4) _) (Sz.mono dW (by omega):Sz (5*k+4) _) (Sz.mono mb (by omega):Sz (5*k+4) _))) (by omega)
 exact Sz.mono O_ (by omega)
theorem xw {aK l_1 bW yB:Rat}{k:Nat}(bF:Sz k aK)(bH:Sz k l_1)(bJ:Sz k bW)(zO:Sz k yB):Sz (20*k+19) ((((aK)*(((-(bW))*(((aK)*(aK))+((l_1)*(l_1)))⁻¹))))+(((l_1)*(yB)))):=by
 have bz:Sz (10*k+9) ((aK)*(((-(bW))*(((aK)*(aK))+((l_1)*(l_1)))⁻¹))):=Sz.mono ((lP (Sz.mono bF (by omega):Sz (1*k+0) _) (Sz.mono bH (by omega):Sz (1*k+0) _) (Sz.mono bJ (by omega):Sz (1*k+0) _))) (by omega)
 have dW:Sz (10*k+9) ((l_1)*(((-(bW))*(((aK)*(aK))+((l_1)*(l_1)))⁻¹))):=Sz.mono ((lQ (Sz.mono bF (by omega):Sz (1*k+0) _) (Sz.mono bH (by omega):Sz (1*k+0) _) (Sz.mono bJ (by omega):Sz (1*k+0) _))) (by omega)
 have bO:Sz (1*k+0) (l_1):=Sz.mono ((mT (Sz.mono bF (by omega):Sz (1*k+0) _) (Sz.mono bH (by omega):Sz (1*k+0) _) (Sz.mono bJ (by omega):Sz (1*k+0) _))) (by omega)
 have Cm:Sz (1*k+0) (-(aK)):=Sz.mono ((mU (Sz.mono bF (by omega):Sz (1*k+0) _) (Sz.mono bH (by omega):Sz (1*k+0) _) (Sz.mono bJ (by omega):Sz (1*k+0) _))) (by omega)
 have dC:Sz (2*k+1) ((l_1)*(yB)):=Sz.mono ((dX (Sz.mono bO (by omega):Sz (1*k+0) _) (Sz.mono Cm (by omega):Sz (1*k+0) _) (Sz.mono zO (by omega):Sz (1*k+0) _))) (by omega)
 have Fk:Sz (2*k+1) (((-(aK)))*(yB)):=Sz.mono ((dY (Sz.mono bO (by omega):Sz (1*k+0) _) (Sz.mono Cm (by omega):Sz (1*k+0) _) (Sz.mono zO (by omega):Sz (1*k+0) _))) (by omega)
 have mb:Sz (20*k+19) ((((aK)*(((-(bW))*(((aK)*(aK))+((l_1)*(l_1)))⁻¹))))+(((l_1)*(yB)))):=Sz.mono ((jc (Sz.mono bz (by omega):Sz (10*k+9) _) (Sz.mono dW (by omega):Sz (10*k+9) _) (Sz.mono dC (by omega):Sz (10*k+9) _) (Sz.mono Fk (by omega):Sz (10*k+9) _))) (by omega)
 have O9:Sz (20*k+19) ((((l_1)*(((-(bW))*(((aK)*(aK))+((l_1)*(l_1)))⁻¹))))+((((-(aK)))*(yB)))):=Sz.mono ((jd (Sz.mono bz (by omega):Sz (10*k+9) _) (Sz.mono dW (by omega):Sz (10*k+9) _) (Sz.mono dC (by omega):Sz (10*k+9) _) (Sz.mono Fk (by omega):Sz (10*k+9) _))) (by omega)
 exact Sz.mono mb (by omega)
theorem xy {aK l_1 bW yB:Rat}{k:Nat}(bF:Sz k aK)(bH:Sz k l_1)(bJ:Sz k bW)(zO:Sz k yB):Sz (20*k+19) ((((l_1)*(((-(bW))*(((aK)*(aK))+((l_1)*(l_1)))⁻¹))))+((((-(aK)))*(yB)))):=by
 have bz:Sz (10*k+9) ((aK)*(((-(bW))*(((aK)*(aK))+((l_1)*(l_1)))⁻¹))):=Sz.mono ((lP (Sz.mono bF (by omega):Sz (1*k+0) _) (Sz.mono bH (by omega):Sz (1*k+0) _) (Sz.mono bJ (by omega):Sz (1*k+0) _))) (by omega)
 have dW:Sz (10*k+9) ((l_1)*(((-(bW))*(((aK)*(aK))+((l_1)*(l_1)))⁻¹))):=Sz.mono ((lQ (Sz.mono bF (by omega):Sz (1*k+0) _) (Sz.mono bH (by omega):Sz (1*k+0) _) (Sz.mono bJ (by omega):Sz (1*k+0) _))) (by omega)
 have bO:Sz (1*k+0) (l_1):=Sz.mono ((mT (Sz.mono bF (by omega):Sz (1*k+0) _) (Sz.mono bH (by omega):Sz (1*k+0) _) (Sz.mono bJ (by omega):Sz (1*k+0) _))) (by omega)
 have Cm:Sz (1*k+0) (-(aK)):=Sz.mono ((mU (Sz.mono bF (by omega):Sz (1*k+0) _) (Sz.mono bH (by omega):Sz (1*k+0) _) (Sz.mono bJ (by omega):Sz (1*k+0) _))) (by omega)
 have dC:Sz (2*k+1) ((l_1)*(yB)):=Sz.mono ((dX (Sz.mono bO (by omega):Sz (1*k+0) _) (Sz.mono Cm (by omega):Sz (1*k+0) _) (Sz.mono zO (by omega):Sz (1*k+0) _))) (by omega)
 have Fk:Sz (2*k+1) (((-(aK)))*(yB)):=Sz.mono ((dY (Sz.mono bO (by omega):Sz (1*k+0) _) (Sz.mono Cm (by omega):Sz (1*k+0) _) (Sz.mono zO (by omega):Sz (1*k+0) _))) (by omega)
 have mb:Sz (20*k+19) ((((aK)*(((-(bW))*(((aK)*(aK))+((l_1)*(l_1)))⁻¹))))+(((l_1)*(yB)))):=Sz.mono ((jc (Sz.mono bz (by omega):Sz (10*k+9) _) (Sz.mono dW (by omega):Sz (10*k+9) _) (Sz.mono dC (by omega):Sz (10*k+9) _) (Sz.mono Fk (by omega):Sz (10*k+9) _))) (by omega)
 have O9:Sz (20*k+19) ((((l_1)*(((-(bW))*(((aK)*(aK))+((l_1)*(l_1)))⁻¹))))+((((-(aK)))*(yB)))):=Sz.mono ((jd (Sz.mono bz (by omega):Sz (10*k+9) _) (Sz.mono dW (by omega):Sz (10*k+9) _) (Sz.mono dC (by omega):Sz (10*k+9) _) (Sz.mono Fk (by omega):Sz (10*k+9) _))) (by omega)
 exact Sz.mono O9 (by omega)
theorem oz {V:View}{v w:Value}{x y:Rat}(hx:RQ V v x)(hy:RQ V w y)(hy0:y.num≠0){k m:Nat}(hk:Sz k x)(hm:Sz m y)(hkm:k+m<274877906944) :
  ab prog 67 #[v,w] V fun r V'=>RQ V' r (x*y⁻¹):=by
 obtain ⟨p,n,c,p',n',c',rfl,hx1,hx2⟩:=hx
 obtain ⟨q,i,e,q',i',e',rfl,hy1,hy2⟩:=hy
 have Rq:=iZ hm
 have q1:=af hk.1
 have q2:=af hk.2
 have q3:=af hm.1
 have q4:=af Rq.1
 have iv:(y⁻¹).num=(if decide (y.num<0)=true then -((y.den:Nat):Int) else ((y.den:Nat):Int))/\(y⁻¹).den=y.num.natAbs:=by
  rcases Int.lt_or_gt_of_ne hy0 with h|h
  ·rw [if_pos (decide_eq_true h)];exact inv_neg h
  ·rw [if_neg (fun hh=>by have:=of_decide_eq_true hh;omega)];exact inv_pos h
 have hxy:x*y⁻¹=mkRat (x.num*(y⁻¹).num) (x.den*(y⁻¹).den):=Rat.mul_def' x y⁻¹
 have b1:(x.num*(y⁻¹).num).natAbs<2^(k+m):=by rw [Int.natAbs_mul];exact bA hk.1 Rq.1
 have b2:x.den*(y⁻¹).den<2^(k+m):=bA hk.2 Rq.2
 refine Cb _ p n c p' n' c' _ q i e q' i' e' V _ fun V1 l1=>(bY y _ (hy2.le l1)).mono ?_
 rintro r V2 l2 ⟨p1,n1,c1,rfl,g1⟩
 refine ⟨_,_,_,rfl,fun V3 l3=>(cx _ (g1.le l3)).mono ?_⟩
 rw [←iv.1]
 rintro r V4 l4 ⟨p4,n4,c4,rfl,g4⟩
 refine ⟨_,_,_,_,rfl,fun V5 l5=>(iA x.num (y⁻¹).num (hx1.le (l1.trans (l2.trans (l3.trans (l4.trans l5))))) (g4.le l5) (by omega)).mono ?_⟩
 rintro r V6 l6 ⟨p6,n6,c6,rfl,g6⟩
 have KZ:=l1.trans (l2.trans (l3.trans (l4.trans (l5.trans l6))))
 refine ⟨_,_,_,_,rfl,fun V7 l7=>(bY x _ (hx2.le (KZ.trans l7))).mono ?_⟩
 rintro r V8 l8 ⟨p8,n8,c8,rfl,g8⟩
 refine ⟨_,_,_,rfl,fun V9 l9=>(ct (g8.le l9) (hy1.le (KZ.trans (l7.trans (l8.trans l9)))) (by omega)).mono ?_⟩
 rintro r g_ l10 ⟨HK,n10,c10,rfl,g10⟩
 rw [ag,ag,←iv.2] at g10
 refine ⟨_,_,_,rfl,fun gW bI=>(kS _ (g6.le (l7.trans (l8.trans (l9.trans (l10.trans bI))))) (g10.le bI) (Nat.le_trans (af b1) (by omega)) (Nat.le_trans (af b2) (by omega)) (Nat.mul_ne_zero x.den_nz (y⁻¹).den_nz)).mono ?_⟩
 rw [hxy]
 rintro r wi kq ⟨U6,n21,c21,U7,n22,T4,rfl,g21,g22⟩
 exact ⟨_,_,_,_,_,_,_,rfl,fun tM fB=>⟨_,_,_,_,_,_,rfl,g21.le fB,g22.le fB⟩⟩
theorem EF {V:View}(z:Int){p:OA}{n c:Nat}(h:RD V p n c (ai z.natAbs)) :
  ab prog 97 #[.agg #[.bool (decide (z<0)),.slice p n c]] V fun r V'=>RQ V' r (z:Rat):=
 DL _ p n c V _ fun V1 l1=>lM (z:=z) (d:=1) rfl rfl (h.le l1) RD.nil rfl
end Go.Proofs.Tryz
