import Derived.Test.YthpmdmkmfoaamaaGreatDoorN14
import Derived.Test.YthpmdmkmfoaamaaGreatDoorN18
import Derived.Test.YthpmdmkmfoaamaaGreatDoorN9
set_option linter.unusedVariables false
open Go.IntKind (i64 u64 u32)
namespace Go.Proofs.Tryz
open Go.bL Go.fN
theorem HH {V:View}{t:Tr}{p:OA}(h:RW V p t):p.isSome=true:=by
 cases t with
 | leaf i=>obtain ⟨b,c2,c3,c4,c5,c6,c7,c8,c9,rfl,hb⟩:=h;rfl
 | node l x y=>obtain ⟨b,i,b1,p1,n1,c1,b2,p2,n2,c2,b3,p3,n3,c3,pl,pr,rfl,-⟩:=h;rfl
theorem ID:∀(t:Tr) {V:View} {p:OA} {lb:Nat} {n c:Nat} {vs:List Value} {l:List Nd},RW V p t->t.lN FP->n=l.length ->
  (vs≠[]->V.w.heap[lb]?=some (.cells vs.toArray 76 (0,0)))->(vs≠[]->V.X lb)->n<=c->c*8<=vs.length->NR V vs l->n+t.size<=1000000 ->
  ab prog 48 #[.pointer p,.slice (mA lb c) n c] V fun r V'=>∃(bm:Nat)(vm:List Value)(c':Nat),(vm≠[]->V'.w.heap[bm]?=some (.cells vm.toArray 76 (0,0)))/\(vm≠[]->V.w.heap.size<=bm\/(vs≠[]/\bm=lb)) /\
   r=.tuple #[.slice (mA bm c') (n+t.size) c',.int .i64 (rt n t)]/\n+t.size<=c'/\c'*8<=vm.length/\NR (V'.cf (vm≠[]) bm) vm (l++wr n t):=by
 intro t
 induction t with
 | leaf i=>
  intro V p lb n c vs l hp _ hn hv hxv hnc hcv hnr hsz
  have hs:=HH hp
  obtain ⟨b,c2,c3,c4,c5,c6,c7,c8,c9,rfl,hb⟩:=hp
  have fin:∀(V3:View)(bk:Nat)(x:Int),V.Le (V3.cf (vs≠[]) bk)->(vs≠[]->V3.w.heap[bk]?=some (.cells vs.toArray 76 (0,0))) ->
    (vs≠[]->V.w.heap.size<=bk\/(vs≠[]/\bk=lb)\/False)->x=rt n (.leaf i)->∃(bm:Nat)(vm:List Value)(c':Nat),(vm≠[]->V3.w.heap[bm]?=some (.cells vm.toArray 76 (0,0)))/\(vm≠[]->V.w.heap.size<=bm\/(vs≠[]/\bm=lb)) /\
   Value.tuple #[.slice (mA bk c) n c,.int .i64 x]=.tuple #[.slice (mA bm c') (n+(Tr.leaf i).size) c',.int .i64 (rt n (.leaf i))]/\n+(Tr.leaf i).size<=c'/\c'*8<=vm.length/\NR (V3.cf (vm≠[]) bm) vm (l++wr n (.leaf i)):=by
   intro V3 bk x hle e3 e4 hx
   refine ⟨bk,vs,c,e3,fun h=>?_,by rw [hx];rfl,hnc,hcv,?_⟩
   ·rcases e4 h with h|h|h
    ·exact .inl h
    ·exact .inr h
    ·exact h.elim
   ·simp only [wr,List.append_nil]
    exact hnr.le hle
  refine m_ _ lb n c vs V _ hv hxv ⟨hs,hs,true,BS hb 0 rfl,fun _=>⟨hs,hs,i,BS hb 1 rfl,fun hi V1 bk a1 a2 a3=>fin V1 bk _ a1 a2 a3 (by subst hi;rfl),fun hi V2 bk a1 a2 a3=>fin V2 bk _ a1 a2 a3 (by subst hi;rfl)⟩,fun h=>by cases h⟩
 | node ln x y Kd ihy=>
  intro V p lb n c vs l hp hall hn hv hxv hnc hcv hnr hsz
  have hs:=HH hp
  simp only [Tr.size] at hsz
  obtain ⟨⟨-,hbd⟩,hax,Xr⟩:=hall
  obtain ⟨b,i,b1,p1,n1,c1,b2,p2,n2,c2,b3,p3,n3,c3,pl,pr,rfl,hb,hl,hx,hy⟩:=hp
  have hat:∀j v,([.bool b1,.slice p1 n1 c1,.bool b2,.slice p2 n2 c2,.bool b3,.slice p3 n3 c3]:List Value)[j]?=some v->V.at (((⟨b,2,none⟩:Addr)).add j) v:=by
   intro j v hv
   have hj:j<6:=by
    rcases Nat.lt_or_ge j 6 with hj|hj
    ·exact hj
    ·rw [List.getElem?_eq_none (by simpa using hj)] at hv;cases hv
   have h2:(⟨b,2,none⟩:Addr)=(⟨b,0,none⟩:Addr).add 2:=by rw [add_zero']
   rw [h2,CK,add_zero']
   refine cW (xs:=[_,_,_,_,_,_,_,_,_,_]) hb ?_
   match j,hj,hv with
   | 0,_,hv=>exact hv
   | 1,_,hv=>exact hv
   | 2,_,hv=>exact hv
   | 3,_,hv=>exact hv
   | 4,_,hv=>exact hv
   | 5,_,hv=>exact hv
  obtain ⟨t1,t2,t3⟩:=hbd.ai
  refine m_ _ lb n c vs V _ hv hxv ⟨hs,hs,false,BS hb 0 rfl,(fun h=>by cases h),fun _=>⟨hs,hs,b1,p1,n1,c1,b2,p2,n2,c2,b3,p3,n3,c3,⟨b,2,none⟩,by simp [ah,add_zero'],hat 0 _ rfl,hat 1 _ rfl,hat 2 _ rfl,hat 3 _ rfl,hat 4 _ rfl,hat 5 _ rfl,fun V3 l3=>(A7 (hl.le l3) (by omega) (by omega) (by omega)).mono ?_⟩⟩
  rintro r V4 l4 Va
  have RJ:=Va
  obtain ⟨d1,q1,m1,e1,d2,q2,m2,e2,d3,q3,m3,e3,rfl⟩:=qM Va
  have Ei:=l3.trans l4
  refine ⟨_,_,_,_,_,_,_,_,_,_,_,_,rfl,by omega,hnc,hcv,rfl,by intro v hv;simp at hv;rcases hv with rfl|rfl|rfl|rfl|rfl|rfl|rfl|rfl<;>rfl,fun sp c' g1 g2=>?_⟩
  have hb4:=Ei _ _ hb
  refine ⟨hs,hs,pl,BS hb4 8 rfl,fun V5 l5 bk1 f1 f2=>?_⟩
  have hpush:=NR.push (sp:=sp) (x:=0) (y:=0) (hnr.le Ei) (by omega) (ln:=ln) RJ
  rw [←hn] at hpush
  generalize hrow:vs.take (n*8)++([_,_,_,_,_,_,_,_]:List Value)++sp=row at f1 f2 hpush ⊢
  have hrl:row.length=n*8+8+sp.length:=by
   rw [←hrow];simp only [List.length_append,List.length_take,List.length_cons,List.length_nil];omega
  have Se:row≠[]:=fun e=>by rw [e] at hrl;simp only [List.length_nil] at hrl;omega
  have Lr:=Ei.trans l5
  have i1:=Kd (V:=V5.au [vb row V5.w.heap.size bk1]) (p:=pl) (lb:=bk1) (n:=n+1) (c:=c') (vs:=row) (l:=l++[⟨ln,0,0⟩]) (RW.le (V:=V) (V':=V5.au _) (fun b o h=>Lr b o h) hx) hax (by simp [hn]) f1 (fun h=>⟨by simp [vJ h],f2 h⟩) g1 (by omega) (NR.le (V:=V4) (V':=V5.au _) hpush fun b o h=>l5 b o h) (by omega)
  refine i1.mono ?_
  rintro r V6 l6 ⟨bm,vm,c1',a1,a2,rfl,a5,a6,a7⟩
  have XV:V5.Le V6:=fun b o h=>l6 b o h
  have Vu:V5.Le (V6.shut.cf (vm≠[]) bm):=pX (V':=V5) XV (View.Le.refl V5) fun h=>(a2 h).imp id fun h'=>by rw [h'.2];exact f2 Se
  refine ⟨bm,vm,a1,a2,none,_,_,_,rfl,hs,hs,pr,BS ((Lr.trans Vu) _ _ hb) 9 rfl,fun V7 l7 bk2 d1 d2=>?_⟩
  have Vk:vm≠[]:=fun e=>by rw [e] at a6;simp at a6;omega
  have FN:V.Le V7:=(Lr.trans Vu).trans l7
  have i2:=ihy (V:=V7.au [vb vm V7.w.heap.size bk2]) (p:=pr) (lb:=bk2) (n:=n+1+x.size) (c:=c1') (vs:=vm) (l:=l++[⟨ln,0,0⟩]++wr (n+1) x) (RW.le (V:=V) (V':=V7.au _) (fun b o h=>FN b o h) hy) Xr (by simp [hn,dV];omega) d1 (fun h=>⟨by simp [vJ h],d2 h⟩) a5 a6 (NR.le (V:=V6.cf (vm≠[]) bm) (V':=V7.au _) a7 fun b o h=>l7 b o h) (by omega)
  refine i2.mono ?_
  rintro r V8 l8 ⟨bn,vn,c2',b1',b2',rfl,b5,b6,b7⟩
  have hlen:n*8+8<=vn.length:=by omega
  simp only [Int.toNat_natCast]
  refine ⟨bn,vn,b1',b2',none,_,_,_,rfl,⟨by omega,by omega⟩,b5,by omega,⟨by omega,by omega⟩,b5,by rw [List.length_set];omega,fun V9 Is u1 u4 u5=>?_⟩
  have hfin:=NR.kids (V:=V8.cf (vn≠[]) bn) (l:=l) (r:=wr (n+1) x++wr (n+1+x.size) y) (ln:=ln) (u:=0) (v:=0) (x:=rt (n+1) x) (y:=rt (n+1+x.size) y) (by simpa using b7)
  rw [←hn] at hfin
  refine ⟨Is,_,c2',u4,fun h=>?_,by rw [show n+(Tr.node ln x y).size=n+1+x.size+y.size from by simp only [Tr.size];omega];rfl,by simp only [Tr.size];omega,by simp only [List.length_set];omega,?_⟩
  ·rcases u5 h with h|h|h
   ·exact .inl h
   ·exact .inr h
   ·exact h.elim
  ·simp only [wr]
   exact NR.le (V:=V8.cf (vn≠[]) bn) hfin fun b o h=>u1 b o h
theorem n_ {V:View}{p:OA}{t:Tr}(h:RW V p t)(ha:t.lN FP)(hs:t.size<=1000000) :
  ab prog 14 #[.pointer p] V fun r V'=>AT V' r (rt 0 t) (wr 0 t):=by
 refine wh p V _ fun V1 l1=>?_
 refine ab.OB (ID t (V:=V1) (lb:=0) (vs:=[]) (l:=[]) (n:=0) (c:=0) (h.le l1) ha rfl (fun h=>absurd rfl h) (fun h=>absurd rfl h) (Nat.le_refl _) (Nat.le_refl _) (fun i d hd=>by simp at hd) (by omega)) ?_
 rintro r V2 l2 hH ⟨bm,vm,c',a1,a2,rfl,a5,a6,a7⟩
 refine ⟨bm,vm,a1,fun h=>(a2 h).imp id fun h'=>absurd rfl h'.1,none,_,_,_,rfl,fun V3 l3 bk hb=>?_⟩
 simp only [List.nil_append,Nat.zero_add] at a7 a5 ⊢
 have:=NS.ofRow (V:=V3) (b:=bk) (c:=c') (vm:=vm) (l:=wr 0 t) (ty:=76) hb (by rw [dV];exact a5) (a7.le fun b o h=>l3 b o h)
 rw [dV] at this
 exact ⟨_,_,_,rfl,this⟩
def EH (V:View)(vs:List Value)(i:Nat)(d:Nd):Prop:=∃(b1:Bool)(p1:OA)(n1 c1:Nat)(b2:Bool)(p2:OA)(n2 c2:Nat)(b3:Bool)(p3:OA)(n3 c3:Nat),
 (∀j v,([.bool b1,.slice p1 n1 c1,.bool b2,.slice p2 n2 c2,.bool b3,.slice p3 n3 c3,.int .i64 d.left,.int .i64 d.right]:List Value)[j]?=some v->vs[i*8+j]?=some v) /\
 Ij V (.agg #[.bool b1,.slice p1 n1 c1,.bool b2,.slice p2 n2 c2,.bool b3,.slice p3 n3 c3]) d.ln
theorem EH.le {V V':View}{vs:List Value}{i:Nat}{d:Nd}(h:EH V vs i d)(hl:V.Le V'):EH V' vs i d:=by
 obtain ⟨b1,p1,n1,c1,b2,p2,n2,c2,b3,p3,n3,c3,h1,h2⟩:=h
 exact ⟨b1,p1,n1,c1,b2,p2,n2,c2,b3,p3,n3,c3,h1,h2.le hl⟩
theorem Hq {vs xs:List Value}{k i:Nat}(hx:xs.length=8)(h:k*8+8<=vs.length)(hi:i<k*8\/k*8+8<=i):(vs.take (k*8)++xs++vs.drop (k*8+8))[i]?=vs[i]?:=by
 have ht:(vs.take (k*8)).length=k*8:=by rw [List.length_take];omega
 rcases hi with hi|hi
 ·rw [List.append_assoc,List.getElem?_append_left (by omega),List.getElem?_take,if_pos hi]
 ·rw [List.getElem?_append_right (by rw [List.length_append];omega),List.length_append,ht,hx,List.getElem?_drop]
  congr 1
  omega
theorem XY {a b c d e f g h v:Value}{j:Nat}(hv:([a,b,c,d,e,f,g,h]:List Value)[j]?=some v):j<8:=by
 rcases Nat.lt_or_ge j 8 with hj|hj
 ·exact hj
 ·rw [List.getElem?_eq_none (by simpa using hj)] at hv;cases hv
theorem EH.out {V:View}{vs xs:List Value}{k i:Nat}{d:Nd}(h:EH V vs i d)(hx:xs.length=8)(hk:k*8+8<=vs.length)(hi:i≠k):EH V (vs.take (k*8)++xs++vs.drop (k*8+8)) i d:=by
 obtain ⟨b1,p1,n1,c1,b2,p2,n2,c2,b3,p3,n3,c3,h1,h2⟩:=h
 refine ⟨b1,p1,n1,c1,b2,p2,n2,c2,b3,p3,n3,c3,fun j v hv=>?_,h2⟩
 have:=XY hv
 rw [Hq hx hk (by omega)]
 exact h1 j v hv
def vm (n b m:Nat):Nat:=(n-1-m+(n-b))%n
def Eg (V:View):View:=⟨V.w,fun b=>b<V.w.heap.size,fun _=>False,fun _ h=>h,fun _ h=>h.elim⟩
theorem CJ {f:FuncId}{args:Array Value}{V:View}{o:Obj}(h:ab prog f args (Eg V) fun r V'=>∃bk,r=.pointer (some ⟨bk,0,none⟩)/\V'.bF bk o) :
  ab prog f args V fun r V'=>∃bk,r=.pointer (some ⟨bk,0,none⟩)/\V.w.heap.size<=bk/\V'.bF bk o:=
 ⟨h.1,h.2.mono fun _ _ ⟨_,he,hx,bk,hr,hb⟩=>⟨_,he,⟨hx.size,fun b hb _=>hx.bF b hb (fun h=>h),hx.os,hx.tape,hx.out⟩,bk,hr,Nat.le_of_not_lt hb.1,fun hh=>hb.1 (V.hH bk hh),hb.2⟩⟩
theorem A8 {V:View}{lp:OA}{ln lc:Nat}(hc:ln<=lc) :
  ab prog 10 #[.slice lp ln lc] V fun r V'=>∃bk,r=.pointer (some ⟨bk,0,none⟩)/\V.w.heap.size<=bk/\V'.bF bk (.cells #[.slice lp (min ln 400) lc,.int .i64 0] 95 (0,0)):=by
 refine CJ (AA lp ln lc (Eg V) _ ?_)
 have e:bS (ln:Int) 400=((min ln 400:Nat):Int):=by
  unfold bS
  simp only [Nat.min_def]
  split<;>split<;>omega
 rw [e,Int.toNat_natCast]
 have:=Nat.min_le_left ln 400
 exact ⟨⟨by omega,by omega⟩,fun V1 l1 bk hb=>⟨bk,rfl,hb⟩⟩
theorem Jj {t:Tr}(h:t.lN FP):t.lN fun x=>kk x=true:=Tr.lN.imp (fun _ h=>h.1) h
theorem LH {t:Tr}(h:t.lN FP):t.lN Bd:=Tr.lN.imp (fun _ h=>h.2) h
theorem Fx (l:List (Rat×Rat)):∃m:List (Rat×Rat),m.Perm l/\m.Pairwise fun x y=>¬dv y x<0:=by
 refine ⟨l.mergeSort (fun x y=>decide (¬dv y x<0)),List.mergeSort_perm ..,?_⟩
 refine (List.pairwise_mergeSort (le:=fun x y=>decide (¬dv y x<0)) (fun a b c h1 h2=>?_) (fun a b=>?_) l).imp fun h=>of_decide_eq_true h
 ·exact decide_eq_true (aw.tZ c b a (of_decide_eq_true h2) (of_decide_eq_true h1))
 ·by_cases h:dv b a<0
  ·have:=aw.yP b a h
   rw [Bool.or_eq_true]
   exact .inr (decide_eq_true this)
  ·rw [Bool.or_eq_true]
   exact .inl (decide_eq_true h)
theorem indep {t:Tr}{l:L3}(ho:(Tr.node l t t).lN fun l=>¬(l.1=0/\l.2.1=0)){p:Rat×Rat}{a b:Int}(h1:jv t p a)(h2:jv (.node l t t) p b):a=b:=by
 obtain ⟨m,pm,pw⟩:=Fx (jd (aw.cq (.node l t t) p))
 obtain ⟨ry,cv⟩:=Eu (Em ho) pm pw
 have sm:=rF ry
 have sub:∀x∈aw.cq t p,x∈aw.cq (.node l t t) p:=fun x hx=>by
  rw [aw.cq]
  by_cases e:aT l p.1 p.2≥0
  ·rw [if_pos e];exact List.mem_append_right _ (List.mem_append_left _ hx)
  ·rw [if_pos (show aT l p.1 p.2<=0 by grind)];exact List.mem_append_right _ (List.mem_append_right _ hx)
 have e1:=h1 _ _ ry sm fun l hl=>cv l (sub l hl)
 have e2:=h2 _ _ ry sm cv
 generalize jO (fq eP m)=S at *
 have key:∀v∈S,aw.jo (.node l t t) p v=aw.jo t p v:=fun v hv=>by
  have n:=cv.gen (aw.qt ry sm v hv)
  have:=(aw.mU n fun l _=>⟨id,id⟩).2
  rw [aw.jo] at this ⊢
  split
  ·rfl
  ·rename_i q
   rw [if_neg q] at this
   split
   ·rfl
   ·rename_i q'
    rw [if_neg q'] at this
    cases this
 have k1:aw.anyS (.node l t t) p S=aw.anyS t p S:=by
  unfold aw.anyS
  rw [Bool.eq_iff_iff,List.any_eq_true,List.any_eq_true]
  constructor
  ·rintro ⟨x,hx,h⟩;exact ⟨x,hx,by rw [←key x hx];exact h⟩
  ·rintro ⟨x,hx,h⟩;exact ⟨x,hx,by rw [key x hx];exact h⟩
 have k2:aw.iK (.node l t t) p S=aw.iK t p S:=by
  unfold aw.iK
  rw [Bool.eq_iff_iff,List.all_eq_true,List.all_eq_true]
  constructor
  ·intro h x hx;rw [←key x hx];exact h x hx
  ·intro h x hx;rw [key x hx];exact h x hx
 rw [e1,e2,k1,k2]
theorem Ge (l:L3):cJ (cJ l)=cJ l:=by
 unfold cJ
 by_cases h:l.1<0\/l.1=0/\l.2.1<0
 ·rw [if_pos h,if_neg]
  unfold qk
  dsimp only
  omega
 ·rw [if_neg h,if_neg h]
theorem Ji {l:L3}(h:kk l=true):kk (cJ l)=true:=by
 unfold cJ
 split
 ·unfold kk qk js at *
  simp only [Int.natAbs_neg]
  rw [Bool.and_eq_true,decide_eq_true_iff,decide_eq_true_iff] at h ⊢
  exact ⟨fun e=>h.1 ⟨by omega,by omega⟩,h.2⟩
 ·exact h
theorem IJ {t:Tr}(ha:t.lN FP):(∀l∈cD t.mq,Bd l)/\(∀l∈cD t.mq,kk l=true/\cJ l=l)/\(cD t.mq).Nodup/\(cD t.mq).length<=t.size:=by
 refine ⟨uF (fun _ h=>h.can) fun l hl=>(jG ha l hl).2,fun l hl=>?_,List.Pairwise.imp (S:=fun a b=>a≠b) (fun {a b} h e=>by subst e;exact Ou h) (fS t.mq).1,by have:=rl t.mq;rwa [lB] at this⟩
 obtain ⟨m,hm,rfl⟩:=List.mem_map.1 ((fS t.mq).2 l |>.1 hl)
 exact ⟨Ji (jG ha m hm).1,Ge m⟩
theorem Gn {t:Tr}{p:Rat×Rat}{E:List (Rat×Rat)}(pm:E.Perm (eQ p (cD t.mq))):aw.EF E (aw.cq t p):=
 Gk pm fun l hl=>⟨(aw.mI hl).1,(fS t.mq).2 _ |>.2 (List.mem_map_of_mem (aw.mI hl).2)⟩
end Go.Proofs.Tryz
namespace Go.bL
def View.bare (V:View)(b:Nat):View:=⟨V.w,fun x=>V.H x/\x≠b,fun x=>V.X x/\x≠b,fun x h=>V.hH x h.1,fun x h=>⟨V.hX x h.1,h.2⟩⟩
theorem View.Ir (V:View)(b:Nat):V.Le (V.bare b):=fun _ _ h=>⟨fun hh=>h.1 hh.1,h.2⟩
theorem ab.bare {P:Program}{f:FuncId}{args:Array Value}{V:View}{b:Nat}{R:Value->View->Prop}(hs:b<V.w.heap.size)(h:ab P f args (V.bare b) R) :
  ab P f args V fun r V'=>V'.w.heap[b]?=V.w.heap[b]?/\R r (V'.bare b):=by
 refine ⟨h.1,h.2.mono fun _ w' ⟨r,he,hx,hr⟩=>⟨r,he,⟨hx.size,fun x h1 h2=>hx.bF x h1 fun h=>h2 h.1,hx.os,hx.tape,hx.out⟩,hx.bF b hs (fun h=>h.2 rfl),hr⟩⟩
theorem View.gF {V:View}{b:Nat}{a:Addr}{v:Value}(h:(V.bare b).at a v)(hb:a.block≠b):V.at a v:=⟨fun hh=>h.1 ⟨hh,hb⟩,h.2⟩
def AK (V:View)(b:Nat):Prop:=∃(cs:Array Value)(ty:TypeId)(m:Nat×Nat),V.w.heap[b]?=some (.cells cs ty m)/\∀v∈cs,∀k z,v≠.int k z
theorem AK.ne {V:View}{b:Nat}(h:AK V b){a:Addr}{k:IntKind}{z:Int}(ha:(V.bare b).at a (.int k z)):a.block≠b:=by
 obtain ⟨cs,ty,m,hb,hn⟩:=h
 intro e
 have h2:=ha.2
 unfold World.cell? at h2
 rw [e] at h2
 have hb':(V.bare b).w.heap[b]?=some (.cells cs ty m):=hb
 rw [hb'] at h2
 dsimp only at h2
 split at h2
 ·cases h2
 ·obtain ⟨hi,e2⟩:=Array.getElem?_eq_some_iff.1 h2
  exact hn _ (e2▸Array.getElem_mem hi) k z rfl
end Go.bL
namespace Go.Proofs.Tryz
open Go.bL Go.fN
theorem RD.gF {V:View}{b:Nat}(hn:AK V b){p:OA}{n c:Nat}{ds:List Nat}(h:RD (V.bare b) p n c ds):RD V p n c ds:=by
 refine ⟨h.len,h.cap,fun i v hv=>?_,h.eJ,h.BG⟩
 obtain ⟨ad,e,ha⟩:=h.sl i v hv
 have:∃d:Int,v=.int .u32 d:=by
  unfold aF at hv
  rw [List.getElem?_map] at hv
  cases hd:ds[i]? with
  | none=>rw [hd] at hv;cases hv
  | some d=>rw [hd] at hv;cases hv;exact ⟨_,rfl⟩
 obtain ⟨d,rfl⟩:=this
 exact ⟨ad,e,View.gF ha (hn.ne ha)⟩
theorem RL.gF {V:View}{b:Nat}(hn:AK V b){v:Value}{x y z:Int}(h:RL (V.bare b) v x y z):RL V v x y z:=by
 obtain ⟨_,_,_,_,_,_,_,_,_,e,h1,h2,h3⟩:=h
 exact ⟨_,_,_,_,_,_,_,_,_,e,RD.gF hn h1,RD.gF hn h2,RD.gF hn h3⟩
theorem xF (a:Addr)(i:Nat):(a.add i).block=a.block:=by
 unfold Addr.add;split<;>rfl
theorem AT.gF {V:View}{b:Nat}(hn:AK V b){v:Value}{root:Int}{l:List Nd}(h:AT (V.bare b) v root l)(hk:∀x∈l,kk x.ln=true):AT V v root l:=by
 obtain ⟨q,n,c,rfl,hs⟩:=h
 refine ⟨q,n,c,rfl,hs.len,hs.cap,?_,hs.BG⟩
 obtain ⟨vs,hsl,hr⟩:=hs.row
 cases l with
 | nil=>exact ⟨[],fun i v h=>by simp at h,fun i d h=>by simp at h⟩
 | cons d l=>
  have hne:∀ad,q=some ad->ad.block≠b:=by
   intro ad e
   obtain ⟨b1,p1,n1,c1,b2,p2,n2,c2,b3,p3,n3,c3,h1,-⟩:=hr 0 d rfl
   obtain ⟨Ux,e',ha⟩:=hsl _ _ (h1 6 _ rfl)
   rw [e] at e';cases e'
   have:=hn.ne ha
   rwa [xF] at this
  refine ⟨vs,fun i v hv=>?_,fun i x hx=>?_⟩
  ·obtain ⟨ad,e,ha⟩:=hsl i v hv
   exact ⟨ad,e,View.gF ha (by rw [xF];exact hne ad e)⟩
  ·obtain ⟨b1,p1,n1,c1,b2,p2,n2,c2,b3,p3,n3,c3,h1,h2⟩:=hr i x hx
   exact ⟨b1,p1,n1,c1,b2,p2,n2,c2,b3,p3,n3,c3,h1,.inl (RL.gF hn (h2.ok (hk x (List.mem_of_getElem? hx))))⟩
theorem H6:∀{t:Tr} {k:Nat},t.lN FP->∀x∈wr k t,kk x.ln=true
 | .leaf _,_,_,x,h=>by cases h
 | .node l a b,k,⟨h1,h2,h3⟩,x,h=>by
  simp only [wr] at h
  rcases List.mem_cons.1 h with rfl|h
  ·exact h1.1
  ·rcases List.mem_append.1 h with h|h
   ·exact H6 h2 x h
   ·exact H6 h3 x h
theorem oG {V:View}{rb:Nat}{i:Bool}{b1:Bool}{p1:OA}{n1 c1:Nat}{b2:Bool}{p2:OA}{n2 c2:Nat}{b3:Bool}{p3:OA}{n3 c3:Nat}{pl pr:OA}{ln:L3}{x y:Tr}
  (hw:V.w.heap[rb]?=some (.cells #[.bool false,.bool i,.bool b1,.slice p1 n1 c1,.bool b2,.slice p2 n2 c2,.bool b3,.slice p3 n3 c3,.pointer pl,.pointer pr] 64 (0,0)))
  (hl:RL V (.agg #[.bool b1,.slice p1 n1 c1,.bool b2,.slice p2 n2 c2,.bool b3,.slice p3 n3 c3]) ln.1 ln.2.1 ln.2.2)(hx:RW V pl x)(hy:RW V pr y)(ha:(Tr.node ln x y).lN FP)(hs:(Tr.node ln x y).size<=1000000) :
  ab prog 14 #[.pointer (some ⟨rb,0,none⟩)] V fun r V'=>V'.w.heap[rb]?=some (.cells #[.bool false,.bool i,.bool b1,.slice p1 n1 c1,.bool b2,.slice p2 n2 c2,.bool b3,.slice p3 n3 c3,.pointer pl,.pointer pr] 64 (0,0))/\AT V' r (rt 0 (.node ln x y)) (wr 0 (.node ln x y)):=by
 have hsz:rb<V.w.heap.size:=(Array.getElem?_eq_some_iff.1 hw).1
 have l0:=V.Ir rb
 refine (ab.bare hsz (n_ (V:=V.bare rb) (p:=some ⟨rb,0,none⟩) (t:=.node ln x y) ⟨rb,i,b1,p1,n1,c1,b2,p2,n2,c2,b3,p3,n3,c3,pl,pr,rfl,⟨fun h=>h.2 rfl,hw⟩,hl.le l0,hx.le l0,hy.le l0⟩ ha hs)).mono ?_
 rintro r V' l' ⟨h1,h2⟩
 rw [hw] at h1
 refine ⟨h1,AT.gF ⟨_,_,_,h1,?_⟩ h2 (H6 ha)⟩
 intro v hv k z e
 subst e
 simp at hv
def AG:Tr:=.node LL (.leaf true) (.leaf false)
theorem Me:AG.lN FP:=⟨⟨JS,JR⟩,trivial,trivial⟩
theorem ll {t:Tr}{p:Rat×Rat}{c:Int}(h:jv t p c)(hm:aw.cq t p=[]):c=if (aw.jo t p (1,0)).1 then 2 else 0:=by
 have:=h [] [(1,0)] ⟨fun r h=>(by cases h),fun r h=>(by cases h),List.Pairwise.nil⟩ (.inl ⟨rfl,rfl⟩) (by rw [hm];intro l h;cases h)
 rw [this]
 unfold aw.anyS aw.iK zv
 simp only [List.any_cons,List.any_nil,Bool.or_false,List.all_cons,List.all_nil,Bool.and_true]
 cases (aw.jo t p (1,0)).1<;>rfl
theorem Kr:aw.AD [(1,0),(-1,0)]:=by
 refine ⟨fun r hr=>?_,fun r hr=>?_,?_⟩
 ·simp only [List.mem_cons,List.not_mem_nil,or_false] at hr
  rcases hr with rfl|rfl
  ·exact .inl (by decide)
  ·exact .inl (by decide)
 ·simp only [List.mem_cons,List.not_mem_nil,or_false] at hr
  rcases hr with rfl|rfl
  ·exact ⟨(-1,0),by simp,1,by decide,by decide +kernel,by decide +kernel⟩
  ·exact ⟨(1,0),by simp,1,by decide,by decide +kernel,by decide +kernel⟩
 ·refine List.pairwise_cons.2 ⟨fun x hx=>?_,List.pairwise_singleton ..⟩
  rcases List.mem_singleton.1 hx with rfl
  exact .inl ⟨.inr ⟨rfl,by decide⟩,.inr ⟨rfl,by decide⟩⟩
theorem uT {V:View}{v w:Value}(h:AT V v (rt 0 AG) (wr 0 AG)){x y:Int}(hw:KH V w (x:Rat) (y:Rat))(hx:-40<=x/\x<=40)(hy:-40<=y/\y<=40){e:Value}(he:wE V 0 e) :
  ab prog 13 #[v,w] V fun r V'=>∃c,r=.tuple #[.int .i64 c,.nilIface]/\jv AG ((x:Rat),(y:Rat)) c:=by
 have sx:=qv hx
 have sy:=qv hy
 have ho:sS (wr 0 AG) (rt 0 AG)=some AG:=Hg ⟨JS,trivial,trivial⟩ (by decide)
 refine (iQ (p:=((x:Rat),(y:Rat))) (pY (p:=Bd) (t:=AG) ⟨JR,trivial,trivial⟩) h (D2.of (p:=((x:Rat),(y:Rat))) hw sx sy (by omega)) (sx.mono (by omega)) (sy.mono (by omega)) (fun t ht=>by rw [ho] at ht;cases ht;decide) (fun t ht n c=>by rw [ho] at ht;cases ht;exact L_ n c _ (by have:=p_ AG ((x:Rat),(y:Rat));rw [yy];have e:AG.size=1:=rfl;omega)) he).mono ?_
 rintro r V' _ ⟨-,h2⟩
 exact h2 AG ho
theorem EU {V:View}{e:Value}(he:wE V 0 e):ab prog 16 #[] V fun r V'=>r=.bool true:=by
 refine vV V _ fun V1 l1=>(dJ 0 0 (by omega) (by omega) (by omega) (by omega)).mono ?_
 rintro r V2 l2 hp
 have hp0:=hp
 obtain ⟨_,_,_,_,_,_,_,_,_,_,_,_,rfl,-⟩:=hp
 refine ⟨_,_,_,_,_,_,_,_,_,_,_,_,_,_,rfl,fun V3 l3=>(dJ 1 0 (by omega) (by omega) (by omega) (by omega)).mono ?_⟩
 rintro r V4 l4 hq
 have hq0:=hq
 obtain ⟨_,_,_,_,_,_,_,_,_,_,_,_,rfl,-⟩:=hq
 refine ⟨_,_,_,_,_,_,_,_,_,_,_,_,_,_,rfl,fun V5 l5=>(zu (hp0.le (l3.trans (l4.trans l5))) (hq0.le l5)).mono ?_⟩
 rintro r V6 l6 ⟨l,rfl,hl⟩
 obtain ⟨b1,u1,v1,w1,b2,u2,v2,w2,b3,u3,v3,w3,rfl⟩:=FQ hl
 have Ls:=l1.trans (l2.trans (l3.trans (l4.trans (l5.trans l6))))
 refine ⟨_,_,_,_,_,_,_,_,_,_,_,_,_,rfl,fun V7 l7=>(ik true).mono ?_⟩
 rintro r V8 l8 ⟨pa,rfl,ha⟩
 refine ⟨_,rfl,fun V9 l9=>(ik false).mono ?_⟩
 rintro r ie l10 ⟨pb,rfl,hb⟩
 have Bz:=l7.trans (l8.trans (l9.trans l10))
 refine ⟨_,rfl,fun gV bI bk e1 e2=>(oG (V:=gV.au [bk]) (ln:=LL) (x:=.leaf true) (y:=.leaf false) e1 (RL.le (V:=V6) (V':=gV.au _) hl fun b o h=>(Bz.trans bI) b o h) (RW.le (V:=V8) (V':=gV.au _) (fun b o h=>(l9.trans (l10.trans bI)) b o h) ha) (RW.le (V:=ie) (V':=gV.au _) (fun b o h=>bI b o h) hb) Me (by decide)).mono ?_⟩
 rintro r lO cg ⟨e3,hat⟩
 have Ny:AT lO r (rt 0 AG) (wr 0 AG):=hat
 clear hat
 have K6:=Ny
 obtain ⟨q,n,c,rfl,-⟩:=Ny
 have N_:gV.Le lO:=fun b o h=>cg b o h
 have Mo:=Ls.trans (Bz.trans (bI.trans N_))
 refine ⟨_,_,_,_,rfl,_,_,_,_,_,_,_,_,_,_,_,_,_,_,_,_,e3,fun me cp=>(dJ 0 1 (by omega) (by omega) (by omega) (by omega)).mono ?_⟩
 have cp:lO.Le me:=fun b o h=>cp b o h
 rintro r pC dz hp
 have hp0:=hp
 obtain ⟨_,_,_,_,_,_,_,_,_,_,_,_,rfl,-⟩:=hp
 refine ⟨_,_,_,_,_,_,_,_,_,_,_,_,_,_,rfl,fun nh dm=>(gK (hp0.le dm) (qv (by omega)) (qv (by omega)) (by omega)).mono ?_⟩
 rintro r mr cS hw
 have hw0:=hw
 obtain ⟨_,_,_,_,_,_,_,_,_,_,_,_,_,_,rfl,-⟩:=hw
 have GN:=cp.trans (dz.trans (dm.trans cS))
 refine ⟨_,_,_,_,_,_,_,_,_,_,_,_,_,_,rfl,fun nN cP=>(uT (K6.le (GN.trans cP)) (hw0.le cP) (by omega) (by omega) (he.le (Mo.trans (GN.trans cP)))).mono ?_⟩
 rintro r pH df ⟨k1,rfl,hk1⟩
 have Vq:=ll hk1 (by decide +kernel)
 rw [show (aw.jo AG (((0:Int):Rat),((1:Int):Rat)) (1,0)).1=true by decide +kernel,if_pos rfl] at Vq
 subst Vq
 have Oa:=GN.trans (cP.trans df)
 refine ⟨_,_,rfl,fun rP dA=>(dJ 5 0 (by omega) (by omega) (by omega) (by omega)).mono ?_⟩
 rintro r yN gZ hp
 have hp0:=hp
 obtain ⟨_,_,_,_,_,_,_,_,_,_,_,_,rfl,-⟩:=hp
 refine ⟨_,_,_,_,_,_,_,_,_,_,_,_,_,_,rfl,fun sJ eo=>(gK (hp0.le eo) (qv (by omega)) (qv (by omega)) (by omega)).mono ?_⟩
 rintro r wB jE hw
 have hw0:=hw
 obtain ⟨_,_,_,_,_,_,_,_,_,_,_,_,_,_,rfl,-⟩:=hw
 have GO:=Oa.trans (dA.trans (gZ.trans (eo.trans jE)))
 refine ⟨_,_,_,_,_,_,_,_,_,_,_,_,_,_,rfl,fun tD fa=>(uT (K6.le (GO.trans fa)) (hw0.le fa) (by omega) (by omega) (he.le (Mo.trans (GO.trans fa)))).mono ?_⟩
 rintro r CD oe ⟨k2,rfl,hk2⟩
 have P5:=hk2 [(1,0),(-1,0)] (jO [(1,0),(-1,0)]) Kr (rF Kr) (by
  intro l hl
  have:aw.cq AG (((5:Int):Rat),((0:Int):Rat))=[LL]:=by decide +kernel
  rw [this] at hl
  rcases List.mem_singleton.1 hl with rfl
  exact ⟨(1,0),by simp,1,by decide,by decide +kernel⟩)
 rw [show aw.anyS AG (((5:Int):Rat),((0:Int):Rat)) (jO [(1,0),(-1,0)])=true by decide +kernel,show aw.iK AG (((5:Int):Rat),((0:Int):Rat)) (jO [(1,0),(-1,0)])=false by decide +kernel] at P5
 have P5:k2=1:=P5
 subst P5
 have Ob:=GO.trans (fa.trans oe)
 refine ⟨_,_,rfl,fun D3 gE=>(dJ 0 (-1) (by omega) (by omega) (by omega) (by omega)).mono ?_⟩
 rintro r FR oN hp
 have hp0:=hp
 obtain ⟨_,_,_,_,_,_,_,_,_,_,_,_,rfl,-⟩:=hp
 refine ⟨_,_,_,_,_,_,_,_,_,_,_,_,_,_,rfl,fun Il kC=>(gK (hp0.le kC) (qv (by omega)) (qv (by omega)) (by omega)).mono ?_⟩
 rintro r FT uU hw
 have hw0:=hw
 obtain ⟨_,_,_,_,_,_,_,_,_,_,_,_,_,_,rfl,-⟩:=hw
 have Kh:=Ob.trans (gE.trans (oN.trans (kC.trans uU)))
 refine ⟨_,_,_,_,_,_,_,_,_,_,_,_,_,_,rfl,fun KK rz=>(uT (K6.le (Kh.trans rz)) (hw0.le rz) (by omega) (by omega) (he.le (Mo.trans (Kh.trans rz)))).mono ?_⟩
 rintro r FU uV ⟨k3,rfl,hk3⟩
 have P6:=ll hk3 (by decide +kernel)
 rw [show (aw.jo AG (((0:Int):Rat),((-1:Int):Rat)) (1,0)).1=false by decide +kernel] at P6
 have P6:k3=0:=P6
 subst P6
 exact ⟨_,_,rfl,sR.1,fun _=>⟨sR.1,fun _=>⟨sR.1,fun _=>⟨fun _=>⟨fun _ MT CF=>rfl,(fun h=>by cases h)⟩,(fun h=>by cases h)⟩,(fun h=>by rw [sR.2] at h;cases h)⟩,(fun h=>by rw [sR.2] at h;cases h)⟩,(fun h=>by rw [sR.2] at h;cases h)⟩
theorem Ed {a b:Rat}:rf a b<0↔a<b:=by
 constructor
 ·intro h
  by_cases c:a<b
  ·exact c
  ·by_cases e:a=b
   ·have:=nq.1 e;omega
   ·have:=Eb.1 (show b<a by grind);omega
 ·intro h;have:=Ec.1 h;omega
theorem tP:Sz 10 ((1:Int):Rat):=qv (z:=1) (by omega)
theorem Ph {l:L3}(h:Bd l){k:Nat}{p:Rat×Rat}(s1:Sz k p.1)(s2:Sz k p.2):Sz (2*k+3010) (aT l p.1 p.2):=by
 have:=h.HY
 exact (((this.1.mul s1).add (this.2.1.mul s2)).add this.2.2).mono (by omega)
theorem Hb {p v:Rat×Rat}{ls:List L3}{i:Nat}(h:i<ls.length)(s:Rat):(ls.take (i+1)).foldl (aw.qK p v) s=aw.qK p v ((ls.take i).foldl (aw.qK p v) s) ls[i]:=by
 rw [←List.take_append_getElem h,List.foldl_append]
 rfl
theorem zk {V:View}{lp:OA}{ln lc:Nat}{ls:List L3}{pv vv:Value}{p v:Rat×Rat}(h:nV 6 l_ V lp ln ls)(hb:∀l∈ls,Bd l)(hl:ls.length<=1000)(hp:RP V pv p.1 p.2)(hv:RP V vv v.1 v.2)(s1:Sz 60000 p.1)(s2:Sz 60000 p.2)(s3:Sz 6000 v.1)(s4:Sz 6000 v.2) :
  ab prog 20 #[.slice lp ln lc,pv,vv] V fun r V'=>RP V' r (p.1+ls.foldl (aw.qK p v) 1*v.1) (p.2+ls.foldl (aw.qK p v) 1*v.2)/\Sz 500000 (p.1+ls.foldl (aw.qK p v) 1*v.1)/\Sz 500000 (p.2+ls.foldl (aw.qK p v) 1*v.2):=by
 have hn:=h.len
 subst hn
 have hp0:=hp
 have hv0:=hv
 obtain ⟨_,_,_,_,_,_,_,_,_,_,_,_,rfl,-⟩:=hp
 obtain ⟨_,_,_,_,_,_,_,_,_,_,_,_,rfl,-⟩:=hv
 refine xr lp ls.length lc _ _ _ _ _ _ _ _ _ _ _ _ _ _ _ _ _ _ _ _ _ _ _ _ _ _ _ _ V _ fun V1 l1=>(fm 1 (by omega) (by omega)).mono ?_
 rintro r V2 l2 g
 have g0:=g
 obtain ⟨_,_,_,_,_,_,rfl⟩:=g.shape
 have wR:=l1.trans l2
 refine ⟨_,_,_,_,_,_,_,rfl,fun z V'=>∃i:Nat,z.1=(i:Int)/\i<=ls.length/\RQ V' (.agg #[.bool z.2.1,.slice z.2.2.1 z.2.2.2.1 z.2.2.2.2.1,.slice z.2.2.2.2.2.1 z.2.2.2.2.2.2.1 z.2.2.2.2.2.2.2]) ((ls.take i).foldl (aw.qK p v) 1)/\Sz 400000 ((ls.take i).foldl (aw.qK p v) 1),fun z=>(ls.length-z.1).toNat,⟨(0,_,_,_,_,_,_,_),by and_intros<;>first|rfl|trivial,0,rfl,Nat.zero_le _,g0,tP.mono (by omega)⟩,?_⟩
 rintro ⟨z,zb,zp,zn,zc,zq,zm,ze⟩ V3 l3 ⟨i,e,hi,gs,ss⟩
 dsimp only at e gs ⊢
 subst e
 have FM:=wR.trans l3
 refine ⟨by trivial,fun hlt=>?_,fun hlt Qu FO=>?_⟩
 ·have hlt:i<ls.length:=by have:=of_decide_eq_true hlt;omega
  have w1:i64.wrap ((i:Int)+1)=((i+1:Nat):Int):=by rw [ar (by omega)];rfl
  rw [w1,Int.toNat_natCast]
  obtain ⟨is,b1,p1,n1,c1,b2,p2,n2,c2,b3,p3,n3,c3,a,had,a0,a1,a2,a3,a4,a5,hl1⟩:=tJ (h.le FM fun _ _ g=>l_.le g FM) hlt
  have bd:=hb _ (List.getElem_mem hlt)
  have sl:=bd.HY
  have et:=Hb (p:=p) (v:=v) hlt 1
  generalize ls[i]=A at *
  generalize (ls.take i).foldl (aw.qK p v) 1=s at *
  have next:∀{W:View} {b:Bool} {q1 q2:OA} {m1 d1 m2 d2:Nat} {s':Rat},RQ W (.agg #[.bool b,.slice q1 m1 d1,.slice q2 m2 d2]) s'->Sz 400000 s'->aw.qK p v s A=s'->∃i':Nat,((i+1:Nat):Int)=(i':Int)/\i'<=ls.length/\RQ W (.agg #[.bool b,.slice q1 m1 d1,.slice q2 m2 d2]) ((ls.take i').foldl (aw.qK p v) 1)/\Sz 400000 ((ls.take i').foldl (aw.qK p v) 1):=fun g1 g2 e=>⟨i+1,rfl,hlt,by rw [et,e];exact g1,by rw [et,e];exact g2⟩
  have t1:Sz 70000 (p.1+((1:Int):Rat)*v.1):=(s1.add (tP.mul s3)).mono (by omega)
  have t2:Sz 70000 (p.2+((1:Int):Rat)*v.2):=(s2.add (tP.mul s4)).mono (by omega)
  refine ⟨is,⟨by omega,by omega⟩,b1,p1,n1,c1,b2,p2,n2,c2,b3,p3,n3,c3,a,had,a0,a1,a2,a3,a4,a5,fun V4 l4=>(fm 1 (by omega) (by omega)).mono ?_⟩
  rintro r V5 l5 g
  have g0:=g
  obtain ⟨_,_,_,_,_,_,rfl⟩:=g.shape
  have sQ:=l4.trans l5
  refine ⟨_,_,_,_,_,_,_,rfl,fun V6 l6=>(eO (hp0.le (FM.trans (sQ.trans l6))) (g0.le l6) (hv0.le (FM.trans (sQ.trans l6))) s1 s2 (tP.mono (by omega)) s3 s4 (by omega)).mono ?_⟩
  rintro r V7 l7 gq
  have Nt:=gq
  obtain ⟨_,_,_,_,_,_,_,_,_,_,_,_,rfl,-⟩:=gq
  have Kl:=sQ.trans (l6.trans l7)
  refine ⟨_,_,_,_,_,_,_,_,_,_,_,_,_,_,rfl,fun V8 l8=>(gz (k:=70000) (hl1.le (Kl.trans l8)) (Nt.le l8) (sl.1.mono (by omega)) (sl.2.1.mono (by omega)) (sl.2.2.mono (by omega)) t1 t2 (by omega)).mono ?_⟩
  rintro r V9 l9 gA
  have UL:RQ V9 r (aT A (p.1+((1:Int):Rat)*v.1) (p.2+((1:Int):Rat)*v.2)):=gA
  obtain ⟨_,_,_,_,_,_,rfl⟩:=gA.shape
  have Ja:=Kl.trans (l8.trans l9)
  refine ⟨_,_,_,_,_,_,_,rfl,fun ie l10=>(gz (k:=70000) (hl1.le (Ja.trans l10)) (hp0.le (FM.trans (Ja.trans l10))) (sl.1.mono (by omega)) (sl.2.1.mono (by omega)) (sl.2.2.mono (by omega)) (s1.mono (by omega)) (s2.mono (by omega)) (by omega)).mono ?_⟩
  rintro r gV bI gB
  have W3:RQ gV r (aT A p.1 p.2):=gB
  obtain ⟨_,_,_,_,_,_,rfl⟩:=gB.shape
  have zA:=Ph bd (p:=((p.1+((1:Int):Rat)*v.1),(p.2+((1:Int):Rat)*v.2))) t1 t2
  have zB:=Ph bd s1 s2
  have SE:=Ja.trans (l10.trans bI)
  refine ⟨_,_,_,_,_,_,_,rfl,fun lO cg=>(iH (UL.le (l10.trans (bI.trans cg))) (W3.le cg) zA zB (by omega)).mono ?_⟩
  rintro r me cp gc
  have ec:aT A (p.1+((1:Int):Rat)*v.1) (p.2+((1:Int):Rat)*v.2)-aT A p.1 p.2=aw.nv A v:=by
   have:=aw.EC A p v 1
   have e1:((1:Int):Rat)=1:=rfl
   rw [e1,this];grind
  have zc:=zA.sub zB
  dsimp only at zc
  rw [ec] at gc zc
  have Ib:=gc
  obtain ⟨_,_,_,_,_,_,rfl⟩:=gc.shape
  have SF:=SE.trans (cg.trans cp)
  refine ⟨_,_,_,_,_,_,_,rfl,fun pC dz=>(kx (Ib.le dz)).mono ?_⟩
  rintro r nh dm rfl
  have I8:=SF.trans (dz.trans dm)
  refine ⟨_,rfl,fun c0=>⟨(((i+1:Nat):Int),_,_,_,_,_,_,_),by dsimp only;omega,by and_intros<;>first|rfl|trivial,next (gs.le I8) ss ?_⟩,fun c0 mr cS=>(Hy (x:=p.1) (y:=p.2) (hl1.le (I8.trans cS)) (hp0.le (FM.trans (I8.trans cS))) ⟨sl.1.mono (Nat.le_trans (by omega) (Nat.le_refl 60000)),sl.2.1.mono (by omega),sl.2.2.mono (by omega)⟩ s1 s2 (by omega)).mono ?_⟩
  ·unfold aw.qK;rw [if_pos (.inl (aw.cu.1 (beq_iff_eq.1 c0)))]
  have c0:aw.nv A v≠0:=fun e=>by rw [aw.cu.2 e] at c0;cases c0
  rintro r nN cP rfl
  have I9:=I8.trans (cS.trans cP)
  refine ⟨_,rfl,fun v0=>⟨(((i+1:Nat):Int),_,_,_,_,_,_,_),by dsimp only;omega,by and_intros<;>first|rfl|trivial,next (gs.le I9) ss ?_⟩,fun v0 pH df=>(gz (k:=70000) (hl1.le (I9.trans df)) (hp0.le (FM.trans (I9.trans df))) (sl.1.mono (by omega)) (sl.2.1.mono (by omega)) (sl.2.2.mono (by omega)) (s1.mono (by omega)) (s2.mono (by omega)) (by omega)).mono ?_⟩
  ·unfold aw.qK;rw [if_pos (.inr (aw.cu.1 (beq_iff_eq.1 v0)))]
  have v0:aT A p.1 p.2≠0:=fun e=>by rw [aw.cu.2 e] at v0;cases v0
  have ns:¬(aw.nv A v=0\/aT A p.1 p.2=0):=fun h=>h.elim c0 v0
  rintro r rP dA gD
  have W4:RQ rP r (aT A p.1 p.2):=gD
  obtain ⟨_,_,_,_,_,_,rfl⟩:=gD.shape
  refine ⟨_,_,_,_,_,_,_,rfl,fun yN gZ=>(iU (W4.le gZ) (Ib.le (dz.trans (dm.trans (cS.trans (cP.trans (df.trans (dA.trans gZ))))))) (fun e=>c0 (Rat.num_eq_zero.1 e)) zB zc (by omega)).mono ?_⟩
  rintro r sJ eo gt
  have gt0:=gt
  obtain ⟨_,_,_,_,_,_,rfl⟩:=gt.shape
  have zt:=(zB.mul (fX zc)).neg
  refine ⟨_,_,_,_,_,_,_,rfl,fun wB jE=>(CU (gt0.le jE)).mono ?_⟩
  rintro r tD fa go
  have go0:=go
  obtain ⟨_,_,_,_,_,_,rfl⟩:=go.shape
  have SG:=I9.trans (df.trans (dA.trans (gZ.trans (eo.trans (jE.trans fa)))))
  refine ⟨_,_,_,_,_,_,_,rfl,fun CD oe=>(kx (go0.le oe)).mono ?_⟩
  rintro r D3 gE rfl
  have Oe:=SG.trans (oe.trans gE)
  have eh:-(aT A p.1 p.2*(aw.nv A v)⁻¹)*((2:Int):Rat)⁻¹=-(aT A p.1 p.2*(aw.nv A v)⁻¹)*(1 / 2):=by rw [show (((2:Int):Rat))⁻¹=1 / 2 by decide +kernel]
  have zh:Sz 400000 (-(aT A p.1 p.2*(aw.nv A v)⁻¹)*((2:Int):Rat)⁻¹):=(zt.mul (fX (qv (z:=2) (by omega)))).mono (by omega)
  refine ⟨_,rfl,fun g1 FR oN=>(uq (go0.le (oe.trans (gE.trans oN))) zt (by omega)).mono ?_,fun g1=>⟨(((i+1:Nat):Int),_,_,_,_,_,_,_),by dsimp only;omega,by and_intros<;>first|rfl|trivial,next (gs.le Oe) ss ?_⟩⟩
  ·have g1:-(aT A p.1 p.2*(aw.nv A v)⁻¹)>0:=aw.mP.1 (of_decide_eq_true g1)
   rintro r Il kC gh
   have W6:=gh
   obtain ⟨_,_,_,_,_,_,rfl⟩:=gh.shape
   have Of:=Oe.trans (oN.trans kC)
   refine ⟨_,_,_,_,_,_,_,rfl,fun FT uU=>(zg (W6.le uU) (gs.le (Of.trans uU)) zh ss (by omega)).mono ?_⟩
   rintro r KK rz rfl
   refine ⟨_,rfl,fun g2 FU uV=>(uq (go0.le (oe.trans (gE.trans (oN.trans (kC.trans (uU.trans (rz.trans uV))))))) zt (by omega)).mono ?_,fun g2=>⟨(((i+1:Nat):Int),_,_,_,_,_,_,_),by dsimp only;omega,by and_intros<;>first|rfl|trivial,next (gs.le (Of.trans (uU.trans rz))) ss ?_⟩⟩
   ·have g2:=Ed.1 (of_decide_eq_true g2)
    rintro r MT CF gk
    have W7:=gk
    obtain ⟨_,_,_,_,_,_,rfl⟩:=gk.shape
    refine ⟨_,_,_,_,_,_,_,rfl,(((i+1:Nat):Int),_,_,_,_,_,_,_),by dsimp only;omega,by and_intros<;>first|rfl|trivial,next W7 zh ?_⟩
    rw [eh] at g2 ⊢
    unfold aw.qK;rw [if_neg ns,if_pos ⟨g1,g2⟩]
   ·have g2:¬_:=fun h=>of_decide_eq_false g2 (Ed.2 h)
    rw [eh] at g2
    unfold aw.qK;rw [if_neg ns,if_neg fun h=>g2 h.2]
  ·have g1:¬_:=fun h=>of_decide_eq_false g1 (aw.mP.2 h)
   unfold aw.qK;rw [if_neg ns,if_neg fun h=>g1 h.1]
 ·have hlt:i=ls.length:=by have:=of_decide_eq_false hlt;omega
  subst hlt
  rw [List.take_length] at gs ss
  generalize ls.foldl (aw.qK p v) 1=s at *
  refine (eO (hp0.le (FM.trans FO)) (gs.le FO) (hv0.le (FM.trans FO)) s1 s2 ss (s3.mono (by omega)) (s4.mono (by omega)) (by omega)).mono ?_
  rintro r PN yn gq
  have Nt:=gq
  obtain ⟨_,_,_,_,_,_,_,_,_,_,_,_,rfl,-⟩:=gq
  exact ⟨_,_,_,_,_,_,_,_,_,_,_,_,_,_,rfl,fun T4 I_=>⟨Nt.le I_,(s1.add (ss.mul s3)).mono (by omega),(s2.add (ss.mul s4)).mono (by omega)⟩⟩
theorem Fh {t:Tr}{p v:Rat×Rat}{s:Rat}(s0:s>0)(hf:∀l∈cD t.mq,aw.EG l p v s)(hg:∀l∈aw.cq t p,aw.nv l v≠0){c:Int}(hc:jv t (p.1+s*v.1,p.2+s*v.2) c) :
  c=if (aw.jo t p v).1 then 2 else 0:=by
 have key:∀l∈t.mq,(aT l p.1 p.2≠0->(aT l (p.1+s*v.1) (p.2+s*v.2)).num.sign=(aT l p.1 p.2).num.sign)/\(aT l p.1 p.2=0->(aT l (p.1+s*v.1) (p.2+s*v.2)).num.sign=(aw.nv l v).num.sign):=fun l hl=>by
  rw [aw.EC]
  refine ⟨fun h=>?_,fun h=>?_⟩
  ·have f:=hf _ ((fS t.mq).2 _ |>.2 (List.mem_map_of_mem hl))
   unfold cJ at f
   split at f
   ·have e1:aT (qk l) p.1 p.2=-aT l p.1 p.2:=by unfold aT qk;simp only [Rat.intCast_neg];grind
    have e2:aw.nv (qk l) v=-aw.nv l v:=by unfold aw.nv qk;simp only [Rat.intCast_neg];grind
    unfold aw.EG at f
    rw [e1,e2] at f
    have f:=f (by grind)
    rw [show -aT l p.1 p.2+s*-aw.nv l v=-(aT l p.1 p.2+s*aw.nv l v) by grind,Rat.neg_num,Rat.neg_num,Int.sign_neg,Int.sign_neg] at f
    omega
   ·exact f h
  ·rw [h]
   by_cases c1:aw.nv l v>0
   ·rw [aw.j9.2 c1,aw.j9.2 (by have:=aw.mp s0 c1;grind)]
   ·by_cases c2:aw.nv l v<0
    ·rw [aw.jg.2 c2,aw.jg.2 (by have:=aw.mp s0 (show -aw.nv l v>0 by grind);grind)]
    ·have:aw.nv l v=0:=by grind
     rw [this,show (0:Rat)+s*0=0 by grind]
 obtain ⟨k1,k2⟩:=aw.vI (w:=(1,0)) (q:=(p.1+s*v.1,p.2+s*v.2)) key hg
 rw [ll hc k2,k1]
theorem L8 {D S:List (Rat×Rat)}(h:aw.EJ D S):S≠[]:=by
 rcases h with ⟨-,rfl⟩|⟨h0,-,h2⟩
 ·simp
 ·have hl:0<D.length:=List.length_pos_iff.2 h0
  obtain ⟨x,hx,-⟩:=h2 0 _ _ (List.getElem?_eq_getElem hl) (List.getElem?_eq_getElem (Nat.mod_lt _ hl))
  exact List.ne_nil_of_mem hx
theorem oE {V:View}{e:Value}(he:wE V 0 e){lp:OA}{ln lc:Nat}(hr:EI V lp ln)(hc:ln<=lc) :
  ab prog 4 #[.slice lp ln lc] V fun r V'=>r=.bool true:=by
 refine nS lp ln lc V _ fun V1 l1=>(A8 hc).mono ?_
 rintro r V2 l2 ⟨bk1,rfl,hfr,hb⟩
 refine ⟨bk1,_,_,_,_,rfl,hfr,hb,fun V3 l3 KT e4 h4=>?_⟩
 have cp:V1.Le V3:=fun b o h=>l3 b o ⟨fun hh=>hh.elim (l2 b o h).1 fun e=>by
  have hlt:b<V1.w.heap.size:=by
   rcases Nat.lt_or_ge b V1.w.heap.size with h'|h'
   ·exact h'
   ·have:=h.2;rw [Array.getElem?_eq_none h'] at this;cases this
  have:=e.1
  omega,(l2 b o h).2⟩
 have hmin:min ln 400<=400:=Nat.min_le_right _ _
 have hr:EI V lp (min ln 400):=fun i hi=>hr i (Nat.lt_of_lt_of_le hi (Nat.min_le_left _ _))
 generalize min ln 400=n at *
 have FM:V.Le V3:=l1.trans cp
 refine (KV 4 (V:=V3.au [KT]) (by omega) (hr.le fun b o h=>FM b o h) hmin e4 ⟨by simp,h4⟩ (Int.le_refl 0)).mono ?_
 rintro r V4 l4 ⟨qa,t,F1,rfl,NI,Ic,hsa,t1,hw1⟩
 have Ei:V.Le V4:=fun b o h=>l4 b o (FM b o h)
 refine ⟨_,rfl,_,_,_,_,hw1,fun V5 l5 JY e5 h5=>(zd (V:=V5.au [JY]) (hr.le fun b o h=>l5 b o (Ei b o h)) hmin e5 ⟨by simp,h5⟩ t1 (RW.le (V:=V4) (V':=V5.au _) (fun b o h=>l5 b o h) NI) Ic (by omega)).mono ?_⟩
 rintro r V6 l6 ⟨p,at2,hp,sp1,sp2,t2,hw2⟩
 have hp0:=hp
 obtain ⟨_,_,_,_,_,_,_,_,_,_,_,_,rfl,-⟩:=hp
 have l46:V4.Le V6:=fun b o h=>l6 b o (l5 b o h)
 have Qg:sS (wr 0 t) (rt 0 t)=some t:=Hg (Jj Ic) (by omega)
 have Uy:∀x∈wr 0 t,Bd x.ln:=pY (LH Ic)
 refine ⟨_,_,_,_,_,_,_,_,_,_,_,_,_,_,rfl,_,_,_,_,hw2,fun V7 l7=>(n_ (RW.le (V:=V4) (V':=V7) (fun b o h=>l7 b o (l46 b o h)) NI) Ic (by omega)).mono ?_⟩
 rintro r V8 l8 hA
 have Nu:=hA
 obtain ⟨pa,na,ca,rfl,-⟩:=hA
 have Vv:V6.Le V8:=fun b o h=>l8 b o (l7 b o h)
 refine ⟨_,_,_,_,rfl,fun V9 l9=>(gK (hp0.le (Vv.trans l9)) sp1 sp2 (by omega)).mono ?_⟩
 rintro r ie l10 hq
 have hq0:=hq
 obtain ⟨_,_,_,_,_,_,_,_,_,_,_,_,_,_,rfl,-⟩:=hq
 have Lx:=l9.trans l10
 have Bz:=Vv.trans Lx
 refine ⟨_,_,_,_,_,_,_,_,_,_,_,_,_,_,rfl,fun gV bI=>(iQ (p:=p) Uy (Nu.le (Lx.trans bI)) (D2.of (p:=p) (hq0.le bI) sp1 sp2 (by omega)) (sp1.mono (by omega)) (sp2.mono (by omega)) (fun t' ht=>by rw [Qg] at ht;cases ht;omega) (fun _ _ n c=>HO n c _) (he.le (Ei.trans (l46.trans (Bz.trans bI))))).mono ?_⟩
 rintro r lO cg ⟨-,q1⟩
 obtain ⟨k1,rfl,hk1⟩:=q1 t Qg
 have Kf:=bI.trans cg
 refine ⟨_,_,rfl,sR.1,(fun h=>by rw [sR.2] at h;cases h),fun _ pC dz=>(nZ (RW.le (V:=V4) (l46.trans (Bz.trans (Kf.trans dz))) NI) Ic (by omega)).mono ?_⟩
 rintro r nh dm ⟨ps,m,cs,rfl,hL⟩
 obtain ⟨d1,d2,d3,d4⟩:=IJ Ic
 have Kg:=Kf.trans (dz.trans dm)
 refine ⟨_,_,_,rfl,fun mr cS=>(sM (hL.le cS fun _ _ g=>l_.le g cS) d1 d2 d3 (by omega) (hp0.le (Bz.trans (Kg.trans cS))) (sp1.mono (by omega)) (sp2.mono (by omega))).mono ?_⟩
 rintro r nN cP ⟨q',n',c',E,S,rfl,ry,sm,pm,hS,hl⟩
 have cv:=Gn pm
 have hn:=hl.len
 subst hn
 have Ki:=cS.trans cP
 have N7:=Kg.trans Ki
 refine ⟨_,_,_,rfl,fun z _=>∃i:Nat,z.2.2=(i:Int)/\i<=S.length/\0<=z.1/\z.1<=i/\0<=z.2.1/\z.2.1<=i/\(z.1>0↔aw.anyS t p (S.take i)=true)/\(z.2.1>0↔aw.iK t p (S.take i)=false),fun z=>(S.length-z.2.2).toNat,⟨(0,0,0),by and_intros<;>first|rfl|trivial,0,rfl,Nat.zero_le _,by decide,by decide,by decide,by decide,by simp [aw.anyS],by simp [aw.iK]⟩,?_⟩
 rintro ⟨z1,z2,z3⟩ pH df ⟨i,e,hi,f0,f1,f2,f3,f4,f5⟩
 dsimp only at e f0 f1 f2 f3 f4 f5 ⊢
 subst e
 have GM:=N7.trans df
 have Kj:=Ki.trans df
 have N4:=Ei.trans (l46.trans (Bz.trans GM))
 refine ⟨by trivial,fun hlt=>?_,fun hlt Il kC=>(EU (he.le (N4.trans kC))).mono ?_⟩
 ·have hlt:i<S.length:=by have:=of_decide_eq_true hlt;omega
  have w1:i64.wrap ((i:Int)+1)=((i+1:Nat):Int):=by rw [ar (by omega)];rfl
  rw [w1,Int.toNat_natCast]
  obtain ⟨is,x1,x2,x3,x4,x5,x6,x7,x8,x9,x10,Mh,Mi,Mj,Mk,a,had,a0,a1,a2,a3,a4,a5,g1⟩:=Je (hl.le df fun _ _ g=>tR.le g df) hlt
  have hm:=List.getElem_mem hlt
  have gen:=cv.gen (aw.qt ry sm _ hm)
  refine ⟨is,⟨by omega,by omega⟩,x1,x2,x3,x4,x5,x6,x7,x8,x9,x10,Mh,Mi,Mj,Mk,a,had,a0,a1,a2,a3,a4,a5,fun rP dA=>(zk (v:=S[i]) (hL.le (Kj.trans dA) fun _ _ g=>l_.le g (Kj.trans dA)) d1 (by omega) (hp0.le (Bz.trans (GM.trans dA))) (g1.1.le dA) sp1 sp2 g1.2.1 g1.2.2).mono ?_⟩
  rintro r yN gZ ⟨gq,TE,TF⟩
  obtain ⟨s0,-,hfr⟩:=aw.yu (p:=p) (v:=S[i]) (ls:=cD t.mq) (s:=1) (by decide)
  have hfree:∀l∈cD t.mq,aw.EG l p S[i] ((cD t.mq).foldl (aw.qK p S[i]) 1):=fun l hl=>hfr l hl _ s0 (by grind)
  clear hfr
  generalize (cD t.mq).foldl (aw.qK p S[i]) 1=s at *
  have Nt:=gq
  obtain ⟨_,_,_,_,_,_,_,_,_,_,_,_,rfl,-⟩:=gq
  refine ⟨_,_,_,_,_,_,_,_,_,_,_,_,_,_,rfl,fun sJ eo=>(gK (Nt.le eo) TE TF (by omega)).mono ?_⟩
  rintro r wB jE hv
  have hv0:=hv
  obtain ⟨_,_,_,_,_,_,_,_,_,_,_,_,_,_,rfl,-⟩:=hv
  have Kk:=dA.trans (gZ.trans (eo.trans jE))
  have N8:=GM.trans Kk
  refine ⟨_,_,_,_,_,_,_,_,_,_,_,_,_,_,rfl,fun tD fa=>(iQ (p:=(p.1+s*S[i].1,p.2+s*S[i].2)) Uy (Nu.le (Lx.trans (N8.trans fa))) (D2.of (p:=(p.1+s*S[i].1,p.2+s*S[i].2)) (hv0.le fa) TE TF (by omega)) (TE.mono (by omega)) (TF.mono (by omega)) (fun t' ht=>by rw [Qg] at ht;cases ht;omega) (fun _ _ n c=>HO n c _) (he.le (N4.trans (Kk.trans fa)))).mono ?_⟩
  rintro r CD oe ⟨-,q2⟩
  obtain ⟨k2,rfl,hk2⟩:=q2 t Qg
  have e2:=Fh s0 hfree gen hk2
  have i1:0<=z1/\z1<3000:=⟨f0,by omega⟩
  have i2:0<=z2/\z2<3000:=⟨f2,by omega⟩
  have w2:i64.wrap (z1+1)=z1+1:=ar (by omega)
  have w3:i64.wrap (z2+1)=z2+1:=ar (by omega)
  have ea:=qQ (t:=t) (p:=p) hlt
  have el:=qO (t:=t) (p:=p) hlt
  cases ht:(aw.jo t p S[i]).1
  ·rw [ht,if_neg (by decide)] at e2
   rw [ht] at ea el
   subst e2
   refine ⟨_,_,rfl,sR.1,(fun h=>by rw [sR.2] at h;cases h),fun _=>⟨(fun h=>by cases h),fun _=>⟨(fun h=>by cases h),fun _=>⟨(z1,z2+1,((i+1:Nat):Int)),by dsimp only;omega,?_,i+1,rfl,by omega,by dsimp only;omega,by dsimp only;omega,by dsimp only;omega,by dsimp only;omega,?_,?_⟩⟩⟩⟩
   ·rw [w3];and_intros<;>first|rfl|trivial
   ·rw [ea,Bool.or_false];exact f4
   ·rw [el,Bool.and_false];dsimp only;exact ⟨fun _=>rfl,fun _=>by omega⟩
  ·rw [ht,if_pos rfl] at e2
   rw [ht] at ea el
   subst e2
   refine ⟨_,_,rfl,sR.1,(fun h=>by rw [sR.2] at h;cases h),fun _=>⟨(fun h=>by cases h),fun _=>⟨fun _=>⟨(z1+1,z2,((i+1:Nat):Int)),by dsimp only;omega,?_,i+1,rfl,by omega,by dsimp only;omega,by dsimp only;omega,by dsimp only;omega,by dsimp only;omega,?_,?_⟩,(fun h=>by cases h)⟩⟩⟩
   ·rw [w2];and_intros<;>first|rfl|trivial
   ·rw [ea,Bool.or_true];dsimp only;exact ⟨fun _=>rfl,fun _=>by omega⟩
   ·rw [el,Bool.and_true];exact f5
 ·have hlt:i=S.length:=by have:=of_decide_eq_false hlt;omega
  subst hlt
  rw [List.take_length] at f4 f5
  rintro r FT uU rfl
  have kc:k1=zv (aw.anyS t p S) (aw.iK t p S):=hk1 E S ry sm cv
  have ka:=@D4 t p S (L8 sm)
  refine ⟨_,rfl,fun _=>?_,fun h=>by cases h⟩
  cases h1:aw.anyS t p S<;>cases h2:aw.iK t p S<;>rw [h1,h2] at kc<;>rw [h1] at f4 ka<;>rw [h2] at f5 ka
  ·have y1:¬z1>0:=fun h=>by have:=f4.1 h;cases this
   have y2:z2>0:=f5.2 rfl
   have y3:z1=0:=by omega
   have y4:¬z2=0:=by omega
   subst kc y3
   simp [zv,y2,y4]<;>exact fun _ _=>rfl
  ·have:=ka rfl;cases this
  ·have y1:z1>0:=f4.2 rfl
   have y2:z2>0:=f5.2 rfl
   subst kc
   simp [zv,y1,y2]<;>exact fun _ _=>rfl
  ·have y1:z1>0:=f4.2 rfl
   have y2:¬z2>0:=fun h=>by have:=f5.1 h;cases this
   have y3:z2=0:=by omega
   subst kc y3
   simp [zv,y1]<;>exact fun _ _=>rfl
end Go.Proofs.Tryz
