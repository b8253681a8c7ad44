/- A part of the proof (joined by program from: LocF, WriteA, Bare, VLaw14, LawA, VKnown15, Law15A, KeepA, NewA, LawC, VLaw15L, Law15L, LLvF1, LLvF2, LLvF3, LLvF4, LLvF5). -/
import Derived.Test.YtcbcbdbheiopbaaGreatDoorL19
import Derived.Test.YtcbcbdbheiopbaaGreatDoorL16
import Derived.Test.YtcbcbdbheiopbaaGreatDoorL14
import Derived.Test.YtcbcbdbheiopbaaGreatDoorL5
set_option linter.unusedVariables false
open Go.IntKind (i64 u64 u32)
/- Contracts: the point at which the laws of locate look (keep.Place). -/
namespace Go.Proofs.Tryz
open Go.Eng Go.Big
theorem lst_rlv {V:View} {p:OA} {n:Nat} {al:List L3} (h:Lst 6 RLv V p n al) {i:Nat} (hi:i < al.length) :
  p.isSome=true/\∃(b1:Bool) (p1:OA) (n1 c1:Nat) (b2:Bool) (p2:OA) (n2 c2:Nat) (b3:Bool) (p3:OA) (n3 c3:Nat) (a:Addr),addrAdd p (i * 6)=some a/\V.at (a.add 0) (.bool b1)/\V.at (a.add 1) (.slice p1 n1 c1)/\V.at (a.add 2) (.bool b2)/\V.at (a.add 3) (.slice p2 n2 c2)/\V.at (a.add 4) (.bool b3)/\V.at (a.add 5) (.slice p3 n3 c3) /\
   RLv V (.agg #[.bool b1,.slice p1 n1 c1,.bool b2,.slice p2 n2 c2,.bool b3,.slice p3 n3 c3]) al[i]:=by
 obtain ⟨ad,h0,xs,h1,h2,h3⟩:=h.at_ i hi
 have h20:=h2
 obtain ⟨_,_,_,_,_,_,_,_,_,_,_,_,e⟩:=rlv_shape h2
 have e:=congrArg Array.toList (Value.agg.inj e)
 dsimp only at e
 subst e
 refine ⟨?_,_,_,_,_,_,_,_,_,_,_,_,_,ad,h0,h3 0 _ rfl,h3 1 _ rfl,h3 2 _ rfl,h3 3 _ rfl,h3 4 _ rfl,h3 5 _ rfl,h20⟩
 cases p with
 | none=>cases h0
 | some a=>rfl
theorem sz_meet {l m:L3} {k:Nat} (sl:SzL k l) (sm:SzL k m):Sz (20 * k + 20) (meX l m)/\Sz (20 * k + 20) (meY l m):=by
 unfold meX meY crossL
 obtain ⟨a1,a2,a3⟩:=sl
 obtain ⟨b1,b2,b3⟩:=sm
 exact ⟨(Sz.mul ((a2.mul b3).sub (a3.mul b2)) (sz_inv ((a1.mul b2).sub (a2.mul b1)))).mono (by omega),(Sz.mul ((a3.mul b1).sub (a1.mul b3)) (sz_inv ((a1.mul b2).sub (a2.mul b1)))).mono (by omega)⟩
theorem distL_ok {q:L3->Prop} (hq:∀l,q l->q (canL l)) {ls:List L3} (h:∀l ∈ ls,q l):∀l ∈ distL ls,q l:=fun l hl=>by
 obtain ⟨m,hm,rfl⟩:=List.mem_map.1 ((distL_spec ls).2 l |>.1 hl)
 exact hq m (h m hm)
theorem nz_can {l:L3} (h:Nz l):Nz (canL l):=by
 unfold canL
 split
 ·unfold Nz revL at *
  intro ⟨a,b⟩
  exact h ⟨by simpa using a,by simpa using b⟩
 ·exact h
theorem c_keep_Place {V:View} {tb:Nat} {lp:OA} {n c:Nat} {at_:Int} (hr:Rdl V lp n) (hn:n<=400) (hw:TpAt V tb lp n c at_) (hx:V.X tb) (h0:0<=at_) {q:OA} {t:Tr} (h:RW V q t) (ha:t.All Okb) (hs:t.size<=1000) :
  Acts prog 17 #[.pointer (some ⟨tb,0,none⟩),.pointer q] V fun r V'=>∃(p:Rat × Rat) (at':Int),RP V' r p.1 p.2/\Sz 60000 p.1/\Sz 60000 p.2/\0<=at'/\TpAt V' tb lp n c at':=by
 have hb:∀l ∈ distL t.lns,Bd l:=distL_ok (fun _ h=>h.can) fun l hl=>(lns_all ha l hl).2
 have hz:∀l ∈ distL t.lns,Nz l:=distL_ok (fun _ h=>nz_can h) fun l hl=>okL_nz (lns_all ha l hl).1
 have hlen:(distL t.lns).length<=1000:=by have:=distL_len t.lns; rw [lns_len] at this; omega
 refine vc_keep_Place tb lp n c at_ q V _ hw hx fun V1 l1=>(c_ref14_Lines (h.le l1) ha (by omega)).mono ?_
 rintro r V2 l2 ⟨ps,m,e,rfl,hL⟩
 generalize distL t.lns=L at *
 have hm:=hL.len
 subst hm
 have l02:=l1.trans l2
 have any:∀{W W':View} {bk:Nat} {a:Int},V.Le W->0<=a->TpAt W bk lp n c a->W.H bk->Acts prog 71 #[.pointer (some ⟨bk,0,none⟩)] (W.lend [bk]) fun r V'=>∃(x y:Rat) (at':Int),RP V' r x y/\Sz 10 x/\Sz 10 y/\0<=at'/\TpAt V' bk lp n c at':=fun {W _ bk a} lw a0 hw hh=>
  c_Point (V:=W.lend [bk]) (hr.le fun b o h=>lw b o h) hn hw ⟨by simp,hh⟩ a0
 refine ⟨_,_,_,rfl,fun g V3 l3 bk e1 e2=>(any (W':=V) (l02.trans l3) h0 e1 e2).mono ?_,fun g V6 l6 bk e1 e2=>?_⟩
 ·rintro r V4 l4 ⟨x,y,at',hp,sx,sy,t0,hw'⟩
  have hp0:=hp
  obtain ⟨_,_,_,_,_,_,_,_,_,_,_,_,rfl,-⟩:=hp
  exact ⟨_,_,_,_,_,_,_,_,_,_,_,_,_,_,rfl,_,_,_,_,hw',fun V5 l5 e5=>⟨(x,y),at',hp0.le fun b o h=>l5 b o h,sx.mono (by omega),sy.mono (by omega),t0,e5⟩⟩
 have g:0 < L.length:=by
  have g:¬ ((L.length:Nat):Int)=0:=by simpa using g
  omega
 refine (c_Next (V:=V6.lend [bk]) (L.length:Int) (hr.le fun b o h=>l6 b o (l02 b o h)) hn e1 ⟨by simp,e2⟩ h0 (by omega) (by omega)).mono ?_
 rintro r V7 l7 ⟨x,at1,rfl,x0,x1,t1,hw1⟩
 obtain ⟨i,rfl⟩:∃i:Nat,x=i:=⟨x.toNat,by omega⟩
 have hi:i < L.length:=by omega
 have l27:V2.Le V7.shut:=fun b o h=>l7 b o (l6 b o h)
 obtain ⟨is,b1,p1,n1,c1,b2,p2,n2,c2,b3,p3,n3,c3,a,had,a0,a1,a2,a3,a4,a5,hl1⟩:=lst_rlv (hL.le l27 fun _ _ g=>RLv.le g l27) hi
 have sl1:=(hb _ (List.getElem_mem hi)).szl
 have nz1:=hz _ (List.getElem_mem hi)
 generalize L[i]=A at *
 refine ⟨_,rfl,_,_,_,_,hw1,is,⟨by omega,by omega⟩,b1,p1,n1,c1,b2,p2,n2,c2,b3,p3,n3,c3,a,had,a0,a1,a2,a3,a4,a5,fun V8 l8 bk2 e3 e4=>(c_Next (V:=V8.lend [bk2]) 3 (hr.le fun b o h=>l8 b o (l27 b o (l02 b o h))) hn e3 ⟨by simp,e4⟩ t1 (by omega) (by omega)).mono ?_⟩
 rintro r V9 l9 ⟨y,at2,rfl,y0,y1,t2,hw2⟩
 have l29:∀{W:View},V9.shut.Le W->V2.Le W:=fun l b o h=>l b o (l9 b o (l8 b o (l27 b o h)))
 have l79:∀{W:View},V9.shut.Le W->V7.shut.Le W:=fun l b o h=>l b o (l9 b o (l8 b o h))
 refine ⟨_,rfl,_,_,_,_,hw2,fun g1 V10 l10 bk3 e5 e6=>(c_Next (V:=V10.lend [bk3]) (L.length:Int) (hr.le fun b o h=>l29 l10 b o (l02 b o h)) hn e5 ⟨by simp,e6⟩ t2 (by omega) (by omega)).mono ?_,fun g1=>⟨fun g2 V18 l18 bk3 e5 e6=>(c_Q (V:=V18.lend [bk3]) (hr.le fun b o h=>l29 l18 b o (l02 b o h)) hn e5 ⟨by simp,e6⟩ t2).mono ?_,fun g2 V23 l23 bk3 e5 e6=>(any (W':=V) (l02.trans (l29 l23)) t2 e5 e6).mono ?_⟩⟩
 ·rintro r V11 l11 ⟨z,at3,rfl,z0,z1,t3,hw3⟩
  obtain ⟨j,rfl⟩:∃j:Nat,z=j:=⟨z.toNat,by omega⟩
  have hj:j < L.length:=by omega
  have l211:V2.Le V11.shut:=fun b o h=>l11 b o (l29 l10 b o h)
  obtain ⟨is,b1',p1',n1',c1',b2',p2',n2',c2',b3',p3',n3',c3',a',had',a0',a1',a2',a3',a4',a5',hl2⟩:=lst_rlv (hL.le l211 fun _ _ g=>RLv.le g l211) hj
  have sl2:=(hb _ (List.getElem_mem hj)).szl
  generalize L[j]=B at *
  have l711:V7.shut.Le V11.shut:=fun b o h=>l11 b o (l79 l10 b o h)
  refine ⟨_,rfl,_,_,_,_,hw3,is,⟨by omega,by omega⟩,b1',p1',n1',c1',b2',p2',n2',c2',b3',p3',n3',c3',a',had',a0',a1',a2',a3',a4',a5',fun V12 l12=>(r_Meet (hl1.le (l711.trans l12)) (hl2.le l12) sl1 sl2 (by omega)).mono ?_⟩
  rintro r V13 l13 ⟨u,rfl,q0,q1⟩
  obtain ⟨s1,s2⟩:=sz_meet sl1 sl2
  by_cases hc:crossL A B=0
  ·have:=q0 hc
   unfold QZero at this
   subst this
   refine ⟨_,_,_,_,_,_,_,_,_,_,_,_,_,_,_,rfl,fun h=>by simp [hc] at h,fun _ V15 l15 bk4 e7 e8=>(any (W':=V) (l02.trans (l211.trans (l12.trans (l13.trans l15)))) t3 e7 e8).mono ?_⟩
   rintro r V16 l16 ⟨x,y,at',hp,sx,sy,t0,hw'⟩
   have hp0:=hp
   obtain ⟨_,_,_,_,_,_,_,_,_,_,_,_,rfl,-⟩:=hp
   exact ⟨_,_,_,_,_,_,_,_,_,_,_,_,_,_,rfl,_,_,_,_,hw',fun V5 l5 e5=>⟨(x,y),at',hp0.le fun b o h=>l5 b o h,sx.mono (by omega),sy.mono (by omega),t0,e5⟩⟩
  ·have hp:=q1 hc
   have hp0:=hp
   obtain ⟨_,_,_,_,_,_,_,_,_,_,_,_,rfl,-⟩:=hp
   refine ⟨_,_,_,_,_,_,_,_,_,_,_,_,_,_,_,rfl,fun _ V14 l14 e7=>⟨(meX A B,meY A B),at3,hp0.le l14,s1.mono (by omega),s2.mono (by omega),t3,e7⟩,fun h=>by simp [hc] at h⟩
 ·rintro r V19 l19 ⟨qq,at3,hq,sq,t3,hw3⟩
  have hq0:=hq
  obtain ⟨_,_,_,_,_,_,rfl⟩:=hq.shape
  refine ⟨_,_,_,_,_,_,_,rfl,_,_,_,_,hw3,fun V20 l20=>(r_At (hl1.le fun b o h=>l20 b o (l19 b o (l79 l18 b o h))) (hq0.le fun b o h=>l20 b o h) nz1 sl1 (sq.mono (by omega)) (by omega)).mono ?_⟩
  rintro r V21 l21 hp
  have hp0:=hp
  obtain ⟨_,_,_,_,_,_,_,_,_,_,_,_,rfl,-⟩:=hp
  exact ⟨_,_,_,_,_,_,_,_,_,_,_,_,_,_,rfl,fun V22 l22 e7=>⟨(atX A qq,atY A qq),at3,hp0.le l22,(sz_atX sl1 (sq.mono (by omega))).mono (by omega),(sz_atY sl1 (sq.mono (by omega))).mono (by omega),t3,e7⟩⟩
 ·rintro r V24 l24 ⟨x,y,at',hp,sx,sy,t0,hw'⟩
  have hp0:=hp
  obtain ⟨_,_,_,_,_,_,_,_,_,_,_,_,rfl,-⟩:=hp
  exact ⟨_,_,_,_,_,_,_,_,_,_,_,_,_,_,rfl,_,_,_,_,hw',fun V5 l5 e5=>⟨(x,y),at',hp0.le fun b o h=>l5 b o h,sx.mono (by omega),sy.mono (by omega),t0,e5⟩⟩
end Go.Proofs.Tryz
/- Contracts: the reference writes a tree; Same of written trees. -/
namespace Go.Proofs.Tryz
open Go.Eng Go.Big
theorem rw_isS {V:View} {t:Tr} {p:OA} (h:RW V p t):p.isSome=true:=by
 cases t with
 | leaf i=>obtain ⟨b,c2,c3,c4,c5,c6,c7,c8,c9,rfl,hb⟩:=h; rfl
 | node l x y=>obtain ⟨b,i,b1,p1,n1,c1,b2,p2,n2,c2,b3,p3,n3,c3,pl,pr,rfl,-⟩:=h; rfl
theorem c_write:∀(t:Tr) {V:View} {p:OA} {lb:Nat} {n c:Nat} {vs:List Value} {l:List Nd},RW V p t->t.All Okb->n=l.length ->
  (vs≠[]->V.w.heap[lb]?=some (.cells vs.toArray 82 (0,0)))->(vs≠[]->V.X lb)->n<=c->c * 8<=vs.length->NR V vs l->n + t.size<=1000000 ->
  Acts prog 76 #[.pointer p,.slice (mA lb c) n c] V fun r V'=>∃(bm:Nat) (vm:List Value) (c':Nat),(vm≠[]->V'.w.heap[bm]?=some (.cells vm.toArray 82 (0,0)))/\(vm≠[]->V.w.heap.size<=bm \/ (vs≠[]/\bm=lb)) /\
   r=.tuple #[.slice (mA bm c') (n + t.size) c',.int .i64 (rt n t)]/\n + t.size<=c'/\c' * 8<=vm.length/\NR (V'.hideG (vm≠[]) bm) vm (l++wr n t):=by
 intro t
 induction t with
 | leaf i=>
  intro V p lb n c vs l hp _ hn hv hxv hnc hcv hnr hsz
  have hs:=rw_isS hp
  obtain ⟨b,c2,c3,c4,c5,c6,c7,c8,c9,rfl,hb⟩:=hp
  have fin:∀(V3:View) (bk:Nat) (x:Int),V.Le (V3.hideG (vs≠[]) bk)->(vs≠[]->V3.w.heap[bk]?=some (.cells vs.toArray 82 (0,0))) ->
    (vs≠[]->V.w.heap.size<=bk \/ (vs≠[]/\bk=lb) \/ False)->x=rt n (.leaf i)->∃(bm:Nat) (vm:List Value) (c':Nat),(vm≠[]->V3.w.heap[bm]?=some (.cells vm.toArray 82 (0,0)))/\(vm≠[]->V.w.heap.size<=bm \/ (vs≠[]/\bm=lb)) /\
   Value.tuple #[.slice (mA bk c) n c,.int .i64 x]=.tuple #[.slice (mA bm c') (n + (Tr.leaf i).size) c',.int .i64 (rt n (.leaf i))]/\n + (Tr.leaf i).size<=c'/\c' * 8<=vm.length/\NR (V3.hideG (vm≠[]) bm) vm (l++wr n (.leaf i)):=by
   intro V3 bk x hle e3 e4 hx
   refine ⟨bk,vs,c,e3,fun h=>?_,by rw [hx]; rfl,hnc,hcv,?_⟩
   ·rcases e4 h with h | h | h
    ·exact .inl h
    ·exact .inr h
    ·exact h.elim
   ·simp only [wr,List.append_nil]
    exact hnr.le hle
  refine vc_ref14_write _ lb n c vs V _ hv hxv ⟨hs,hs,true,rdc hb 0 rfl,fun _=>⟨hs,hs,i,rdc hb 1 rfl,fun hi V1 bk a1 a2 a3=>fin V1 bk _ a1 a2 a3 (by subst hi; rfl),fun hi V2 bk a1 a2 a3=>fin V2 bk _ a1 a2 a3 (by subst hi; rfl)⟩,fun h=>by cases h⟩
 | node ln x y ihx ihy=>
  intro V p lb n c vs l hp hall hn hv hxv hnc hcv hnr hsz
  have hs:=rw_isS hp
  simp only [Tr.size] at hsz
  obtain ⟨⟨-,hbd⟩,hax,hay⟩:=hall
  obtain ⟨b,i,b1,p1,n1,c1,b2,p2,n2,c2,b3,p3,n3,c3,pl,pr,rfl,hb,hl,hx,hy⟩:=hp
  have hat:∀j v,([.bool b1,.slice p1 n1 c1,.bool b2,.slice p2 n2 c2,.bool b3,.slice p3 n3 c3]:List Value)[j]?=some v->V.at (((⟨b,2,none⟩:Addr)).add j) v:=by
   intro j v hv
   have hj:j < 6:=by
    rcases Nat.lt_or_ge j 6 with hj | hj
    ·exact hj
    ·rw [List.getElem?_eq_none (by simpa using hj)] at hv; cases hv
   have h2:(⟨b,2,none⟩:Addr)=(⟨b,0,none⟩:Addr).add 2:=by rw [add_zero']
   rw [h2,addadd,add_zero']
   refine blk_at (xs:=[_,_,_,_,_,_,_,_,_,_]) hb ?_
   match j,hj,hv with
   | 0,_,hv=>exact hv
   | 1,_,hv=>exact hv
   | 2,_,hv=>exact hv
   | 3,_,hv=>exact hv
   | 4,_,hv=>exact hv
   | 5,_,hv=>exact hv
  obtain ⟨t1,t2,t3⟩:=hbd.digs
  refine vc_ref14_write _ lb n c vs V _ hv hxv ⟨hs,hs,false,rdc hb 0 rfl,(fun h=>by cases h),fun _=>⟨hs,hs,b1,p1,n1,c1,b2,p2,n2,c2,b3,p3,n3,c3,⟨b,2,none⟩,by simp [addrAdd,add_zero'],hat 0 _ rfl,hat 1 _ rfl,hat 2 _ rfl,hat 3 _ rfl,hat 4 _ rfl,hat 5 _ rfl,fun V3 l3=>(c_ref04_ToL (hl.le l3) (by omega) (by omega) (by omega)).mono ?_⟩⟩
  rintro r V4 l4 hRL
  have hRL0:=hRL
  obtain ⟨d1,q1,m1,e1,d2,q2,m2,e2,d3,q3,m3,e3,rfl⟩:=RL_shape' hRL
  have l04:=l3.trans l4
  refine ⟨_,_,_,_,_,_,_,_,_,_,_,_,rfl,by omega,hnc,hcv,rfl,by intro v hv; simp at hv; rcases hv with rfl | rfl | rfl | rfl | rfl | rfl | rfl | rfl <;> rfl,fun sp c' g1 g2=>?_⟩
  have hb4:=l04 _ _ hb
  refine ⟨hs,hs,pl,rdc hb4 8 rfl,fun V5 l5 bk1 f1 f2=>?_⟩
  have hpush:=NR.push (sp:=sp) (x:=0) (y:=0) (hnr.le l04) (by omega) (ln:=ln) hRL0
  rw [← hn] at hpush
  generalize hrow:vs.take (n * 8)++([_,_,_,_,_,_,_,_]:List Value)++sp=row at f1 f2 hpush ⊢
  have hrl:row.length=n * 8 + 8 + sp.length:=by
   rw [← hrow]; simp only [List.length_append,List.length_take,List.length_cons,List.length_nil]; omega
  have hrne:row≠[]:=fun e=>by rw [e] at hrl; simp only [List.length_nil] at hrl; omega
  have l05:=l04.trans l5
  have i1:=ihx (V:=V5.lend [vb row V5.w.heap.size bk1]) (p:=pl) (lb:=bk1) (n:=n + 1) (c:=c') (vs:=row) (l:=l++[⟨ln,0,0⟩]) (RW.le (V:=V) (V':=V5.lend _) (fun b o h=>l05 b o h) hx) hax (by simp [hn]) f1 (fun h=>⟨by simp [vb_ne h],f2 h⟩) g1 (by omega) (NR.le (V:=V4) (V':=V5.lend _) hpush fun b o h=>l5 b o h) (by omega)
  refine i1.mono ?_
  rintro r V6 l6 ⟨bm,vm,c1',a1,a2,rfl,a5,a6,a7⟩
  have l56:V5.Le V6:=fun b o h=>l6 b o h
  have l5h:V5.Le (V6.shut.hideG (vm≠[]) bm):=le_hideG (V':=V5) l56 (View.Le.refl V5) fun h=>(a2 h).imp id fun h'=>by rw [h'.2]; exact f2 hrne
  refine ⟨bm,vm,a1,a2,none,_,_,_,rfl,hs,hs,pr,rdc ((l05.trans l5h) _ _ hb) 9 rfl,fun V7 l7 bk2 d1 d2=>?_⟩
  have hvmne:vm≠[]:=fun e=>by rw [e] at a6; simp at a6; omega
  have l07:V.Le V7:=(l05.trans l5h).trans l7
  have i2:=ihy (V:=V7.lend [vb vm V7.w.heap.size bk2]) (p:=pr) (lb:=bk2) (n:=n + 1 + x.size) (c:=c1') (vs:=vm) (l:=l++[⟨ln,0,0⟩]++wr (n + 1) x) (RW.le (V:=V) (V':=V7.lend _) (fun b o h=>l07 b o h) hy) hay (by simp [hn,wr_length]; omega) d1 (fun h=>⟨by simp [vb_ne h],d2 h⟩) a5 a6 (NR.le (V:=V6.hideG (vm≠[]) bm) (V':=V7.lend _) a7 fun b o h=>l7 b o h) (by omega)
  refine i2.mono ?_
  rintro r V8 l8 ⟨bn,vn,c2',b1',b2',rfl,b5,b6,b7⟩
  have hlen:n * 8 + 8<=vn.length:=by omega
  simp only [Int.toNat_natCast]
  refine ⟨bn,vn,b1',b2',none,_,_,_,rfl,⟨by omega,by omega⟩,b5,by omega,⟨by omega,by omega⟩,b5,by rw [List.length_set]; omega,fun V9 bk3 u1 u4 u5=>?_⟩
  have hfin:=NR.kids (V:=V8.hideG (vn≠[]) bn) (l:=l) (r:=wr (n + 1) x++wr (n + 1 + x.size) y) (ln:=ln) (u:=0) (v:=0) (x:=rt (n + 1) x) (y:=rt (n + 1 + x.size) y) (by simpa using b7)
  rw [← hn] at hfin
  refine ⟨bk3,_,c2',u4,fun h=>?_,by rw [show n + (Tr.node ln x y).size=n + 1 + x.size + y.size from by simp only [Tr.size]; omega]; rfl,by simp only [Tr.size]; omega,by simp only [List.length_set]; omega,?_⟩
  ·rcases u5 h with h | h | h
   ·exact .inl h
   ·exact .inr h
   ·exact h.elim
  ·simp only [wr]
   exact NR.le (V:=V8.hideG (vn≠[]) bn) hfin fun b o h=>u1 b o h
theorem c_ref14_Write {V:View} {p:OA} {t:Tr} (h:RW V p t) (ha:t.All Okb) (hs:t.size<=1000000) :
  Acts prog 19 #[.pointer p] V fun r V'=>AT V' r (rt 0 t) (wr 0 t):=by
 refine vc_ref14_Write p V _ fun V1 l1=>?_
 refine Acts.monoH (c_write t (V:=V1) (lb:=0) (vs:=[]) (l:=[]) (n:=0) (c:=0) (h.le l1) ha rfl (fun h=>absurd rfl h) (fun h=>absurd rfl h) (Nat.le_refl _) (Nat.le_refl _) (fun i d hd=>by simp at hd) (by omega)) ?_
 rintro r V2 l2 hH ⟨bm,vm,c',a1,a2,rfl,a5,a6,a7⟩
 refine ⟨bm,vm,a1,fun h=>(a2 h).imp id fun h'=>absurd rfl h'.1,none,_,_,_,rfl,fun V3 l3 bk hb=>?_⟩
 simp only [List.nil_append,Nat.zero_add] at a7 a5 ⊢
 have:=NS.ofRow (V:=V3) (b:=bk) (c:=c') (vm:=vm) (l:=wr 0 t) (ty:=82) hb (by rw [wr_length]; exact a5) (a7.le fun b o h=>l3 b o h)
 rw [wr_length] at this
 exact ⟨_,_,_,rfl,this⟩
end Go.Proofs.Tryz
/- A box that is lent to a function that only reads it: from the contract of what is seen. -/
namespace Go.Eng
/-- The same view, in which block b is seen. -/
def View.bare (V:View) (b:Nat):View:=⟨V.w,fun x=>V.H x/\x≠b,fun x=>V.X x/\x≠b,fun x h=>V.hH x h.1,fun x h=>⟨V.hX x h.1,h.2⟩⟩
theorem View.bare_le (V:View) (b:Nat):V.Le (V.bare b):=fun _ _ h=>⟨fun hh=>h.1 hh.1,h.2⟩
theorem Acts.bare {P:Program} {f:FuncId} {args:Array Value} {V:View} {b:Nat} {R:Value->View->Prop} (hs:b < V.w.heap.size) (h:Acts P f args (V.bare b) R) :
  Acts P f args V fun r V'=>V'.w.heap[b]?=V.w.heap[b]?/\R r (V'.bare b):=by
 refine ⟨h.1,h.2.mono fun _ w' ⟨r,he,hx,hr⟩=>⟨r,he,⟨hx.size,fun x h1 h2=>hx.blk x h1 fun h=>h2 h.1,hx.os,hx.tape,hx.out⟩,hx.blk b hs (fun h=>h.2 rfl),hr⟩⟩
/-- What is seen there and is no cell of block b is seen. -/
theorem View.of_bare {V:View} {b:Nat} {a:Addr} {v:Value} (h:(V.bare b).at a v) (hb:a.block≠b):V.at a v:=⟨fun hh=>h.1 ⟨hh,hb⟩,h.2⟩
/-- Block b holds no number. -/
def NoInt (V:View) (b:Nat):Prop:=∃(cs:Array Value) (ty:TypeId) (m:Nat × Nat),V.w.heap[b]?=some (.cells cs ty m)/\∀v ∈ cs,∀k z,v≠.int k z
theorem NoInt.ne {V:View} {b:Nat} (h:NoInt V b) {a:Addr} {k:IntKind} {z:Int} (ha:(V.bare b).at a (.int k z)):a.block≠b:=by
 obtain ⟨cs,ty,m,hb,hn⟩:=h
 intro e
 have h2:=ha.2
 unfold World.cell? at h2
 rw [e] at h2
 have hb':(V.bare b).w.heap[b]?=some (.cells cs ty m):=hb
 rw [hb'] at h2
 dsimp only at h2
 split at h2
 ·cases h2
 ·obtain ⟨hi,e2⟩:=Array.getElem?_eq_some_iff.1 h2
  exact hn _ (e2 ▸ Array.getElem_mem hi) k z rfl
end Go.Eng
namespace Go.Proofs.Tryz
open Go.Eng Go.Big
theorem RD.of_bare {V:View} {b:Nat} (hn:NoInt V b) {p:OA} {n c:Nat} {ds:List Nat} (h:RD (V.bare b) p n c ds):RD V p n c ds:=by
 refine ⟨h.len,h.cap,fun i v hv=>?_,h.dig,h.nilc⟩
 obtain ⟨ad,e,ha⟩:=h.sl i v hv
 have:∃d:Int,v=.int .u32 d:=by
  unfold u32s at hv
  rw [List.getElem?_map] at hv
  cases hd:ds[i]? with
  | none=>rw [hd] at hv; cases hv
  | some d=>rw [hd] at hv; cases hv; exact ⟨_,rfl⟩
 obtain ⟨d,rfl⟩:=this
 exact ⟨ad,e,View.of_bare ha (hn.ne ha)⟩
theorem RL.of_bare {V:View} {b:Nat} (hn:NoInt V b) {v:Value} {x y z:Int} (h:RL (V.bare b) v x y z):RL V v x y z:=by
 obtain ⟨_,_,_,_,_,_,_,_,_,e,h1,h2,h3⟩:=h
 exact ⟨_,_,_,_,_,_,_,_,_,e,RD.of_bare hn h1,RD.of_bare hn h2,RD.of_bare hn h3⟩
theorem add_block (a:Addr) (i:Nat):(a.add i).block=a.block:=by
 unfold Addr.add; split <;> rfl
theorem AT.of_bare {V:View} {b:Nat} (hn:NoInt V b) {v:Value} {root:Int} {l:List Nd} (h:AT (V.bare b) v root l) (hk:∀x ∈ l,okL x.ln=true):AT V v root l:=by
 obtain ⟨q,n,c,rfl,hs⟩:=h
 refine ⟨q,n,c,rfl,hs.len,hs.cap,?_,hs.nilc⟩
 obtain ⟨vs,hsl,hr⟩:=hs.row
 cases l with
 | nil=>exact ⟨[],fun i v h=>by simp at h,fun i d h=>by simp at h⟩
 | cons d l=>
  have hne:∀ad,q=some ad->ad.block≠b:=by
   intro ad e
   obtain ⟨b1,p1,n1,c1,b2,p2,n2,c2,b3,p3,n3,c3,h1,-⟩:=hr 0 d rfl
   obtain ⟨ad',e',ha⟩:=hsl _ _ (h1 6 _ rfl)
   rw [e] at e'; cases e'
   have:=hn.ne ha
   rwa [add_block] at this
  refine ⟨vs,fun i v hv=>?_,fun i x hx=>?_⟩
  ·obtain ⟨ad,e,ha⟩:=hsl i v hv
   exact ⟨ad,e,View.of_bare ha (by rw [add_block]; exact hne ad e)⟩
  ·obtain ⟨b1,p1,n1,c1,b2,p2,n2,c2,b3,p3,n3,c3,h1,h2⟩:=hr i x hx
   exact ⟨b1,p1,n1,c1,b2,p2,n2,c2,b3,p3,n3,c3,h1,.inl (RL.of_bare hn (h2.ok (hk x (List.mem_of_getElem? hx))))⟩
theorem wr_ok:∀{t:Tr} {k:Nat},t.All Okb->∀x ∈ wr k t,okL x.ln=true
 | .leaf _,_,_,x,h=>by cases h
 | .node l a b,k,⟨h1,h2,h3⟩,x,h=>by
  simp only [wr] at h
  rcases List.mem_cons.1 h with rfl | h
  ·exact h1.1
  ·rcases List.mem_append.1 h with h | h
   ·exact wr_ok h2 x h
   ·exact wr_ok h3 x h
theorem c_ref14_Write_lent {V:View} {rb:Nat} {i:Bool} {b1:Bool} {p1:OA} {n1 c1:Nat} {b2:Bool} {p2:OA} {n2 c2:Nat} {b3:Bool} {p3:OA} {n3 c3:Nat} {pl pr:OA} {ln:L3} {x y:Tr}
  (hw:V.w.heap[rb]?=some (.cells #[.bool false,.bool i,.bool b1,.slice p1 n1 c1,.bool b2,.slice p2 n2 c2,.bool b3,.slice p3 n3 c3,.pointer pl,.pointer pr] 74 (0,0)))
  (hl:RL V (.agg #[.bool b1,.slice p1 n1 c1,.bool b2,.slice p2 n2 c2,.bool b3,.slice p3 n3 c3]) ln.1 ln.2.1 ln.2.2) (hx:RW V pl x) (hy:RW V pr y) (ha:(Tr.node ln x y).All Okb) (hs:(Tr.node ln x y).size<=1000000) :
  Acts prog 19 #[.pointer (some ⟨rb,0,none⟩)] V fun r V'=>V'.w.heap[rb]?=some (.cells #[.bool false,.bool i,.bool b1,.slice p1 n1 c1,.bool b2,.slice p2 n2 c2,.bool b3,.slice p3 n3 c3,.pointer pl,.pointer pr] 74 (0,0))/\AT V' r (rt 0 (.node ln x y)) (wr 0 (.node ln x y)):=by
 have hsz:rb < V.w.heap.size:=(Array.getElem?_eq_some_iff.1 hw).1
 have l0:=V.bare_le rb
 refine (Acts.bare hsz (c_ref14_Write (V:=V.bare rb) (p:=some ⟨rb,0,none⟩) (t:=.node ln x y) ⟨rb,i,b1,p1,n1,c1,b2,p2,n2,c2,b3,p3,n3,c3,pl,pr,rfl,⟨fun h=>h.2 rfl,hw⟩,hl.le l0,hx.le l0,hy.le l0⟩ ha hs)).mono ?_
 rintro r V' l' ⟨h1,h2⟩
 rw [hw] at h1
 refine ⟨h1,AT.of_bare ⟨_,_,_,h1,?_⟩ h2 (wr_ok ha)⟩
 intro v hv k z e
 subst e
 simp at hv
end Go.Proofs.Tryz
/- By program: the conditions of the functions, from their loaded code. -/
namespace Go.Proofs.Tryz
open Go.Eng
set_option maxRecDepth 100000
end Go.Proofs.Tryz
/- The law's helper 'known', and the law TreeLimit. -/
namespace Go.Proofs.Tryz
open Go.Eng Go.Big
/-- The line y = 0. -/
def LL:L3:=(0,1,0)
theorem LL_ok:okL LL=true:=by decide
theorem small_bd {z:Int} (k:Nat) (hk:k≠0) (h:z.natAbs<=1):z.natAbs < 2 ^ k:=Nat.lt_of_le_of_lt h (Nat.one_lt_two_pow hk)
theorem LL_bd' (k:Nat) (hk:k≠0):LL.1.natAbs < 2 ^ k/\LL.2.1.natAbs < 2 ^ k/\LL.2.2.natAbs < 2 ^ k:=⟨small_bd k hk (by decide),small_bd k hk (by decide),small_bd k hk (by decide)⟩
theorem LL_bd:Bd LL:=LL_bd' 1000 (by decide)
theorem RL_shape {V:View} {v:Value} {a b c:Int} (h:RL V v a b c):∃(b1:Bool) (p1:OA) (n1 c1:Nat) (b2:Bool) (p2:OA) (n2 c2:Nat) (b3:Bool) (p3:OA) (n3 c3:Nat),v=.agg #[.bool b1,.slice p1 n1 c1,.bool b2,.slice p2 n2 c2,.bool b3,.slice p3 n3 c3]:=by
 obtain ⟨p,n,s,p',n',s',q,m,e,rfl,-⟩:=h
 exact ⟨_,_,_,_,_,_,_,_,_,_,_,_,rfl⟩
/-- Through (0, 0) and (1, 0). -/
theorem c_through_LL {V:View} {u w:Value} (hp:RP V u ((0:Int):Rat) ((0:Int):Rat)) (hq:RP V w ((1:Int):Rat) ((0:Int):Rat)) :
  Acts prog 78 #[u,w] V fun r V'=>∃l,r=.tuple #[l,.bool true]/\RL V' l LL.1 LL.2.1 LL.2.2:=by
 have s0:Sz 1 ((0:Int):Rat):=by unfold Sz; decide
 have s1:Sz 1 ((1:Int):Rat):=sz_one
 refine (c_ref04_Through hp hq s0 s0 s1 s0 (by omega) (by omega)).mono ?_
 have e1:(thr ((0:Int):Rat) ((0:Int):Rat) ((1:Int):Rat) ((0:Int):Rat)).1.num=0:=by decide +kernel
 have e2:(thr ((0:Int):Rat) ((0:Int):Rat) ((1:Int):Rat) ((0:Int):Rat)).2.1.num=1:=by decide +kernel
 have e3:(thr ((0:Int):Rat) ((0:Int):Rat) ((1:Int):Rat) ((0:Int):Rat)).2.2.num=0:=by decide +kernel
 rw [e1,e2,e3]
 rintro r V' _ ⟨-,h⟩
 exact h (by omega)
/-- The two sentinels, as they are seen. -/
structure Snt (V:View) (y z:Value):Prop where
 inv:Sent V 0 y
 lim:Sent V 1 z
 yE:SErr y
 zE:SErr z
theorem Snt.le {V V':View} {y z:Value} (h:Snt V y z) (l:V.Le V'):Snt V' y z:=⟨h.inv.le l,h.lim.le l,h.yE,h.zE⟩
theorem nilI:IsIface .nilIface/\isNilI .nilIface=true:=⟨.inl rfl,rfl⟩
theorem AT.leaf {V:View} (i:Bool):AT V (.agg #[.int .i64 (rt 0 (.leaf i)),.slice none 0 0]) (rt 0 (.leaf i)) (wr 0 (.leaf i)):=⟨_,_,_,rfl,NS.nil⟩
theorem lines_wr {p:L3->Prop}:∀{t:Tr} {k:Nat},t.All p->∀x ∈ wr k t,p x.ln
 | .leaf _,_,_,x,h=>by simp [wr] at h
 | .node l a b,k,⟨h1,h2,h3⟩,x,h=>by
  simp only [wr,List.mem_cons,List.mem_append] at h
  rcases h with rfl | h | h
  ·exact h1
  ·exact lines_wr h2 x h
  ·exact lines_wr h3 x h
end Go.Proofs.Tryz
/- By program: the conditions of the functions, from their loaded code. -/
namespace Go.Proofs.Tryz
open Go.Eng
open Go.Value renaming int→I,pointer→P,slice→S,agg→A,bool→B,tuple→T
open Go.IntKind renaming i64→J,u64→U,u32→W
set_option maxRecDepth 100000
theorem vc_law15_known (V:View) (R:VR) (h:(Ca V 79 #[I J 0,I J 0] fun o5 o6=>∃o,∃p q r,∃s t u,∃x,∃y z a0,∃a1 a2 a3,o5=A #[B o,S p q r,S s t u,B x,S y z a0,S a1 a2 a3]/\(Ca o6 79 #[I J 1,I J 0] fun o7 o8=>∃a4,∃a5 a6 a7,∃a8 a9 b0,∃b1,∃b2 b3 b4,∃b5 b6 b7,o7=A #[B a4,S a5 a6 a7,S a8 a9 b0,B b1,S b2 b3 b4,S b5 b6 b7]/\(Ca o8 78 #[A #[B o,S p q r,S s t u,B x,S y z a0,S a1 a2 a3],A #[B a4,S a5 a6 a7,S a8 a9 b0,B b1,S b2 b3 b4,S b5 b6 b7]] fun o9 p0=>∃b8,∃b9 c0 c1,∃c2,∃c3 c4 c5,∃c6,∃c7 c8 c9,∃p1,o9=T #[A #[B b8,S b9 c0 c1,B c2,S c3 c4 c5,B c6,S c7 c8 c9],B p1]/\(Ca p0 70 #[B true] fun p2 p3=>∃d0,p2=P d0/\(Ca p3 70 #[B false] fun p4 p5=>∃d1,p4=P d1/\(∀c,p5.Le c->∀b:Nat,(c.w.heap[b]?=some (.cells #[B false,B false,B b8,S b9 c0 c1,B c2,S c3 c4 c5,B c6,S c7 c8 c9,P d0,P d1] 74 (0,0)))->(c.H b)->Acts prog 19 #[P (some ⟨b,0,none⟩)] (c.lend [b]) fun p6 d2=>∃d,∃e f g,p6=A #[I J d,S e f g]/\∃p7,∃p8,∃p9,∃q0 q1 q2,∃q3,∃q4 q5 q6,∃q7,∃q8 q9 r0,∃r1,∃r2,d2.w.heap[b]?=some (.cells #[B p7,B p8,B p9,S q0 q1 q2,B q3,S q4 q5 q6,B q7,S q8 q9 r0,P r1,P r2] 74 (0,0))/\(∀d3,d2.shut.Le d3->Acts prog 79 #[I J 0,I J 1] d3 fun r3 r4=>∃d4,∃d5 d6 d7,∃d8 d9 e0,∃e1,∃e2 e3 e4,∃e5 e6 e7,r3=A #[B d4,S d5 d6 d7,S d8 d9 e0,B e1,S e2 e3 e4,S e5 e6 e7]/\(Ca r4 20 #[A #[B d4,S d5 d6 d7,S d8 d9 e0,B e1,S e2 e3 e4,S e5 e6 e7]] fun r5 r6=>∃e8,∃e9 f0 f1,∃f2 f3 f4,∃f5,∃f6 f7 f8,∃f9 g0 g1,r5=A #[B e8,S e9 f0 f1,S f2 f3 f4,B f5,S f6 f7 f8,S f9 g0 g1]/\(Ca r6 18 #[A #[I J d,S e f g],A #[B e8,S e9 f0 f1,S f2 f3 f4,B f5,S f6 f7 f8,S f9 g0 g1]] fun r7 r8=>∃m,∃i,r7=T #[I J m,i]/\(Ca r8 79 #[I J 5,I J 0] fun r9 t0=>∃g2,∃g3 g4 g5,∃g6 g7 g8,∃g9,∃i0 i1 i2,∃i3 i4 i5,r9=A #[B g2,S g3 g4 g5,S g6 g7 g8,B g9,S i0 i1 i2,S i3 i4 i5]/\(Ca t0 20 #[A #[B g2,S g3 g4 g5,S g6 g7 g8,B g9,S i0 i1 i2,S i3 i4 i5]] fun t1 t2=>∃i6,∃i7 i8 i9,∃k0 k1 k2,∃k3,∃k4 k5 k6,∃k7 k8 k9,t1=A #[B i6,S i7 i8 i9,S k0 k1 k2,B k3,S k4 k5 k6,S k7 k8 k9]/\(Ca t2 18 #[A #[I J d,S e f g],A #[B i6,S i7 i8 i9,S k0 k1 k2,B k3,S k4 k5 k6,S k7 k8 k9]] fun t3 t4=>∃n,∃k,t3=T #[I J n,k]/\(Ca t4 79 #[I J 0,I J (-1)] fun t5 t6=>∃l0,∃l1 l2 l3,∃l4 l5 l6,∃l7,∃l8 l9 m0,∃m1 m2 m3,t5=A #[B l0,S l1 l2 l3,S l4 l5 l6,B l7,S l8 l9 m0,S m1 m2 m3]/\(Ca t6 20 #[A #[B l0,S l1 l2 l3,S l4 l5 l6,B l7,S l8 l9 m0,S m1 m2 m3]] fun t7 t8=>∃m4,∃m5 m6 m7,∃m8 m9 n0,∃n1,∃n2 n3 n4,∃n5 n6 n7,t7=A #[B m4,S m5 m6 m7,S m8 m9 n0,B n1,S n2 n3 n4,S n5 n6 n7]/\(Ca t8 18 #[A #[I J d,S e f g],A #[B m4,S m5 m6 m7,S m8 m9 n0,B n1,S n2 n3 n4,S n5 n6 n7]] fun t9 a=>∃n8,∃l,t9=T #[I J n8,l]/\(IsIface i)/\(((isNilI i)=true->(IsIface k)/\(((isNilI k)=true->(IsIface l)/\(((isNilI l)=true->(((m == (2:Int))=true->(((n == (1:Int))=true->(Rt a R (B (n8 == (0:Int)))))/\((n == (1:Int))=false->(Rt a R (B false)))))/\((m == (2:Int))=false->(Rt a R (B false)))))/\((isNilI l)=false->(Rt a R (B false)))))/\((isNilI k)=false->(Rt a R (B false)))))/\((isNilI i)=false->(Rt a R (B false)))))))))))))))))))):
 Acts prog 21 #[] V R:=
 fd (LF:=LF0) (RF:=[1000015]) [] [] func21 h
theorem vc_law15_code (a b:Bool) (V:View) (R:VR) (h:(((!b)=true->(Rt V R (I J 0)))/\((!b)=false->((a=true->(Rt V R (I J (-2))))/\(a=false->(Rt V R (I J (-1)))))))):
 Acts prog 31 #[B a,B b] V R:=
 fd (LF:=LF0) (RF:=[1000015]) [] [] func31 h
end Go.Proofs.Tryz
/- The helpers of the laws of locate: known, code. -/
namespace Go.Proofs.Tryz
open Go.Eng Go.Big
def tLL:Tr:=.node LL (.leaf true) (.leaf false)
theorem tLL_ok:tLL.All Okb:=⟨⟨LL_ok,LL_bd⟩,trivial,trivial⟩
/-- A point on no line of the way: its leaf alone tells. -/
theorem classIs_none {t:Tr} {p:Rat × Rat} {c:Int} (h:ClassIs t p c) (hm:Sec.metL t p=[]):c=if (Sec.tow t p (1,0)).1 then 2 else 0:=by
 have:=h [] [(1,0)] ⟨fun r h=>(by cases h),fun r h=>(by cases h),List.Pairwise.nil⟩ (.inl ⟨rfl,rfl⟩) (by rw [hm]; intro l h; cases h)
 rw [this]
 unfold Sec.anyS Sec.allS clsI
 simp only [List.any_cons,List.any_nil,Bool.or_false,List.all_cons,List.all_nil,Bool.and_true]
 cases (Sec.tow t p (1,0)).1 <;> rfl
/-- A point on one horizontal line. -/
theorem ray_x:Sec.Ray [(1,0),(-1,0)]:=by
 refine ⟨fun r hr=>?_,fun r hr=>?_,?_⟩
 ·simp only [List.mem_cons,List.not_mem_nil,or_false] at hr
  rcases hr with rfl | rfl
  ·exact .inl (by decide)
  ·exact .inl (by decide)
 ·simp only [List.mem_cons,List.not_mem_nil,or_false] at hr
  rcases hr with rfl | rfl
  ·exact ⟨(-1,0),by simp,1,by decide,by decide +kernel,by decide +kernel⟩
  ·exact ⟨(1,0),by simp,1,by decide,by decide +kernel,by decide +kernel⟩
 ·refine List.pairwise_cons.2 ⟨fun x hx=>?_,List.pairwise_singleton ..⟩
  rcases List.mem_singleton.1 hx with rfl
  exact .inl ⟨.inr ⟨rfl,by decide⟩,.inr ⟨rfl,by decide⟩⟩
theorem known_at {V:View} {v w:Value} (h:AT V v (rt 0 tLL) (wr 0 tLL)) {x y:Int} (hw:RAP V w (x:Rat) (y:Rat)) (hx:-40<=x/\x<=40) (hy:-40<=y/\y<=40) {e:Value} (he:Sent V 0 e) :
  Acts prog 18 #[v,w] V fun r V'=>∃c,r=.tuple #[.int .i64 c,.nilIface]/\ClassIs tLL ((x:Rat),(y:Rat)) c:=by
 have sx:=sz4 hx
 have sy:=sz4 hy
 have ho:ofT (wr 0 tLL) (rt 0 tLL)=some tLL:=ofT_wr ⟨LL_ok,trivial,trivial⟩ (by decide)
 refine (c_locate_Class (p:=((x:Rat),(y:Rat))) (lines_wr (p:=Bd) (t:=tLL) ⟨LL_bd,trivial,trivial⟩) h (ApS.of (p:=((x:Rat),(y:Rat))) hw sx sy (by omega)) (sx.mono (by omega)) (sy.mono (by omega)) (fun t ht=>by rw [ho] at ht; cases ht; decide) (fun t ht n c=>by rw [ho] at ht; cases ht; exact sortsS n c _ (by have:=metL_len tLL ((x:Rat),(y:Rat)); rw [raysL_len]; have e:tLL.size=1:=rfl; omega)) he).mono ?_
 rintro r V' _ ⟨-,h2⟩
 exact h2 tLL ho
theorem c_known15 {V:View} {e:Value} (he:Sent V 0 e):Acts prog 21 #[] V fun r V'=>r=.bool true:=by
 refine vc_law15_known V _ fun V1 l1=>(c_ref04_Xy 0 0 (by omega) (by omega) (by omega) (by omega)).mono ?_
 rintro r V2 l2 hp
 have hp0:=hp
 obtain ⟨_,_,_,_,_,_,_,_,_,_,_,_,rfl,-⟩:=hp
 refine ⟨_,_,_,_,_,_,_,_,_,_,_,_,_,_,rfl,fun V3 l3=>(c_ref04_Xy 1 0 (by omega) (by omega) (by omega) (by omega)).mono ?_⟩
 rintro r V4 l4 hq
 have hq0:=hq
 obtain ⟨_,_,_,_,_,_,_,_,_,_,_,_,rfl,-⟩:=hq
 refine ⟨_,_,_,_,_,_,_,_,_,_,_,_,_,_,rfl,fun V5 l5=>(c_through_LL (hp0.le (l3.trans (l4.trans l5))) (hq0.le l5)).mono ?_⟩
 rintro r V6 l6 ⟨l,rfl,hl⟩
 obtain ⟨b1,u1,v1,w1,b2,u2,v2,w2,b3,u3,v3,w3,rfl⟩:=RL_shape hl
 have l06:=l1.trans (l2.trans (l3.trans (l4.trans (l5.trans l6))))
 refine ⟨_,_,_,_,_,_,_,_,_,_,_,_,_,rfl,fun V7 l7=>(c_ref14_Code true).mono ?_⟩
 rintro r V8 l8 ⟨pa,rfl,ha⟩
 refine ⟨_,rfl,fun V9 l9=>(c_ref14_Code false).mono ?_⟩
 rintro r V10 l10 ⟨pb,rfl,hb⟩
 have l610:=l7.trans (l8.trans (l9.trans l10))
 refine ⟨_,rfl,fun V11 l11 bk e1 e2=>(c_ref14_Write_lent (V:=V11.lend [bk]) (ln:=LL) (x:=.leaf true) (y:=.leaf false) e1 (RL.le (V:=V6) (V':=V11.lend _) hl fun b o h=>(l610.trans l11) b o h) (RW.le (V:=V8) (V':=V11.lend _) (fun b o h=>(l9.trans (l10.trans l11)) b o h) ha) (RW.le (V:=V10) (V':=V11.lend _) (fun b o h=>l11 b o h) hb) tLL_ok (by decide)).mono ?_⟩
 rintro r V12 l12 ⟨e3,hat⟩
 have hat0:AT V12 r (rt 0 tLL) (wr 0 tLL):=hat
 clear hat
 have hat1:=hat0
 obtain ⟨q,n,c,rfl,-⟩:=hat0
 have l1112:V11.Le V12:=fun b o h=>l12 b o h
 have L12:=l06.trans (l610.trans (l11.trans l1112))
 refine ⟨_,_,_,_,rfl,_,_,_,_,_,_,_,_,_,_,_,_,_,_,_,_,e3,fun V13 l13=>(c_ref04_Xy 0 1 (by omega) (by omega) (by omega) (by omega)).mono ?_⟩
 have l13:V12.Le V13:=fun b o h=>l13 b o h
 rintro r V14 l14 hp
 have hp0:=hp
 obtain ⟨_,_,_,_,_,_,_,_,_,_,_,_,rfl,-⟩:=hp
 refine ⟨_,_,_,_,_,_,_,_,_,_,_,_,_,_,rfl,fun V15 l15=>(c_ref04_ToP (hp0.le l15) (sz4 (by omega)) (sz4 (by omega)) (by omega)).mono ?_⟩
 rintro r V16 l16 hw
 have hw0:=hw
 obtain ⟨_,_,_,_,_,_,_,_,_,_,_,_,_,_,rfl,-⟩:=hw
 have l1216:=l13.trans (l14.trans (l15.trans l16))
 refine ⟨_,_,_,_,_,_,_,_,_,_,_,_,_,_,rfl,fun V17 l17=>(known_at (hat1.le (l1216.trans l17)) (hw0.le l17) (by omega) (by omega) (he.le (L12.trans (l1216.trans l17)))).mono ?_⟩
 rintro r V18 l18 ⟨k1,rfl,hk1⟩
 have k1e:=classIs_none hk1 (by decide +kernel)
 rw [show (Sec.tow tLL (((0:Int):Rat),((1:Int):Rat)) (1,0)).1=true by decide +kernel,if_pos rfl] at k1e
 subst k1e
 have l1218:=l1216.trans (l17.trans l18)
 refine ⟨_,_,rfl,fun V19 l19=>(c_ref04_Xy 5 0 (by omega) (by omega) (by omega) (by omega)).mono ?_⟩
 rintro r V20 l20 hp
 have hp0:=hp
 obtain ⟨_,_,_,_,_,_,_,_,_,_,_,_,rfl,-⟩:=hp
 refine ⟨_,_,_,_,_,_,_,_,_,_,_,_,_,_,rfl,fun V21 l21=>(c_ref04_ToP (hp0.le l21) (sz4 (by omega)) (sz4 (by omega)) (by omega)).mono ?_⟩
 rintro r V22 l22 hw
 have hw0:=hw
 obtain ⟨_,_,_,_,_,_,_,_,_,_,_,_,_,_,rfl,-⟩:=hw
 have l1222:=l1218.trans (l19.trans (l20.trans (l21.trans l22)))
 refine ⟨_,_,_,_,_,_,_,_,_,_,_,_,_,_,rfl,fun V23 l23=>(known_at (hat1.le (l1222.trans l23)) (hw0.le l23) (by omega) (by omega) (he.le (L12.trans (l1222.trans l23)))).mono ?_⟩
 rintro r V24 l24 ⟨k2,rfl,hk2⟩
 have k2e:=hk2 [(1,0),(-1,0)] (secsP [(1,0),(-1,0)]) ray_x (secsP_sms ray_x) (by
  intro l hl
  have:Sec.metL tLL (((5:Int):Rat),((0:Int):Rat))=[LL]:=by decide +kernel
  rw [this] at hl
  rcases List.mem_singleton.1 hl with rfl
  exact ⟨(1,0),by simp,1,by decide,by decide +kernel⟩)
 rw [show Sec.anyS tLL (((5:Int):Rat),((0:Int):Rat)) (secsP [(1,0),(-1,0)])=true by decide +kernel,show Sec.allS tLL (((5:Int):Rat),((0:Int):Rat)) (secsP [(1,0),(-1,0)])=false by decide +kernel] at k2e
 have k2e:k2=1:=k2e
 subst k2e
 have l1224:=l1222.trans (l23.trans l24)
 refine ⟨_,_,rfl,fun V25 l25=>(c_ref04_Xy 0 (-1) (by omega) (by omega) (by omega) (by omega)).mono ?_⟩
 rintro r V26 l26 hp
 have hp0:=hp
 obtain ⟨_,_,_,_,_,_,_,_,_,_,_,_,rfl,-⟩:=hp
 refine ⟨_,_,_,_,_,_,_,_,_,_,_,_,_,_,rfl,fun V27 l27=>(c_ref04_ToP (hp0.le l27) (sz4 (by omega)) (sz4 (by omega)) (by omega)).mono ?_⟩
 rintro r V28 l28 hw
 have hw0:=hw
 obtain ⟨_,_,_,_,_,_,_,_,_,_,_,_,_,_,rfl,-⟩:=hw
 have l1228:=l1224.trans (l25.trans (l26.trans (l27.trans l28)))
 refine ⟨_,_,_,_,_,_,_,_,_,_,_,_,_,_,rfl,fun V29 l29=>(known_at (hat1.le (l1228.trans l29)) (hw0.le l29) (by omega) (by omega) (he.le (L12.trans (l1228.trans l29)))).mono ?_⟩
 rintro r V30 l30 ⟨k3,rfl,hk3⟩
 have k3e:=classIs_none hk3 (by decide +kernel)
 rw [show (Sec.tow tLL (((0:Int):Rat),((-1:Int):Rat)) (1,0)).1=false by decide +kernel] at k3e
 have k3e:k3=0:=k3e
 subst k3e
 exact ⟨_,_,rfl,nilI.1,fun _=>⟨nilI.1,fun _=>⟨nilI.1,fun _=>⟨fun _=>⟨fun _ V31 l31=>rfl,(fun h=>by cases h)⟩,(fun h=>by cases h)⟩,(fun h=>by rw [nilI.2] at h; cases h)⟩,(fun h=>by rw [nilI.2] at h; cases h)⟩,(fun h=>by rw [nilI.2] at h; cases h)⟩
theorem c_code15 {V:View} (i o:Bool):Acts prog 31 #[.bool i,.bool o] V fun r V'=>r=.int .i64 (codeI (i,o)):=by
 refine vc_law15_code i o V _ ⟨fun h V1 l1=>?_,fun h=>⟨fun h' V2 l2=>?_,fun h' V3 l3=>?_⟩⟩ <;> simp_all [codeI]
end Go.Proofs.Tryz
/- Contracts: keep's moved and Shuffled, the reference's Same. -/
namespace Go.Proofs.Tryz
open Go.Eng Go.Big
/-- One row of eight cells that holds a node. -/
def NRow (V:View) (vs:List Value) (i:Nat) (d:Nd):Prop:=∃(b1:Bool) (p1:OA) (n1 c1:Nat) (b2:Bool) (p2:OA) (n2 c2:Nat) (b3:Bool) (p3:OA) (n3 c3:Nat),
 (∀j v,([.bool b1,.slice p1 n1 c1,.bool b2,.slice p2 n2 c2,.bool b3,.slice p3 n3 c3,.int .i64 d.left,.int .i64 d.right]:List Value)[j]?=some v->vs[i * 8 + j]?=some v) /\
 RLq V (.agg #[.bool b1,.slice p1 n1 c1,.bool b2,.slice p2 n2 c2,.bool b3,.slice p3 n3 c3]) d.ln
theorem NRow.le {V V':View} {vs:List Value} {i:Nat} {d:Nd} (h:NRow V vs i d) (hl:V.Le V'):NRow V' vs i d:=by
 obtain ⟨b1,p1,n1,c1,b2,p2,n2,c2,b3,p3,n3,c3,h1,h2⟩:=h
 exact ⟨b1,p1,n1,c1,b2,p2,n2,c2,b3,p3,n3,c3,h1,h2.le hl⟩
theorem put8_out {vs xs:List Value} {k i:Nat} (hx:xs.length=8) (h:k * 8 + 8<=vs.length) (hi:i < k * 8 \/ k * 8 + 8<=i):(vs.take (k * 8)++xs++vs.drop (k * 8 + 8))[i]?=vs[i]?:=by
 have ht:(vs.take (k * 8)).length=k * 8:=by rw [List.length_take]; omega
 rcases hi with hi | hi
 ·rw [List.append_assoc,List.getElem?_append_left (by omega),List.getElem?_take,if_pos hi]
 ·rw [List.getElem?_append_right (by rw [List.length_append]; omega),List.length_append,ht,hx,List.getElem?_drop]
  congr 1
  omega
theorem lt8 {a b c d e f g h v:Value} {j:Nat} (hv:([a,b,c,d,e,f,g,h]:List Value)[j]?=some v):j < 8:=by
 rcases Nat.lt_or_ge j 8 with hj | hj
 ·exact hj
 ·rw [List.getElem?_eq_none (by simpa using hj)] at hv; cases hv
theorem NRow.out {V:View} {vs xs:List Value} {k i:Nat} {d:Nd} (h:NRow V vs i d) (hx:xs.length=8) (hk:k * 8 + 8<=vs.length) (hi:i≠k):NRow V (vs.take (k * 8)++xs++vs.drop (k * 8 + 8)) i d:=by
 obtain ⟨b1,p1,n1,c1,b2,p2,n2,c2,b3,p3,n3,c3,h1,h2⟩:=h
 refine ⟨b1,p1,n1,c1,b2,p2,n2,c2,b3,p3,n3,c3,fun j v hv=>?_,h2⟩
 have:=lt8 hv
 rw [put8_out hx hk (by omega)]
 exact h1 j v hv
/-! the inverse of 'moved' -/
def vm (n b m:Nat):Nat:=(n - 1 - m + (n - b)) % n
end Go.Proofs.Tryz
/- A new block that is handed back; scene.New. -/
namespace Go.Proofs.Tryz
open Go.Eng Go.Big
/-- All that is there is hidden. -/
def hideAll (V:View):View:=⟨V.w,fun b=>b < V.w.heap.size,fun _=>False,fun _ h=>h,fun _ h=>h.elim⟩
/-- A block that is seen when all was hidden is new. -/
theorem acts_fresh {f:FuncId} {args:Array Value} {V:View} {o:Obj} (h:Acts prog f args (hideAll V) fun r V'=>∃bk,r=.pointer (some ⟨bk,0,none⟩)/\V'.blk bk o) :
  Acts prog f args V fun r V'=>∃bk,r=.pointer (some ⟨bk,0,none⟩)/\V.w.heap.size<=bk/\V'.blk bk o:=
 ⟨h.1,h.2.mono fun _ _ ⟨_,he,hx,bk,hr,hb⟩=>⟨_,he,⟨hx.size,fun b hb _=>hx.blk b hb (fun h=>h),hx.os,hx.tape,hx.out⟩,bk,hr,Nat.le_of_not_lt hb.1,fun hh=>hb.1 (V.hH bk hh),hb.2⟩⟩
theorem c_scene_New {V:View} {lp:OA} {ln lc:Nat} (hc:ln<=lc) :
  Acts prog 15 #[.slice lp ln lc] V fun r V'=>∃bk,r=.pointer (some ⟨bk,0,none⟩)/\V.w.heap.size<=bk/\V'.blk bk (.cells #[.slice lp (min ln 400) lc,.int .i64 0] 133 (0,0)):=by
 refine acts_fresh (vc_scene_New lp ln lc (hideAll V) _ ?_)
 have e:minI (ln:Int) 400=((min ln 400:Nat):Int):=by
  unfold minI
  simp only [Nat.min_def]
  split <;> split <;> omega
 rw [e,Int.toNat_natCast]
 have:=Nat.min_le_left ln 400
 exact ⟨⟨by omega,by omega⟩,fun V1 l1 bk hb=>⟨bk,rfl,hb⟩⟩
end Go.Proofs.Tryz
/- The law TreeOrders, in views. -/
namespace Go.Proofs.Tryz
open Go.Eng Go.Big
theorem okb_okL {t:Tr} (h:t.All Okb):t.All fun x=>okL x=true:=Tr.All.imp (fun _ h=>h.1) h
theorem okb_bd {t:Tr} (h:t.All Okb):t.All Bd:=Tr.All.imp (fun _ h=>h.2) h
end Go.Proofs.Tryz
/- By program: the conditions of the functions, from their loaded code. -/
namespace Go.Proofs.Tryz
open Go.Eng
open Go.Value renaming int→I,pointer→P,slice→S,agg→A,bool→B,tuple→T
open Go.IntKind renaming i64→J,u64→U,u32→W
set_option maxRecDepth 100000
theorem vc_law15_LocateLeaves (f3:OA) (f4 f5:Nat) (V:View) (R:VR) (h:(∀d7,V.Le d7->Acts prog 15 #[S f3 f4 f5] d7 fun t7 f6=>∃b2:Nat,∃f7 f8 f9,∃g0,t7=P (some ⟨b2,0,none⟩)/\d7.w.heap.size<=b2/\f6.blk b2 (.cells #[S f7 f8 f9,I J g0] 133 (0,0))/\(∀b3:View,(f6.hide b2).Le b3->∀a4:Nat,(b3.w.heap[a4]?=some (.cells #[S f7 f8 f9,I J g0] 133 (0,0)))->(b3.H a4)->Acts prog 16 #[P (some ⟨a4,0,none⟩),I J 4] (b3.lend [a4]) fun t8 g1=>∃f,t8=P f/\∃g2 g3 g4,∃g5,g1.w.heap[a4]?=some (.cells #[S g2 g3 g4,I J g5] 133 (0,0))/\(∀b4,g1.shut.Le b4->∀a5:Nat,(b4.w.heap[a5]?=some (.cells #[S g2 g3 g4,I J g5] 133 (0,0)))->(b4.H a5)->Acts prog 17 #[P (some ⟨a5,0,none⟩),P f] (b4.lend [a5]) fun t9 g6=>∃g,∃i k l,∃m n o,∃p,∃q r s,∃t u x,t9=A #[B g,S i k l,S m n o,B p,S q r s,S t u x]/\∃g7 g8 g9,∃i0,g6.w.heap[a5]?=some (.cells #[S g7 g8 g9,I J i0] 133 (0,0))/\(∀b5,g6.shut.Le b5->∀a6:Nat,(b5.w.heap[a6]?=some (.cells #[S g7 g8 g9,I J i0] 133 (0,0)))->(b5.H a6)->Acts prog 23 #[P (some ⟨a6,0,none⟩)] (b5.lend [a6]) fun u0 i1=>∃b6,∃b7 b8 b9,∃c0 c1 c2,∃c3,∃c4 c5 c6,∃c7 c8 c9,u0=A #[B b6,S b7 b8 b9,S c0 c1 c2,B c3,S c4 c5 c6,S c7 c8 c9]/\∃d8 d9 e0,∃e1,i1.w.heap[a6]?=some (.cells #[S d8 d9 e0,I J e1] 133 (0,0))/\(∀i2,i1.shut.Le i2->Acts prog 24 #[P f] i2 fun u1 e2=>∃a7 z e3,u1=S a7 z e3/\(∃e4:(Bool × (OA) × Nat × Nat × Int)->VP,(((decide ((z:Int) > (0:Int)))=true->(∀d0,e2.Le d0->∀a8:Nat,(d0.w.heap[a8]?=some (.cells #[S d8 d9 e0,I J e1] 133 (0,0)))->(d0.H a8)->Acts prog 25 #[P (some ⟨a8,0,none⟩),I J 3] (d0.lend [a8]) fun u2 i3=>∃i4,u2=I J i4/\∃i5 i6 i7,∃i8,i3.w.heap[a8]?=some (.cells #[S i5 i6 i7,I J i8] 133 (0,0))/\(∃a2,(s7 0 f 0 0 a7 z e3 (((i4 == (0:Int))=a2.1)/\s12 g i k l m n o p q r s t (s12 u x b6 b7 b8 b9 c0 c1 c2 c3 c4 c5 (s4 c6 c7 c8 c9 (((i5:OA)=a2.2.1)/\((i6:Nat)=a2.2.2.1)/\((i7:Nat)=a2.2.2.2.1)/\(i8=a2.2.2.2.2))))))/\e4 a2 i3.shut)))/\((decide ((z:Int) > (0:Int)))=false->(∃a3,(s7 0 f 0 0 a7 z e3 ((false=a3.1)/\s12 g i k l m n o p q r s t (s12 u x b6 b7 b8 b9 c0 c1 c2 c3 c4 c5 (s4 c6 c7 c8 c9 (((d8:OA)=a3.2.1)/\((d9:Nat)=a3.2.2.1)/\((e0:Nat)=a3.2.2.2.1)/\(e1=a3.2.2.2.2))))))/\e4 a3 e2)))/\∀(a0:Bool × (OA) × Nat × Nat × Int) (a9:View),e2.Le a9->e4 a0 a9->(true=true/\(∃e5:(Bool × (OA) × Nat × Nat × (OA) × Nat × Nat × Bool × (OA) × Nat × Nat × (OA) × Nat × Nat)->VP,((a0.1=true->(∀d1,a9.Le d1->∀b0:Nat,(d1.w.heap[b0]?=some (.cells #[S a0.2.1 a0.2.2.1 a0.2.2.2.1,I J a0.2.2.2.2] 133 (0,0)))->(d1.H b0)->Acts prog 25 #[P (some ⟨b0,0,none⟩),I J (z:Int)] (d1.lend [b0]) fun u3 y=>∃d2,u3=I J d2/\∃u4 u5 u6,∃u7,y.w.heap[b0]?=some (.cells #[S u4 u5 u6,I J u7] 133 (0,0))/\(a7.isSome=true)/\(0<=d2/\d2 < (z:Int))/\(∃i9,∃k0 k1 k2,∃k3,∃k4 k5 k6,∃k7,∃k8 k9 l0,∃a1,addrAdd a7 (d2.toNat * 6)=some a1/\y.shut.at (a1.add 0) (B i9)/\y.shut.at (a1.add 1) (S k0 k1 k2)/\y.shut.at (a1.add 2) (B k3)/\y.shut.at (a1.add 3) (S k4 k5 k6)/\y.shut.at (a1.add 4) (B k7)/\y.shut.at (a1.add 5) (S k8 k9 l0)/\(∀l1,y.shut.Le l1->Acts prog 26 #[A #[B i9,S k0 k1 k2,B k3,S k4 k5 k6,B k7,S k8 k9 l0]] l1 fun u8 u9=>∃l2,∃l3 l4 l5,∃l6 l7 l8,∃l9,∃m0 m1 m2,∃m3 m4 m5,u8=A #[B l2,S l3 l4 l5,S l6 l7 l8,B l9,S m0 m1 m2,S m3 m4 m5]/\(∃d,(s12 f 0 0 g i k l m n o p q (s5 r s t u x ((l2=d.1)/\((l3:OA)=d.2.1)/\((l4:Nat)=d.2.2.1)/\((l5:Nat)=d.2.2.2.1)/\((l6:OA)=d.2.2.2.2.1)/\((l7:Nat)=d.2.2.2.2.2.1)/\((l8:Nat)=d.2.2.2.2.2.2.1)/\(l9=d.2.2.2.2.2.2.2.1)/\((m0:OA)=d.2.2.2.2.2.2.2.2.1)/\((m1:Nat)=d.2.2.2.2.2.2.2.2.2.1)/\((m2:Nat)=d.2.2.2.2.2.2.2.2.2.2.1)/\((m3:OA)=d.2.2.2.2.2.2.2.2.2.2.2.1)/\((m4:Nat)=d.2.2.2.2.2.2.2.2.2.2.2.2.1)/\((m5:Nat)=d.2.2.2.2.2.2.2.2.2.2.2.2.2))))/\e5 d u9)))))/\(a0.1=false->(∃e,(s12 f 0 0 g i k l m n o p q (s5 r s t u x ((b6=e.1)/\((b7:OA)=e.2.1)/\((b8:Nat)=e.2.2.1)/\((b9:Nat)=e.2.2.2.1)/\((c0:OA)=e.2.2.2.2.1)/\((c1:Nat)=e.2.2.2.2.2.1)/\((c2:Nat)=e.2.2.2.2.2.2.1)/\(c3=e.2.2.2.2.2.2.2.1)/\((c4:OA)=e.2.2.2.2.2.2.2.2.1)/\((c5:Nat)=e.2.2.2.2.2.2.2.2.2.1)/\((c6:Nat)=e.2.2.2.2.2.2.2.2.2.2.1)/\((c7:OA)=e.2.2.2.2.2.2.2.2.2.2.2.1)/\((c8:Nat)=e.2.2.2.2.2.2.2.2.2.2.2.2.1)/\((c9:Nat)=e.2.2.2.2.2.2.2.2.2.2.2.2.2))))/\e5 e a9)))/\∀(a:Bool × (OA) × Nat × Nat × (OA) × Nat × Nat × Bool × (OA) × Nat × Nat × (OA) × Nat × Nat) (e6:View),a9.Le e6->e5 a e6->(true=true/\(Ca e6 19 #[P f] fun w0 w1=>∃m6,∃m7 m8 m9,w0=A #[I J m6,S m7 m8 m9]/\(Ca w1 20 #[A #[B g,S i k l,S m n o,B p,S q r s,S t u x]] fun w2 w3=>∃n0,∃n1 n2 n3,∃n4 n5 n6,∃n7,∃n8 n9 o0,∃o1 o2 o3,w2=A #[B n0,S n1 n2 n3,S n4 n5 n6,B n7,S n8 n9 o0,S o1 o2 o3]/\(Ca w3 27 #[A #[I J m6,S m7 m8 m9],A #[B n0,S n1 n2 n3,S n4 n5 n6,B n7,S n8 n9 o0,S o1 o2 o3]] fun w4 w5=>∃e7,∃e8,∃d3,w4=T #[I J e7,B e8,d3]/\(Ca w5 19 #[P f] fun w6 w7=>∃o4,∃o5 o6 o7,w6=A #[I J o4,S o5 o6 o7]/\(Ca w7 20 #[A #[B g,S i k l,S m n o,B p,S q r s,S t u x]] fun w8 w9=>∃o8,∃o9 p0 p1,∃p2 p3 p4,∃p5,∃p6 p7 p8,∃p9 q0 q1,w8=A #[B o8,S o9 p0 p1,S p2 p3 p4,B p5,S p6 p7 p8,S p9 q0 q1]/\(Ca w9 20 #[A #[B a.1,S a.2.1 a.2.2.1 a.2.2.2.1,S a.2.2.2.2.1 a.2.2.2.2.2.1 a.2.2.2.2.2.2.1,B a.2.2.2.2.2.2.2.1,S a.2.2.2.2.2.2.2.2.1 a.2.2.2.2.2.2.2.2.2.1 a.2.2.2.2.2.2.2.2.2.2.1,S a.2.2.2.2.2.2.2.2.2.2.2.1 a.2.2.2.2.2.2.2.2.2.2.2.2.1 a.2.2.2.2.2.2.2.2.2.2.2.2.2]] fun x0 x1=>∃q2,∃q3 q4 q5,∃q6 q7 q8,∃q9,∃r0 r1 r2,∃r3 r4 r5,x0=A #[B q2,S q3 q4 q5,S q6 q7 q8,B q9,S r0 r1 r2,S r3 r4 r5]/\(Ca x1 28 #[A #[I J o4,S o5 o6 o7],A #[B o8,S o9 p0 p1,S p2 p3 p4,B p5,S p6 p7 p8,S p9 q0 q1],A #[B q2,S q3 q4 q5,S q6 q7 q8,B q9,S r0 r1 r2,S r3 r4 r5]] fun x2 x3=>∃r6,∃e9,∃d4,x2=T #[I J r6,B e9,d4]/\(Ca x3 29 #[P f,A #[B g,S i k l,S m n o,B p,S q r s,S t u x]] fun x4 x5=>∃r7,∃d5,x4=T #[B r7,B d5]/\(Ca x5 30 #[P f,A #[B g,S i k l,S m n o,B p,S q r s,S t u x],A #[B a.1,S a.2.1 a.2.2.1 a.2.2.2.1,S a.2.2.2.2.1 a.2.2.2.2.2.1 a.2.2.2.2.2.2.1,B a.2.2.2.2.2.2.2.1,S a.2.2.2.2.2.2.2.2.1 a.2.2.2.2.2.2.2.2.2.1 a.2.2.2.2.2.2.2.2.2.2.1,S a.2.2.2.2.2.2.2.2.2.2.2.1 a.2.2.2.2.2.2.2.2.2.2.2.2.1 a.2.2.2.2.2.2.2.2.2.2.2.2.2]] fun x6 x7=>∃r8,∃d6,x6=T #[B r8,B d6]/\(Ca x7 21 #[] fun x8 b1=>∃f0,x8=B f0/\((f0=true->(IsIface d3)/\(((isNilI d3)=true->(IsIface d4)/\(((isNilI d4)=true->(((e8 == d5)=true->(Ca b1 31 #[B r7,B d5] fun x9 f1=>∃f2,x9=I J f2/\(((e7 == f2)=true->(((e9 == d6)=true->(Ca f1 31 #[B r8,B d6] fun y0 y1=>∃r9,y0=I J r9/\(Rt y1 R (B (r6 == r9)))))/\((e9 == d6)=false->(Rt f1 R (B false)))))/\((e7 == f2)=false->(Rt f1 R (B false))))))/\((e8 == d5)=false->(Rt b1 R (B false)))))/\((isNilI d4)=false->(Rt b1 R (B false)))))/\((isNilI d3)=false->(Rt b1 R (B false)))))/\(f0=false->(Rt b1 R (B false)))))))))))))))))))))))):
 Acts prog 4 #[S f3 f4 f5] V R:=
 fd (LF:=LF0) (RF:=[1000015]) [] [(600005,⟨Bool × (OA) × Nat × Nat × Int,false,[3,4,5,6,7],[5,6],fun b=>[(36,.c (.v (B b.1)))],fun b=>[(19,⟨.lit [.v (S b.2.1 b.2.2.1 b.2.2.2.1),.v (I J b.2.2.2.2)],133⟩)]⟩),(6,⟨Bool × (OA) × Nat × Nat × (OA) × Nat × Nat × Bool × (OA) × Nat × Nat × (OA) × Nat × Nat,false,[4,5,6],[5],fun b=>[],fun b=>[(6,⟨.lit [.v (B b.1),.v (S b.2.1 b.2.2.1 b.2.2.2.1),.v (S b.2.2.2.2.1 b.2.2.2.2.2.1 b.2.2.2.2.2.2.1),.v (B b.2.2.2.2.2.2.2.1),.v (S b.2.2.2.2.2.2.2.2.1 b.2.2.2.2.2.2.2.2.2.1 b.2.2.2.2.2.2.2.2.2.2.1),.v (S b.2.2.2.2.2.2.2.2.2.2.2.1 b.2.2.2.2.2.2.2.2.2.2.2.2.1 b.2.2.2.2.2.2.2.2.2.2.2.2.2)],34⟩)]⟩)] func4 h
end Go.Proofs.Tryz
/- Law 15: LocateLeaves. -/
namespace Go.Proofs.Tryz
open Go.Eng Go.Big
theorem c_law15_LocateLeaves {V:View} {e:Value} (he:Sent V 0 e) {lp:OA} {ln lc:Nat} (hr:Rdl V lp ln) (hc:ln<=lc) :
  Acts prog 4 #[.slice lp ln lc] V fun r V'=>r=.bool true:=by
 refine vc_law15_LocateLeaves lp ln lc V _ fun V1 l1=>(c_scene_New hc).mono ?_
 rintro r V2 l2 ⟨bk1,rfl,hfr,hb⟩
 refine ⟨bk1,_,_,_,_,rfl,hfr,hb,fun V3 l3 bk4 e4 h4=>?_⟩
 have l13:V1.Le V3:=fun b o h=>l3 b o ⟨fun hh=>hh.elim (l2 b o h).1 fun e=>by
  have hlt:b < V1.w.heap.size:=by
   rcases Nat.lt_or_ge b V1.w.heap.size with h' | h'
   ·exact h'
   ·have:=h.2; rw [Array.getElem?_eq_none h'] at this; cases this
  have:=e.1
  omega,(l2 b o h).2⟩
 have hmin:min ln 400<=400:=Nat.min_le_right _ _
 have hr:Rdl V lp (min ln 400):=fun i hi=>hr i (Nat.lt_of_lt_of_le hi (Nat.min_le_left _ _))
 generalize min ln 400=n at *
 have l03:V.Le V3:=l1.trans l13
 refine (c_Tree 4 (V:=V3.lend [bk4]) (by omega) (hr.le fun b o h=>l03 b o h) hmin e4 ⟨by simp,h4⟩ (Int.le_refl 0)).mono ?_
 rintro r V4 l4 ⟨qa,t,at1,rfl,hqa,hta,hsa,t1,hw1⟩
 have l04:V.Le V4:=fun b o h=>l4 b o (l03 b o h)
 refine ⟨_,rfl,_,_,_,_,hw1,fun V5 l5 bk8 e5 h5=>(c_keep_Place (V:=V5.lend [bk8]) (hr.le fun b o h=>l5 b o (l04 b o h)) hmin e5 ⟨by simp,h5⟩ t1 (RW.le (V:=V4) (V':=V5.lend _) (fun b o h=>l5 b o h) hqa) hta (by omega)).mono ?_⟩
 rintro r V6 l6 ⟨p,at2,hp,sp1,sp2,t2,hw2⟩
 have hp0:=hp
 obtain ⟨_,_,_,_,_,_,_,_,_,_,_,_,rfl,-⟩:=hp
 have l46:V4.Le V6:=fun b o h=>l6 b o (l5 b o h)
 refine ⟨_,_,_,_,_,_,_,_,_,_,_,_,_,_,rfl,_,_,_,_,hw2,fun V7 l7 bk17 e7 h7=>(c_P (V:=V7.lend [bk17]) (hr.le fun b o h=>l7 b o (l46 b o (l04 b o h))) hmin e7 ⟨by simp,h7⟩ t2).mono ?_⟩
 rintro r V8 l8 ⟨vx,vy,at3,hv,hvx,hvy,t3,hw3⟩
 have hv0:=hv
 obtain ⟨_,_,_,_,_,_,_,_,_,_,_,_,rfl,-⟩:=hv
 have l68:V6.Le V8:=fun b o h=>l8 b o (l7 b o h)
 have l48:=l46.trans l68
 refine ⟨_,_,_,_,_,_,_,_,_,_,_,_,_,_,rfl,_,_,_,_,hw3,fun V9 l9=>(c_ref14_Lines (RW.le (V:=V4) (V':=V9) (fun b o h=>l9 b o (l48 b o h)) hqa) hta (by omega)).mono ?_⟩
 rintro r V10 l10 ⟨ps,m,cs,rfl,hL⟩
 have hbL:∀l ∈ distL t.lns,Bd l:=distL_ok (fun _ h=>h.can) fun l hl=>(lns_all hta l hl).2
 have hlen:(distL t.lns).length<=1000:=by have:=distL_len t.lns; rw [lns_len] at this; omega
 generalize distL t.lns=L at *
 have hm:=hL.len
 subst hm
 have l810:V8.Le V10:=fun b o h=>l10 b o (l9 b o h)
 have l410:=l48.trans l810
 have l010:=l04.trans l410
 refine ⟨_,_,_,rfl,fun z _=>z.2.1=lp/\z.2.2.1=n/\0<=z.2.2.2.2/\(z.1=true->0 < L.length),⟨fun g V11 l11 bk e11 h11=>(c_Next (V:=V11.lend [bk]) 3 (hr.le fun b o h=>l11 b o (l010 b o h)) hmin e11 ⟨by simp,h11⟩ t3 (by omega) (by omega)).mono ?_,fun g=>⟨(false,_,_,_,_),by and_intros <;> rfl,rfl,rfl,t3,fun h=>by cases h⟩⟩,?_⟩
 ·rintro r V12 l12 ⟨x,at4,rfl,-,-,t4,hw4⟩
  have g:0 < L.length:=by have:=of_decide_eq_true g; omega
  exact ⟨_,rfl,_,_,_,_,hw4,(_,_,_,_,_),by and_intros <;> rfl,rfl,rfl,t4,fun _=>g⟩
 rintro ⟨zb,zp,zn,zc,zi⟩ V13 l13' ⟨rfl,rfl,t5,zL⟩
 dsimp only at t5 zL ⊢
 have l413:=l410.trans l13'
 have l013:=l04.trans l413
 refine ⟨rfl,fun z W=>∃v:Rat × Rat,RP W (.agg #[.bool z.1,.slice z.2.1 z.2.2.1 z.2.2.2.1,.slice z.2.2.2.2.1 z.2.2.2.2.2.1 z.2.2.2.2.2.2.1,.bool z.2.2.2.2.2.2.2.1,.slice z.2.2.2.2.2.2.2.2.1 z.2.2.2.2.2.2.2.2.2.1 z.2.2.2.2.2.2.2.2.2.2.1,.slice z.2.2.2.2.2.2.2.2.2.2.2.1 z.2.2.2.2.2.2.2.2.2.2.2.2.1 z.2.2.2.2.2.2.2.2.2.2.2.2.2]) v.1 v.2/\Sz 60000 v.1/\Sz 60000 v.2,⟨fun g V14 l14 bk e14 h14=>(c_Next (V:=V14.lend [bk]) (L.length:Int) (hr.le fun b o h=>l14 b o (l013 b o h)) hmin e14 ⟨by simp,h14⟩ t5 (by have:=zL g; omega) (by omega)).mono ?_,fun g=>⟨(_,_,_,_,_,_,_,_,_,_,_,_,_,_),by and_intros <;> rfl,((vx:Rat),(vy:Rat)),hv0.le (l810.trans l13'),(sz4 (by omega)).mono (by omega),(sz4 (by omega)).mono (by omega)⟩⟩,?_⟩
 ·rintro r V15 l15 ⟨x,at6,rfl,x0,x1,t6,hw6⟩
  obtain ⟨i,rfl⟩:∃i:Nat,x=i:=⟨x.toNat,by omega⟩
  have hi:i < L.length:=by omega
  have l1015:V10.Le V15.shut:=fun b o h=>l15 b o (l14 b o (l13' b o h))
  obtain ⟨is,b1,p1,n1,c1,b2,p2,n2,c2,b3,p3,n3,c3,a,had,a0,a1,a2,a3,a4,a5,hl1⟩:=lst_rlv (hL.le l1015 fun _ _ g=>RLv.le g l1015) hi
  have sl1:=(hbL _ (List.getElem_mem hi)).szl
  generalize L[i]=A at *
  refine ⟨_,rfl,_,_,_,_,hw6,is,⟨by omega,by omega⟩,b1,p1,n1,c1,b2,p2,n2,c2,b3,p3,n3,c3,a,had,a0,a1,a2,a3,a4,a5,fun V16 l16=>(c_ref04_Dir (hl1.le l16) sl1.1 sl1.2.1 sl1.2.2 (by omega)).mono ?_⟩
  rintro r V17 l17 gd
  have gd0:=gd
  obtain ⟨_,_,_,_,_,_,_,_,_,_,_,_,rfl,-⟩:=gd
  exact ⟨_,_,_,_,_,_,_,_,_,_,_,_,_,_,rfl,(_,_,_,_,_,_,_,_,_,_,_,_,_,_),by and_intros <;> rfl,(((A.2.1:Int):Rat),-((A.1:Int):Rat)),gd0,sl1.2.1.mono (by omega),sl1.1.neg.mono (by omega)⟩
 rintro ⟨y1,y2,y3,y4,y5,y6,y7,y8,y9,y10,y11,y12,y13,y14⟩ V18 l18 ⟨v,gv,sv1,sv2⟩
 dsimp only at gv ⊢
 have l418:=l413.trans l18
 have l618:V6.Le V18:=l68.trans (l810.trans (l13'.trans l18))
 have l018:=l04.trans l418
 have ofA:ofT (wr 0 t) (rt 0 t)=some t:=ofT_wr (okb_okL hta) (by omega)
 have bdA:∀x ∈ wr 0 t,Bd x.ln:=lines_wr (okb_bd hta)
 refine ⟨rfl,fun V19 l19=>(c_ref14_Write (RW.le (V:=V4) (V':=V19) (l418.trans l19) hqa) hta (by omega)).mono ?_⟩
 rintro r V20 l20 hA
 have hA0:=hA
 obtain ⟨pa,na,ca,rfl,-⟩:=hA
 have l1820:=l19.trans l20
 refine ⟨_,_,_,_,rfl,fun V21 l21=>(c_ref04_ToP (hp0.le (l618.trans (l1820.trans l21))) sp1 sp2 (by omega)).mono ?_⟩
 rintro r V22 l22 hq
 have hq0:=hq
 obtain ⟨_,_,_,_,_,_,_,_,_,_,_,_,_,_,rfl,-⟩:=hq
 have l1822:=l1820.trans (l21.trans l22)
 refine ⟨_,_,_,_,_,_,_,_,_,_,_,_,_,_,rfl,fun V23 l23=>(c_locate_Leaf bdA (hA0.le (l21.trans (l22.trans l23))) (ApS.of (p:=p) (hq0.le l23) sp1 sp2 (by omega)) (sp1.mono (by omega)) (sp2.mono (by omega)) (he.le (l018.trans (l1822.trans l23)))).mono ?_⟩
 rintro r V24 l24 ⟨-,k1⟩
 have k1:=k1 t ofA
 subst k1
 have l1824:=l1822.trans (l23.trans l24)
 refine ⟨_,_,_,rfl,fun V25 l25=>(c_ref14_Write (RW.le (V:=V4) (V':=V25) (l418.trans (l1824.trans l25)) hqa) hta (by omega)).mono ?_⟩
 rintro r V26 l26 hB
 have hB0:=hB
 obtain ⟨pb,nb,cb,rfl,-⟩:=hB
 have l1826:=l1824.trans (l25.trans l26)
 refine ⟨_,_,_,_,rfl,fun V27 l27=>(c_ref04_ToP (hp0.le (l618.trans (l1826.trans l27))) sp1 sp2 (by omega)).mono ?_⟩
 rintro r V28 l28 hq'
 have hq0':=hq'
 obtain ⟨_,_,_,_,_,_,_,_,_,_,_,_,_,_,rfl,-⟩:=hq'
 have l1828:=l1826.trans (l27.trans l28)
 refine ⟨_,_,_,_,_,_,_,_,_,_,_,_,_,_,rfl,fun V29 l29=>(c_ref04_ToP (gv.le (l1828.trans l29)) sv1 sv2 (by omega)).mono ?_⟩
 rintro r V30 l30 hu
 have hu0:=hu
 obtain ⟨_,_,_,_,_,_,_,_,_,_,_,_,_,_,rfl,-⟩:=hu
 have l1830:=l1828.trans (l29.trans l30)
 refine ⟨_,_,_,_,_,_,_,_,_,_,_,_,_,_,rfl,fun V31 l31=>(c_locate_Toward (d:=v) bdA (hB0.le (l27.trans (l28.trans (l29.trans (l30.trans l31))))) (ApS.of (p:=p) (hq0'.le (l29.trans (l30.trans l31))) sp1 sp2 (by omega)) (ApS.of (p:=v) (hu0.le l31) sv1 sv2 (by omega)) (sp1.mono (by omega)) (sp2.mono (by omega)) (sv1.mono (by omega)) (sv2.mono (by omega)) (he.le (l018.trans (l1830.trans l31)))).mono ?_⟩
 rintro r V32 l32 ⟨-,k2⟩
 have k2:=k2 t ofA
 subst k2
 have l1832:=l1830.trans (l31.trans l32)
 refine ⟨_,_,_,rfl,fun V33 l33=>(c_ref14_At (p:=p) (k:=60000) (by omega) (by omega) sp1 sp2 (RW.le (V:=V4) (V':=V33) (l418.trans (l1832.trans l33)) hqa) (okb_bd hta) (hp0.le (l618.trans (l1832.trans l33)))).mono ?_⟩
 rintro r V34 l34 rfl
 have l1834:=l1832.trans (l33.trans l34)
 refine ⟨_,_,rfl,fun V35 l35=>(c_ref14_Toward (p:=p) (v:=v) (k:=60000) (by omega) (by omega) sp1 sp2 sv1 sv2 (RW.le (V:=V4) (V':=V35) (l418.trans (l1834.trans l35)) hqa) (okb_bd hta) (hp0.le (l618.trans (l1834.trans l35))) (gv.le (l1834.trans l35))).mono ?_⟩
 rintro r V36 l36 rfl
 have l1836:=l1834.trans (l35.trans l36)
 refine ⟨_,_,rfl,fun V37 l37=>(c_known15 (he.le (l018.trans (l1836.trans l37)))).mono ?_⟩
 rintro r V38 l38 rfl
 refine ⟨_,rfl,fun _=>⟨nilI.1,fun _=>⟨nilI.1,fun _=>⟨fun _ V39 l39=>(c_code15 _ _).mono ?_,fun h=>by simp at h⟩,fun h=>by rw [nilI.2] at h; cases h⟩,fun h=>by rw [nilI.2] at h; cases h⟩,(fun h=>by cases h)⟩
 rintro r V40 l40 rfl
 refine ⟨_,rfl,fun _=>⟨fun _ V41 l41=>(c_code15 _ _).mono ?_,fun h=>by simp at h⟩,fun h=>by simp at h⟩
 rintro r V42 l42 rfl
 refine ⟨_,rfl,fun V43 l43=>?_⟩
 simp
end Go.Proofs.Tryz
/- The closed facts of the row LocateLeaves, part 1 (by mkfacts.py). -/
namespace Go.Proofs.YtcbcbdbheiopbaaGreatDoor.locateLeaves
open Go.ChangeShapes Go.WideShapes Go.ChangeAt Go.RowKit Go.Eng
set_option linter.unusedVariables false in
theorem fact0:(fun (P:Program) (f:FuncId) (fn:Func) (s:ChangeSpec) (c:OpenClaim)=>c.wf (OpenSpec.ofChange s)) Tryz.pinned.checked.prog 4 Tryz.f4 (OpenSpec.ofChange Rows.locateLeavesSpec).bare Rows.locateLeavesRow=true:=by kernel_rfl
set_option linter.unusedVariables false in
theorem fact1:(fun (P:Program) (f:FuncId) (fn:Func) (s:ChangeSpec) (c:OpenClaim)=>laidOutB P) Tryz.pinned.checked.prog 4 Tryz.f4 (OpenSpec.ofChange Rows.locateLeavesSpec).bare Rows.locateLeavesRow=true:=by kernel_rfl
set_option linter.unusedVariables false in
theorem fact2:(fun (P:Program) (f:FuncId) (fn:Func) (s:ChangeSpec) (c:OpenClaim)=>mapsRowed P) Tryz.pinned.checked.prog 4 Tryz.f4 (OpenSpec.ofChange Rows.locateLeavesSpec).bare Rows.locateLeavesRow=true:=by kernel_rfl
set_option linter.unusedVariables false in
theorem fact3:(fun (P:Program) (f:FuncId) (fn:Func) (s:ChangeSpec) (c:OpenClaim)=>fn.params.all (P.readableRec ·)) Tryz.pinned.checked.prog 4 Tryz.f4 (OpenSpec.ofChange Rows.locateLeavesSpec).bare Rows.locateLeavesRow=true:=by kernel_rfl
set_option linter.unusedVariables false in
theorem fact4:(fun (P:Program) (f:FuncId) (fn:Func) (s:ChangeSpec) (c:OpenClaim)=>namedTie P c.named s.vars) Tryz.pinned.checked.prog 4 Tryz.f4 (OpenSpec.ofChange Rows.locateLeavesSpec).bare Rows.locateLeavesRow=true:=by kernel_rfl
set_option linter.unusedVariables false in
theorem fact5:(fun (P:Program) (f:FuncId) (fn:Func) (s:ChangeSpec) (c:OpenClaim)=>(c.stops == [])) Tryz.pinned.checked.prog 4 Tryz.f4 (OpenSpec.ofChange Rows.locateLeavesSpec).bare Rows.locateLeavesRow=true:=by kernel_rfl
set_option linter.unusedVariables false in
theorem fact6:(fun (P:Program) (f:FuncId) (fn:Func) (s:ChangeSpec) (c:OpenClaim)=>(P.stops == [])) Tryz.pinned.checked.prog 4 Tryz.f4 (OpenSpec.ofChange Rows.locateLeavesSpec).bare Rows.locateLeavesRow=true:=by kernel_rfl
set_option linter.unusedVariables false in
theorem fact7:(fun (P:Program) (f:FuncId) (fn:Func) (s:ChangeSpec) (c:OpenClaim)=>(c.knobs == [])) Tryz.pinned.checked.prog 4 Tryz.f4 (OpenSpec.ofChange Rows.locateLeavesSpec).bare Rows.locateLeavesRow=true:=by kernel_rfl
set_option linter.unusedVariables false in
theorem fact8:(fun (P:Program) (f:FuncId) (fn:Func) (s:ChangeSpec) (c:OpenClaim)=>(P.stopKnobs == [])) Tryz.pinned.checked.prog 4 Tryz.f4 (OpenSpec.ofChange Rows.locateLeavesSpec).bare Rows.locateLeavesRow=true:=by kernel_rfl
end Go.Proofs.YtcbcbdbheiopbaaGreatDoor.locateLeaves
/- The closed facts of the row LocateLeaves, part 2 (by mkfacts.py). -/
namespace Go.Proofs.YtcbcbdbheiopbaaGreatDoor.locateLeaves
open Go.ChangeShapes Go.WideShapes Go.ChangeAt Go.RowKit Go.Eng
set_option linter.unusedVariables false in
theorem fact9:(fun (P:Program) (f:FuncId) (fn:Func) (s:ChangeSpec) (c:OpenClaim)=>(c.inPlace == P.inPlace f)) Tryz.pinned.checked.prog 4 Tryz.f4 (OpenSpec.ofChange Rows.locateLeavesSpec).bare Rows.locateLeavesRow=true:=by kernel_rfl
set_option linter.unusedVariables false in
theorem fact10:(fun (P:Program) (f:FuncId) (fn:Func) (s:ChangeSpec) (c:OpenClaim)=>(c.unfollowed == P.unfollowed f)) Tryz.pinned.checked.prog 4 Tryz.f4 (OpenSpec.ofChange Rows.locateLeavesSpec).bare Rows.locateLeavesRow=true:=by kernel_rfl
set_option linter.unusedVariables false in
theorem fact11:(fun (P:Program) (f:FuncId) (fn:Func) (s:ChangeSpec) (c:OpenClaim)=>(c.recurses == P.recurses f)) Tryz.pinned.checked.prog 4 Tryz.f4 (OpenSpec.ofChange Rows.locateLeavesSpec).bare Rows.locateLeavesRow=true:=by kernel_rfl
end Go.Proofs.YtcbcbdbheiopbaaGreatDoor.locateLeaves
/- The closed facts of the row LocateLeaves, part 3 (by mkfacts.py). -/
namespace Go.Proofs.YtcbcbdbheiopbaaGreatDoor.locateLeaves
open Go.ChangeShapes Go.WideShapes Go.ChangeAt Go.RowKit Go.Eng
set_option linter.unusedVariables false in
theorem fact12:(fun (P:Program) (f:FuncId) (fn:Func) (s:ChangeSpec) (c:OpenClaim)=>(c.named == P.varsNamed f)) Tryz.pinned.checked.prog 4 Tryz.f4 (OpenSpec.ofChange Rows.locateLeavesSpec).bare Rows.locateLeavesRow=true:=by kernel_rfl
set_option linter.unusedVariables false in
theorem fact13:(fun (P:Program) (f:FuncId) (fn:Func) (s:ChangeSpec) (c:OpenClaim)=>(c.maps == (fn.params.toList++s.plain.varTypes P).any (P.mapsRec ·))) Tryz.pinned.checked.prog 4 Tryz.f4 (OpenSpec.ofChange Rows.locateLeavesSpec).bare Rows.locateLeavesRow=true:=by kernel_rfl
set_option linter.unusedVariables false in
theorem fact14:(fun (P:Program) (f:FuncId) (fn:Func) (s:ChangeSpec) (c:OpenClaim)=>(c.ifaces == (fn.params.toList++s.plain.varTypes P).any (P.ifacesRec ·))) Tryz.pinned.checked.prog 4 Tryz.f4 (OpenSpec.ofChange Rows.locateLeavesSpec).bare Rows.locateLeavesRow=true:=by kernel_rfl
set_option linter.unusedVariables false in
theorem fact15:(fun (P:Program) (f:FuncId) (fn:Func) (s:ChangeSpec) (c:OpenClaim)=>(c.mapsOut == P.mapsAmong fn.resultTypes.toList)) Tryz.pinned.checked.prog 4 Tryz.f4 (OpenSpec.ofChange Rows.locateLeavesSpec).bare Rows.locateLeavesRow=true:=by kernel_rfl
set_option linter.unusedVariables false in
theorem fact16:(fun (P:Program) (f:FuncId) (fn:Func) (s:ChangeSpec) (c:OpenClaim)=>(c.loops == (fn.params.toList++s.plain.varTypes P).any (P.loopsFrom ·))) Tryz.pinned.checked.prog 4 Tryz.f4 (OpenSpec.ofChange Rows.locateLeavesSpec).bare Rows.locateLeavesRow=true:=by kernel_rfl
set_option linter.unusedVariables false in
theorem fact17:(fun (P:Program) (f:FuncId) (fn:Func) (s:ChangeSpec) (c:OpenClaim)=>(c.wideKeys == (fn.params.toList++s.plain.varTypes P++fn.resultTypes.toList).any (P.wideKeysFrom ·))) Tryz.pinned.checked.prog 4 Tryz.f4 (OpenSpec.ofChange Rows.locateLeavesSpec).bare Rows.locateLeavesRow=true:=by kernel_rfl
set_option linter.unusedVariables false in
theorem fact18:(fun (P:Program) (f:FuncId) (fn:Func) (s:ChangeSpec) (c:OpenClaim)=>s.vars.all (P.varReadable ·)) Tryz.pinned.checked.prog 4 Tryz.f4 (OpenSpec.ofChange Rows.locateLeavesSpec).bare Rows.locateLeavesRow=true:=by kernel_rfl
set_option linter.unusedVariables false in
theorem fact19:(fun (P:Program) (f:FuncId) (fn:Func) (s:ChangeSpec) (c:OpenClaim)=>fn.resultTypes.all (fun t=>P.readableRec t && decide (t < P.types.size))) Tryz.pinned.checked.prog 4 Tryz.f4 (OpenSpec.ofChange Rows.locateLeavesSpec).bare Rows.locateLeavesRow=true:=by kernel_rfl
set_option linter.unusedVariables false in
theorem fact20:(fun (P:Program) (f:FuncId) (fn:Func) (s:ChangeSpec) (c:OpenClaim)=>(c.ifacesOut == fn.resultTypes.toList.any (P.ifacesRec ·))) Tryz.pinned.checked.prog 4 Tryz.f4 (OpenSpec.ofChange Rows.locateLeavesSpec).bare Rows.locateLeavesRow=true:=by kernel_rfl
set_option linter.unusedVariables false in
theorem fact21:(fun (P:Program) (f:FuncId) (fn:Func) (s:ChangeSpec) (c:OpenClaim)=>(c.loopsOut == fn.resultTypes.toList.any (P.loopsFrom ·))) Tryz.pinned.checked.prog 4 Tryz.f4 (OpenSpec.ofChange Rows.locateLeavesSpec).bare Rows.locateLeavesRow=true:=by kernel_rfl
set_option linter.unusedVariables false in
theorem fact22:(fun (P:Program) (f:FuncId) (fn:Func) (s:ChangeSpec) (c:OpenClaim)=>(c.plainKeys == P.plainKeys)) Tryz.pinned.checked.prog 4 Tryz.f4 (OpenSpec.ofChange Rows.locateLeavesSpec).bare Rows.locateLeavesRow=true:=by kernel_rfl
set_option linter.unusedVariables false in
theorem fact23:(fun (P:Program) (f:FuncId) (fn:Func) (s:ChangeSpec) (c:OpenClaim)=>c.shortTexts.isNone) Tryz.pinned.checked.prog 4 Tryz.f4 (OpenSpec.ofChange Rows.locateLeavesSpec).bare Rows.locateLeavesRow=true:=by kernel_rfl
end Go.Proofs.YtcbcbdbheiopbaaGreatDoor.locateLeaves
/- The closed facts of the row LocateLeaves, part 4 (by mkfacts.py). -/
namespace Go.Proofs.YtcbcbdbheiopbaaGreatDoor.locateLeaves
open Go.ChangeShapes Go.WideShapes Go.ChangeAt Go.RowKit Go.Eng
set_option linter.unusedVariables false in
theorem fact24:(fun (P:Program) (f:FuncId) (fn:Func) (s:ChangeSpec) (c:OpenClaim)=>P.stopsHeard) Tryz.pinned.checked.prog 4 Tryz.f4 (OpenSpec.ofChange Rows.locateLeavesSpec).bare Rows.locateLeavesRow=true:=by kernel_rfl
set_option linter.unusedVariables false in
theorem fact25:(fun (P:Program) (f:FuncId) (fn:Func) (s:ChangeSpec) (c:OpenClaim)=>P.mayEnter) Tryz.pinned.checked.prog 4 Tryz.f4 (OpenSpec.ofChange Rows.locateLeavesSpec).bare Rows.locateLeavesRow=true:=by kernel_rfl
set_option linter.unusedVariables false in
theorem fact26:(fun (P:Program) (f:FuncId) (fn:Func) (s:ChangeSpec) (c:OpenClaim)=>(c.lifted == P.liftsFinal)) Tryz.pinned.checked.prog 4 Tryz.f4 (OpenSpec.ofChange Rows.locateLeavesSpec).bare Rows.locateLeavesRow=true:=by kernel_rfl
set_option linter.unusedVariables false in
theorem fact27:(fun (P:Program) (f:FuncId) (fn:Func) (s:ChangeSpec) (c:OpenClaim)=>(P.make == some c.make)) Tryz.pinned.checked.prog 4 Tryz.f4 (OpenSpec.ofChange Rows.locateLeavesSpec).bare Rows.locateLeavesRow=true:=by kernel_rfl
set_option linter.unusedVariables false in
theorem fact28:(fun (P:Program) (f:FuncId) (fn:Func) (s:ChangeSpec) (c:OpenClaim)=>(c.kinds == (if c.domain.isEmpty then [] else fn.params.toList.map fun t=>match P.underlying t with | some (.int k)=>some k | _=>none))) Tryz.pinned.checked.prog 4 Tryz.f4 (OpenSpec.ofChange Rows.locateLeavesSpec).bare Rows.locateLeavesRow=true:=by kernel_rfl
set_option linter.unusedVariables false in
theorem fact29:(fun (P:Program) (f:FuncId) (fn:Func) (s:ChangeSpec) (c:OpenClaim)=>(c.pinned == c.pinnedBy)) Tryz.pinned.checked.prog 4 Tryz.f4 (OpenSpec.ofChange Rows.locateLeavesSpec).bare Rows.locateLeavesRow=true:=by kernel_rfl
set_option linter.unusedVariables false in
theorem fact30:(fun (P:Program) (f:FuncId) (fn:Func) (s:ChangeSpec) (c:OpenClaim)=>(c.veiled == (fn.params.toList++s.plain.varTypes P++fn.resultTypes.toList).any (P.veiledRec ·))) Tryz.pinned.checked.prog 4 Tryz.f4 (OpenSpec.ofChange Rows.locateLeavesSpec).bare Rows.locateLeavesRow=true:=by kernel_rfl
set_option linter.unusedVariables false in
theorem fact31:(fun (P:Program) (f:FuncId) (fn:Func) (s:ChangeSpec) (c:OpenClaim)=>c.veiledFits P fn.params.toList (fn.params.toList++s.plain.varTypes P++fn.resultTypes.toList)) Tryz.pinned.checked.prog 4 Tryz.f4 (OpenSpec.ofChange Rows.locateLeavesSpec).bare Rows.locateLeavesRow=true:=by kernel_rfl
end Go.Proofs.YtcbcbdbheiopbaaGreatDoor.locateLeaves
/- The closed facts of the row LocateLeaves, part 5 (by mkfacts.py). -/
namespace Go.Proofs.YtcbcbdbheiopbaaGreatDoor.locateLeaves
open Go.ChangeShapes Go.WideShapes Go.ChangeAt Go.RowKit Go.Eng
theorem goes:false=Rows.locateLeavesRow.goesBy Tryz.pinned.checked.prog:=by kernel_rfl
end Go.Proofs.YtcbcbdbheiopbaaGreatDoor.locateLeaves
