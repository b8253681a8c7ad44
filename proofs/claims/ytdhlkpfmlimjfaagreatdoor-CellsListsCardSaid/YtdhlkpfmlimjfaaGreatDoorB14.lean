import Derived.Test.YtdhlkpfmlimjfaaGreatDoorB13
import Derived.Test.YtdhlkpfmlimjfaaGreatDoorB10
import Derived.Test.YtdhlkpfmlimjfaaGreatDoorB6
import Derived.Test.YtdhlkpfmlimjfaaGreatDoorB8
set_option linter.unusedVariables false
open Go.IntKind (i64 u64 u32)
namespace Go.Proofs.Tryz
open Go.Eng Go.Big
theorem Acts.Oy {f:FuncId}{args:Array Value}{V:View}{R R':Value->View->Prop}(h:Acts prog f args V R)(hR:∀r V',V.Le V'->(∀b,V'.H b->V.H b)->R r V'->R' r V'):Acts prog f args V R':=
 ⟨h.1,h.2.mono fun _ w' ⟨r,he,hx,hr⟩=>⟨r,he,hx,hR r _ (V.Kz w' hx) (fun _ hb=>hb) hr⟩⟩
theorem vb_ne {vs:List Value}{n b:Nat}(h:vs≠[]):vb vs n b=b:=by cases vs with|nil=>exact absurd rfl h|cons v r=>rfl
theorem NR.push {V:View}{vs sp:List Value}{l:List Nd}(h:NR V vs l)(hl:l.length*8<=vs.length){ln:L3}{x y:Int}{b1:Bool}{p1:OA}{n1 c1:Nat}{b2:Bool}{p2:OA}{n2 c2:Nat}{b3:Bool}{p3:OA}{n3 c3:Nat}
  (hL:RL V (.agg #[.bool b1,.slice p1 n1 c1,.bool b2,.slice p2 n2 c2,.bool b3,.slice p3 n3 c3]) ln.1 ln.2.1 ln.2.2) :
  NR V (vs.take (l.length*8)++[.bool b1,.slice p1 n1 c1,.bool b2,.slice p2 n2 c2,.bool b3,.slice p3 n3 c3,.int .i64 x,.int .i64 y]++sp) (l++[⟨ln,x,y⟩]):=by
 intro i d hd
 rcases Nat.lt_or_ge i l.length with hi|hi
 ·rw [List.getElem?_append_left hi] at hd
  obtain ⟨b1',Xf,n1',c1',b2',Xg,Xb,c2',b3',Xi,Xc,c3',h1,h2⟩:=h i d hd
  refine ⟨b1',Xf,n1',c1',b2',Xg,Xb,c2',b3',Xi,Xc,c3',fun j v hv=>?_,h2⟩
  have hj:j<8:=by
   rcases Nat.lt_or_ge j 8 with hj|hj
   ·exact hj
   ·rw [List.getElem?_eq_none (by simpa using hj)] at hv;cases hv
  have:=h1 j v hv
  rw [List.append_assoc,List.getElem?_append_left (by rw [List.length_take];omega),List.getElem?_take,if_pos (by omega)]
  exact this
 ·rw [List.getElem?_append_right hi] at hd
  have hi':i=l.length:=by
   rcases Nat.lt_or_ge (i-l.length) 1 with h'|h'
   ·omega
   ·rw [List.getElem?_eq_none (by simpa using h')] at hd;cases hd
  subst hi'
  simp only [Nat.sub_self,List.getElem?_cons_zero,Option.some.injEq] at hd
  subst hd
  refine ⟨b1,p1,n1,c1,b2,p2,n2,c2,b3,p3,n3,c3,fun j v hv=>?_,.inl hL⟩
  have hj:j<8:=by
   rcases Nat.lt_or_ge j 8 with hj|hj
   ·exact hj
   ·rw [List.getElem?_eq_none (by simpa using hj)] at hv;cases hv
  rw [List.append_assoc,List.getElem?_append_right (by rw [List.length_take];omega),List.length_take,Nat.min_eq_left hl,Nat.add_sub_cancel_left,List.getElem?_append_left (by simpa using hj)]
  exact hv
theorem NR.Su {V:View}{vs:List Value}{l:List Nd}(h:NR V vs l){k:Nat}{d:Nd}(hd:l[k]?=some d){x:Int}:NR V (vs.set (k*8+6) (.int .i64 x)) (l.set k ⟨d.ln,x,d.right⟩):=by
 intro i d' hd'
 rw [List.getElem?_set] at hd'
 split at hd'
 ·rename_i e
  subst e
  split at hd'
  ·cases hd'
   obtain ⟨b1,p1,n1,c1,b2,p2,n2,c2,b3,p3,n3,c3,h1,h2⟩:=h k d hd
   refine ⟨b1,p1,n1,c1,b2,p2,n2,c2,b3,p3,n3,c3,fun j v hv=>?_,h2⟩
   rw [List.getElem?_set]
   by_cases hj:j=6
   ·subst hj
    have:=h1 6 _ rfl
    have hlt:k*8+6<vs.length:=by
     rcases Nat.lt_or_ge (k*8+6) vs.length with h|h
     ·exact h
     ·rw [List.getElem?_eq_none h] at this;cases this
    rw [if_pos rfl,if_pos hlt]
    exact hv
   ·rw [if_neg (by omega)]
    refine h1 j v ?_
    match j,hj,hv with
    | 0,_,hv=>exact hv
    | 1,_,hv=>exact hv
    | 2,_,hv=>exact hv
    | 3,_,hv=>exact hv
    | 4,_,hv=>exact hv
    | 5,_,hv=>exact hv
    | 6,hj,_=>exact absurd rfl hj
    | 7,_,hv=>exact hv
    | n+8,_,hv=>exact hv
  ·cases hd'
 ·rename_i e
  obtain ⟨b1,p1,n1,c1,b2,p2,n2,c2,b3,p3,n3,c3,h1,h2⟩:=h i d' hd'
  refine ⟨b1,p1,n1,c1,b2,p2,n2,c2,b3,p3,n3,c3,fun j v hv=>?_,h2⟩
  have hj:j<8:=by
   rcases Nat.lt_or_ge j 8 with hj|hj
   ·exact hj
   ·rw [List.getElem?_eq_none (by simpa using hj)] at hv;cases hv
  rw [List.getElem?_set_ne (by omega)]
  exact h1 j v hv
theorem NR.Sv {V:View}{vs:List Value}{l:List Nd}(h:NR V vs l){k:Nat}{d:Nd}(hd:l[k]?=some d){x:Int}:NR V (vs.set (k*8+7) (.int .i64 x)) (l.set k ⟨d.ln,d.left,x⟩):=by
 intro i d' hd'
 rw [List.getElem?_set] at hd'
 split at hd'
 ·rename_i e
  subst e
  split at hd'
  ·cases hd'
   obtain ⟨b1,p1,n1,c1,b2,p2,n2,c2,b3,p3,n3,c3,h1,h2⟩:=h k d hd
   refine ⟨b1,p1,n1,c1,b2,p2,n2,c2,b3,p3,n3,c3,fun j v hv=>?_,h2⟩
   rw [List.getElem?_set]
   by_cases hj:j=7
   ·subst hj
    have:=h1 7 _ rfl
    have hlt:k*8+7<vs.length:=by
     rcases Nat.lt_or_ge (k*8+7) vs.length with h|h
     ·exact h
     ·rw [List.getElem?_eq_none h] at this;cases this
    rw [if_pos rfl,if_pos hlt]
    exact hv
   ·rw [if_neg (by omega)]
    refine h1 j v ?_
    match j,hj,hv with
    | 0,_,hv=>exact hv
    | 1,_,hv=>exact hv
    | 2,_,hv=>exact hv
    | 3,_,hv=>exact hv
    | 4,_,hv=>exact hv
    | 5,_,hv=>exact hv
    | 6,_,hv=>exact hv
    | 7,hj,_=>exact absurd rfl hj
    | n+8,_,hv=>exact hv
  ·cases hd'
 ·rename_i e
  obtain ⟨b1,p1,n1,c1,b2,p2,n2,c2,b3,p3,n3,c3,h1,h2⟩:=h i d' hd'
  refine ⟨b1,p1,n1,c1,b2,p2,n2,c2,b3,p3,n3,c3,fun j v hv=>?_,h2⟩
  have hj:j<8:=by
   rcases Nat.lt_or_ge j 8 with hj|hj
   ·exact hj
   ·rw [List.getElem?_eq_none (by simpa using hj)] at hv;cases hv
  rw [List.getElem?_set_ne (by omega)]
  exact h1 j v hv
theorem NR.kids {V:View}{vs:List Value}{l r:List Nd}{ln:L3}{u v x y:Int}(h:NR V vs (l++⟨ln,u,v⟩::r)):NR V ((vs.set (l.length*8+6) (.int .i64 x)).set (l.length*8+7) (.int .i64 y)) (l++⟨ln,x,y⟩::r):=by
 have e1:(l++(⟨ln,u,v⟩:Nd)::r)[l.length]?=some ⟨ln,u,v⟩:=by simp
 have h1:=h.Su e1 (x:=x)
 have e2:(l++(⟨ln,u,v⟩:Nd)::r).set l.length ⟨ln,x,v⟩=l++⟨ln,x,v⟩::r:=by simp
 rw [e2] at h1
 have e3:(l++(⟨ln,x,v⟩:Nd)::r)[l.length]?=some ⟨ln,x,v⟩:=by simp
 have h2:=h1.Sv e3 (x:=y)
 have e4:(l++(⟨ln,x,v⟩:Nd)::r).set l.length ⟨ln,x,y⟩=l++⟨ln,x,y⟩::r:=by simp
 rw [e4] at h2
 exact h2
theorem NR.take {V:View}{vs:List Value}{l:List Nd}(h:NR V vs l):NR V (vs.take (l.length*8)) l:=by
 intro i d hd
 obtain ⟨b1,p1,n1,c1,b2,p2,n2,c2,b3,p3,n3,c3,h1,h2⟩:=h i d hd
 refine ⟨b1,p1,n1,c1,b2,p2,n2,c2,b3,p3,n3,c3,fun j v hv=>?_,h2⟩
 have hj:j<8:=by
  rcases Nat.lt_or_ge j 8 with hj|hj
  ·exact hj
  ·rw [List.getElem?_eq_none (by simpa using hj)] at hv;cases hv
 have hi:i<l.length:=by
  rcases Nat.lt_or_ge i l.length with h|h
  ·exact h
  ·rw [List.getElem?_eq_none h] at hd;cases hd
 rw [List.getElem?_take,if_pos (by omega)]
 exact h1 j v hv
theorem NS.ofRow {V:View}{b c:Nat}{vm:List Value}{l:List Nd}{ty:TypeId}(hb:vm≠[]->V.aZ b (.cells vm.toArray ty (0,0)))(hc:l.length<=c)(hr:NR V vm l):NS V (mA b c) l.length c l:=by
 refine ⟨rfl,hc,⟨_,?_,hr.take⟩,?_⟩
 ·intro i v hv
  rw [List.getElem?_take] at hv
  split at hv
  ·rename_i hi
   have hne:vm≠[]:=fun e=>by rw [e] at hv;simp at hv
   refine ⟨⟨b,0,none⟩,by unfold mA;rw [if_neg (by omega)],?_⟩
   rw [add_zero']
   exact blk_at (hb hne) hv
  ·cases hv
 ·intro e
  unfold mA at e
  split at e
  ·assumption
  ·cases e
def Qa (V:View)(vs:List Value)(ts:List Tr):Prop:=∀(i:Nat)(t:Tr),ts[i]?=some t->∃p,vs[i]?=some (.pointer p)/\RT V p t
theorem Qa.le {V V':View}{vs:List Value}{ts:List Tr}(h:Qa V vs ts)(l:V.Le V'):Qa V' vs ts:=fun i t ht=>by
 obtain ⟨p,h1,h2⟩:=h i t ht
 exact ⟨p,h1,h2.le l⟩
def AT (V:View)(v:Value)(root:Int)(l:List Nd):Prop:=∃q n c,v=.agg #[.int .i64 root,.slice q n c]/\NS V q n c l
theorem AT.le {V V':View}{v:Value}{root:Int}{l:List Nd}(h:AT V v root l)(hl:V.Le V'):AT V' v root l:=by
 obtain ⟨q,n,c,e,h⟩:=h;exact ⟨q,n,c,e,h.le hl⟩
theorem AT.zero {V:View}:AT V (.agg #[.int .i64 0,.slice none 0 0]) 0 []:=⟨_,_,_,rfl,NS.nil⟩
theorem c_bsp_Of' {V:View}{l:List Nd}(hb:∀x∈l,Bd x.ln){v:Value}{root:Int}(h:AT V v root l) :
  Acts prog 93 #[v] V fun r V'=>∃q,r=.tuple #[.pointer q,.bool (ofT l root).isSome]/\∀t,ofT l root=some t->RT V' q t:=by
 obtain ⟨p,n,c,rfl,h⟩:=h
 refine (Gb hb root h).mono ?_
 rintro r V' _ ⟨h1,h2⟩
 cases e:ofT l root with
 | none=>obtain ⟨q,rfl⟩:=h1 e;exact ⟨q,rfl,fun t ht=>by cases ht⟩
 | some t=>obtain ⟨q,rfl,hq⟩:=h2 t e;exact ⟨q,rfl,fun t' ht=>by cases ht;exact hq⟩
theorem RQ.ofNat {V:View}{p:OA}{n c x:Nat}(h:RN V p n c x){b:Bool}(hb:b=decide ((x:Int)<0)):RQ V (.agg #[.bool b,.slice p n c,.slice none 0 0]) ((x:Int):Rat):=
 ml (z:=(x:Int)) (d:=1) rfl rfl h RD.nil hb
theorem RQ.int {V:View}{q:Rat}{b:Bool}{p:OA}{n c:Nat}{p':OA}{n' c':Nat}(h:RQ V (.agg #[.bool b,.slice p n c,.slice p' n' c']) q):RI V (.agg #[.bool b,.slice p n c]) q.num:=by
 obtain ⟨p1,n1,c1,p2,n2,c2,e,h1,h2⟩:=h
 cases e
 exact ⟨_,_,_,rfl,h1⟩
theorem RQ.den {V:View}{q:Rat}{b:Bool}{p:OA}{n c:Nat}{p':OA}{n' c':Nat}(h:RQ V (.agg #[.bool b,.slice p n c,.slice p' n' c']) q):RD V p' n' c' (qR q.den):=by
 obtain ⟨p1,n1,c1,p2,n2,c2,e,h1,h2⟩:=h
 cases e
 exact h2
def zm (px py qx qy:Rat):Rat×Rat×Rat:=
 let a:=-(qy-py);let b:=qx-px;let c:=-(a*px+b*py)
 let f:Rat:=(((a.den*b.den*c.den:Nat):Int):Rat)
 (a*f,b*f,c*f)
theorem Mo {n k:Nat}(h:n<2^k)(hk:0<k):Sz k (((n:Nat):Int):Rat):=by
 refine ⟨?_,?_⟩
 ·show ((n:Nat):Int).natAbs<_
  simpa using h
 ·show 1<2^k
  exact Nat.one_lt_two_pow (by omega)
theorem qQ {V:View}{u w:Value}{px py qx qy:Rat}(hp:RP V u px py)(hq:RP V w qx qy){k:Nat}(s1:Sz k px)(s2:Sz k py)(s3:Sz k qx)(s4:Sz k qy)(hk1:1<=k)(hk:64*k+64<274877906944) :
  Acts prog 28 #[u,w] V fun r V'=>((zm px py qx qy).1.num=0/\(zm px py qx qy).2.1.num=0->∃l,r=.tuple #[l,.bool false]/\RL V' l 0 0 0) /\
   (¬((zm px py qx qy).1.num=0/\(zm px py qx qy).2.1.num=0)->∃l,r=.tuple #[l,.bool true] /\
    RL V' l ((zm px py qx qy).1.num / (gW (zm px py qx qy).1.num (zm px py qx qy).2.1.num (zm px py qx qy).2.2.num:Int)) ((zm px py qx qy).2.1.num / (gW (zm px py qx qy).1.num (zm px py qx qy).2.1.num (zm px py qx qy).2.2.num:Int)) ((zm px py qx qy).2.2.num / (gW (zm px py qx qy).1.num (zm px py qx qy).2.1.num (zm px py qx qy).2.2.num:Int))):=by
 have hp0:=hp
 have hq0:=hq
 obtain ⟨p1,n1,c1,p2,n2,c2,p3,n3,c3,p4,n4,c4,rfl,hp1,hp2⟩:=hp
 obtain ⟨q1,m1,e1,q2,m2,e2,q3,m3,e3,q4,m4,e4,rfl,-,-⟩:=hq
 refine pV _ p1 n1 c1 p2 n2 c2 _ p3 n3 c3 p4 n4 c4 _ q1 m1 e1 q2 m2 e2 _ q3 m3 e3 q4 m4 e4 V _ fun V1 l1=>(Ah (hq0.le l1) (hp0.le l1) s3 s4 s1 s2 hk1 (by omega)).mono ?_
 rintro r V2 l2 ⟨a1,a2,a3,a4,a5,a6,a7,a8,a9,Yv,Yw,a12,rfl,hb,hd⟩
 have tb:Sz (k+k+1) (qx-px):=s3.sub s1
 have td:Sz (k+k+1) (qy-py):=s4.sub s2
 have l02:=l1.trans l2
 refine ⟨_,_,_,_,_,_,_,_,_,_,_,_,_,_,rfl,fun V3 l3=>(lL (qy-py) (by obtain ⟨_,_,_,_,_,_,e,h1,h2⟩:=hd.le l3;cases e;exact h1) (RQ.den (hd.le l3))).mono ?_⟩
 rintro r V4 l4 ha
 obtain ⟨b1,b2,b3,b4,b5,b6,rfl⟩:=ha.shape
 have ta:=td.neg
 have Ri:zm px py qx qy=(-(qy-py)*(((((-(qy-py)).den*(qx-px).den*(-(-(qy-py)*px+(qx-px)*py)).den:Nat):Int):Rat)),(qx-px)*(((((-(qy-py)).den*(qx-px).den*(-(-(qy-py)*px+(qx-px)*py)).den:Nat):Int):Rat)),(-(-(qy-py)*px+(qx-px)*py))*(((((-(qy-py)).den*(qx-px).den*(-(-(qy-py)*px+(qx-px)*py)).den:Nat):Int):Rat))):=rfl
 rw [Ri]
 generalize -(qy-py)=A at *
 generalize qx-px=B at *
 replace hb:=hb.le (l3.trans l4)
 replace hp1:=hp1.le (l02.trans (l3.trans l4))
 replace hp2:=hp2.le (l02.trans (l3.trans l4))
 refine ⟨_,_,_,_,_,_,_,rfl,fun V5 l5=>(aI (ha.le l5) (hp1.le l5) ta s1 (by omega)).mono ?_⟩
 rintro r V6 l6 g6
 obtain ⟨d1,d2,d3,d4,d5,d6,rfl⟩:=g6.shape
 refine ⟨_,_,_,_,_,_,_,rfl,fun V7 l7=>(aI (hb.le (l5.trans (l6.trans l7))) (hp2.le (l5.trans (l6.trans l7))) tb s2 (by omega)).mono ?_⟩
 rintro r V8 l8 g8
 obtain ⟨f1,f2,f3,f4,f5,f6,rfl⟩:=g8.shape
 refine ⟨_,_,_,_,_,_,_,rfl,fun V9 l9=>(eF (g6.le (l7.trans (l8.trans l9))) (g8.le l9) (ta.mul s1) (tb.mul s2) (by omega)).mono ?_⟩
 rintro r V10 l10 g10
 have tc:=((ta.mul s1).add (tb.mul s2)).neg
 obtain ⟨i1,i2,i3,i4,i5,i6,rfl⟩:=g10.shape
 refine ⟨_,_,_,_,_,_,_,rfl,fun V11 l11=>(lL (A*px+B*py) (by obtain ⟨_,_,_,_,_,_,e,h1,h2⟩:=g10.le l11;cases e;exact h1) (RQ.den (g10.le l11))).mono ?_⟩
 rintro r V12 l12 hc
 generalize -(A*px+B*py)=C at *
 obtain ⟨j1,j2,j3,j4,j5,j6,rfl⟩:=hc.shape
 have CT:=l5.trans (l6.trans (l7.trans (l8.trans (l9.trans (l10.trans (l11.trans l12))))))
 replace ha:=ha.le CT
 replace hb:=hb.le CT
 refine ⟨_,_,_,_,_,_,_,rfl,fun V13 l13=>(cH A _ (RQ.den (ha.le l13))).mono ?_⟩
 rintro r V14 dA ⟨k1,k2,k3,rfl,g14⟩
 refine ⟨_,_,_,rfl,fun V15 dS=>(cH B _ (RQ.den (hb.le (l13.trans (dA.trans dS))))).mono ?_⟩
 rintro r kG dB ⟨k4,k5,k6,rfl,g16⟩
 obtain ⟨-,da,-⟩:=bZ ta
 obtain ⟨-,db,-⟩:=bZ tb
 obtain ⟨-,dc,-⟩:=bZ tc
 refine ⟨_,_,_,rfl,fun nD cU=>(bY (g14.le (dS.trans (dB.trans cU))) (g16.le cU) (by omega)).mono ?_⟩
 rintro r qN dW ⟨k7,k8,k9,rfl,g18⟩
 rw [ab,ab] at g18
 refine ⟨_,_,_,rfl,fun rG dX=>(cH C _ (RQ.den (hc.le (l13.trans (dA.trans (dS.trans (dB.trans (cU.trans (dW.trans dX))))))))).mono ?_⟩
 rintro r Cg iI ⟨k10,k11,k12,rfl,g20⟩
 have Yy:=gy (a:=A.den) (b:=B.den)
 refine ⟨_,_,_,rfl,fun rX fA=>(bY (g18.le (dX.trans (iI.trans fA))) (g20.le fA) (by omega)).mono ?_⟩
 rintro r wE jA ⟨k13,k14,k15,rfl,g22⟩
 rw [ab,ab] at g22
 have tf:Sz (k+k+1+(k+k+1)+(k+k+1+k+1+(k+k+1+k+1)+1)) (((A.den*B.den*C.den:Nat):Int):Rat):=Mo (bC (bC ta.2 tb.2) tc.2) (by omega)
 generalize A.den*B.den*C.den=M at *
 refine ⟨_,_,_,rfl,fun wF iq=>(oZ (g22.le iq)).mono ?_⟩
 rintro r FR tH ⟨k16,k17,k18,rfl,g24⟩
 have hf:=RQ.ofNat g24 rfl
 have LJ:=l13.trans (dA.trans (dS.trans (dB.trans (cU.trans (dW.trans (dX.trans (iI.trans (fA.trans (jA.trans (iq.trans tH))))))))))
 refine ⟨_,_,_,_,rfl,fun FE l25=>(aI (ha.le (LJ.trans l25)) (hf.le l25) ta tf (by omega)).mono ?_⟩
 rintro r Ka l26 TL
 obtain ⟨o1,o2,o3,o4,o5,o6,rfl⟩:=TL.shape
 refine ⟨_,_,_,_,_,_,_,rfl,fun Mz l27=>(aI (hb.le (LJ.trans (l25.trans (l26.trans l27)))) (hf.le (l25.trans (l26.trans l27))) tb tf (by omega)).mono ?_⟩
 rintro r MA E5 TM
 obtain ⟨o7,o8,o9,YI,YJ,YK,rfl⟩:=TM.shape
 refine ⟨_,_,_,_,_,_,_,rfl,fun Qb GW=>(aI (hc.le (LJ.trans (l25.trans (l26.trans (l27.trans (E5.trans GW)))))) (hf.le (l25.trans (l26.trans (l27.trans (E5.trans GW))))) tc tf (by omega)).mono ?_⟩
 rintro r KV Cd oQ
 obtain ⟨t1,t2,t3,t4,t5,t6,rfl⟩:=oQ.shape
 refine ⟨_,_,_,_,_,_,_,rfl,fun S3 E6=>(vv (RQ.int (TL.le (l27.trans (E5.trans (GW.trans (Cd.trans E6)))))) (RQ.int (TM.le (GW.trans (Cd.trans E6)))) (RQ.int (oQ.le E6)) (Nat.le_trans (bZ (ta.mul tf)).1 (by omega)) (Nat.le_trans (bZ (tb.mul tf)).1 (by omega)) (Nat.le_trans (bZ (tc.mul tf)).1 (by omega))).mono ?_⟩
 rintro r Qc Iq ⟨z1,z2⟩
 by_cases hz:(A*((M:Int):Rat)).num=0/\(B*((M:Int):Rat)).num=0
 ·obtain ⟨l,rfl,y1,y2,y3,y4,y5,y6,y7,y8,y9,rfl,w1,w2,w3⟩:=z1 hz
  exact ⟨_,_,_,_,_,_,_,_,_,_,_,_,_,rfl,fun Pz zM=>⟨fun _=>⟨_,rfl,_,_,_,_,_,_,_,_,_,rfl,w1.le zM,w2.le zM,w3.le zM⟩,fun h=>absurd hz h⟩⟩
 ·obtain ⟨l,rfl,y1,y2,y3,y4,y5,y6,y7,y8,y9,rfl,w1,w2,w3⟩:=z2 hz
  exact ⟨_,_,_,_,_,_,_,_,_,_,_,_,_,rfl,fun Pz zM=>⟨fun h=>absurd h hz,fun _=>⟨_,rfl,_,_,_,_,_,_,_,_,_,rfl,w1.le zM,w2.le zM,w3.le zM⟩⟩⟩
theorem JN (x y u w:Int):zm (x:Rat) (y:Rat) ((x:Rat)+((1:Int):Rat)*(u:Rat)) ((y:Rat)+((1:Int):Rat)*(w:Rat))=(((-w:Int):Rat),((u:Int):Rat),((w*x-u*y:Int):Rat)):=by
 have e1:(x:Rat)+((1:Int):Rat)*(u:Rat)=((x+u:Int):Rat):=by rw [←Rat.intCast_mul,←Rat.intCast_add,Int.one_mul]
 have e2:(y:Rat)+((1:Int):Rat)*(w:Rat)=((y+w:Int):Rat):=by rw [←Rat.intCast_mul,←Rat.intCast_add,Int.one_mul]
 rw [e1,e2]
 have ha:-(((y+w:Int):Rat)-(y:Rat))=((-w:Int):Rat):=by rw [←Rat.intCast_sub,←Rat.intCast_neg];congr 1;omega
 have hb:((x+u:Int):Rat)-(x:Rat)=((u:Int):Rat):=by rw [←Rat.intCast_sub];congr 1;omega
 have hc:-(((-w:Int):Rat)*(x:Rat)+((u:Int):Rat)*(y:Rat))=((w*x-u*y:Int):Rat):=by
  rw [←Rat.intCast_mul,←Rat.intCast_mul,←Rat.intCast_add,←Rat.intCast_neg];congr 1;rw [Int.neg_mul];omega
 have hf:(((((-w:Int):Rat).den*((u:Int):Rat).den*((w*x-u*y:Int):Rat).den:Nat):Int):Rat)=1:=rfl
 unfold zm
 dsimp only
 rw [ha,hb,hc,hf,Rat.mul_one,Rat.mul_one,Rat.mul_one]
def CU (a b c:Int):L3:=(a / (gW a b c:Int),b / (gW a b c:Int),c / (gW a b c:Int))
def small (z:Int)(k:Nat):Bool:=decide (z.natAbs<=k)
theorem GZ:∀i:Fin 9,∀j:Fin 9,∀k:Fin 65,(i.1=4/\j.1=4)\/(okL (CU ((i.1:Int)-4) ((j.1:Int)-4) ((k.1:Int)-32))&&small (CU ((i.1:Int)-4) ((j.1:Int)-4) ((k.1:Int)-32)).1 32&&small (CU ((i.1:Int)-4) ((j.1:Int)-4) ((k.1:Int)-32)).2.1 32&&small (CU ((i.1:Int)-4) ((j.1:Int)-4) ((k.1:Int)-32)).2.2 32)=true:=by decide +kernel
theorem K1 (k:Nat)(hk:6<=k){z:Int}(h:z.natAbs<=32):z.natAbs<2^k:=Nat.lt_of_le_of_lt h (Nat.lt_of_lt_of_le (by decide:32<2^6) (Nat.pow_le_pow_right (by decide) hk))
theorem M5 (k:Nat)(hk:6<=k){x:L3}(h1:x.1.natAbs<=32)(h2:x.2.1.natAbs<=32)(h3:x.2.2.natAbs<=32):x.1.natAbs<2^k/\x.2.1.natAbs<2^k/\x.2.2.natAbs<2^k:=⟨K1 k hk h1,K1 k hk h2,K1 k hk h3⟩
theorem Jg {a b c:Int}(h1:-4<=a/\a<=4)(h2:-4<=b/\b<=4)(h3:-32<=c/\c<=32)(h:¬(a=0/\b=0)):okL (CU a b c)=true/\Bd (CU a b c):=by
 have:=GZ ⟨(a+4).toNat,by omega⟩ ⟨(b+4).toNat,by omega⟩ ⟨(c+32).toNat,by omega⟩
 dsimp only at this
 rw [show (((a+4).toNat:Nat):Int)-4=a from by omega,show (((b+4).toNat:Nat):Int)-4=b from by omega,show (((c+32).toNat:Nat):Int)-32=c from by omega] at this
 rcases this with h'|h'
 ·omega
 ·simp only [Bool.and_eq_true,small,decide_eq_true_eq] at h'
  exact ⟨h'.1.1.1,M5 1000 (by decide) h'.1.1.2 h'.1.2 h'.2⟩
theorem G8 {x y:Int}(h1:-4<=x/\x<=4)(h2:-4<=y/\y<=4):-16<=x*y/\x*y<=16:=by
 have:(x*y).natAbs<=4*4:=by rw [Int.natAbs_mul];exact Nat.mul_le_mul (by omega) (by omega)
 omega
theorem oR {V:View}{v:Value}{a b c:Int}(h:RL V v a b c):∃(b1:Bool)(p1:OA)(n1 c1:Nat)(b2:Bool)(p2:OA)(n2 c2:Nat)(b3:Bool)(p3:OA)(n3 c3:Nat),v=.agg #[.bool b1,.slice p1 n1 c1,.bool b2,.slice p2 n2 c2,.bool b3,.slice p3 n3 c3]:=by
 obtain ⟨p,n,s,p',n',s',q,m,e,rfl,-⟩:=h
 exact ⟨_,_,_,_,_,_,_,_,_,_,_,_,rfl⟩
def Ii (V:View)(p:OA)(n:Nat):Prop:=∀i,i<n->∃(a:Addr)(x:Int),addrAdd p (i*1)=some a/\V.at a (.int .i64 x)
theorem Ii.le {V V':View}{p:OA}{n:Nat}(h:Ii V p n)(l:V.Le V'):Ii V' p n:=fun i hi=>by
 obtain ⟨a,x,e,hx⟩:=h i hi;exact ⟨a,x,e,l.at hx⟩
def vj (V:View)(tb:Nat)(p:OA)(n c:Nat)(at_:Int):Prop:=V.w.heap[tb]?=some (.cells #[.slice p n c,.int .i64 at_] 102 (0,0))
theorem sF {V:View}{tb:Nat}{p:OA}{n c:Nat}{at_:Int}(k:Int)(hr:Ii V p n)(hn:n<=400)(hw:vj V tb p n c at_)(hx:V.X tb)(h0:0<=at_)(hk:0<k)(hk2:k<=1000) :
  Acts prog 37 #[.pointer (some ⟨tb,0,none⟩),.int .i64 k] V fun r V'=>∃x at',r=.int .i64 x/\0<=x/\x<k/\0<=at'/\vj V' tb p n c at':=by
 refine ny tb p n c at_ k V _ hw hx ⟨fun g V1 l1 e=>⟨0,at_,rfl,by omega,hk,h0,e⟩,fun g=>?_⟩
 have g:at_<n:=by have:=of_decide_eq_false g;omega
 obtain ⟨i,rfl⟩:∃i:Nat,at_=i:=⟨at_.toNat,by omega⟩
 obtain ⟨a,x,e1,e2⟩:=hr i (by omega)
 have hs:p.isSome=true:=by
  cases p with
  | none=>simp [addrAdd] at e1
  | some a=>rfl
 have m1:(x.tmod k).natAbs<k.natAbs:=by rw [Int.natAbs_tmod];exact Nat.mod_lt _ (by omega)
 have w1:i64.wrap ((i:Int)+1)=((i+1:Nat):Int):=by rw [i64w (by omega)];omega
 rw [Int.toNat_natCast,w1]
 have w2:i64.wrap (x.tmod k+k)=x.tmod k+k:=i64w (by omega)
 refine ⟨hs,⟨by omega,by omega⟩,x,⟨a,e1,e2⟩,by omega,fun g2 V2 l2 e=>⟨x.tmod k+k,_,by rw [w2],?_,?_,?_,e⟩,fun g2 V3 l3 e=>⟨_,_,rfl,?_,?_,?_,e⟩⟩
 ·omega
 ·have:=of_decide_eq_true g2;omega
 ·omega
 ·have:=of_decide_eq_false g2;omega
 ·omega
 ·omega
theorem TA {V:View}{tb:Nat}{p:OA}{n c:Nat}{at_:Int}(hr:Ii V p n)(hn:n<=400)(hw:vj V tb p n c at_)(hx:V.X tb)(h0:0<=at_) :
  Acts prog 90 #[.pointer (some ⟨tb,0,none⟩)] V fun r V'=>∃(x y at':Int),RP V' r (x:Rat) (y:Rat)/\(-4<=x/\x<=4)/\(-4<=y/\y<=4)/\0<=at'/\vj V' tb p n c at':=by
 refine rD tb p n c at_ V _ hw hx fun V1 l1 bk1 e1 h1=>(sF (V:=V1.lend [bk1]) 9 (hr.le fun b o h=>l1 b o h) hn e1 ⟨by simp,h1⟩ h0 (by omega) (by omega)).mono ?_
 rintro r V2 l2 ⟨x,Kd,rfl,x0,x1,t1,hw1⟩
 refine ⟨_,rfl,_,_,_,_,hw1,fun V3 l3 VJ e3 h3=>(sF (V:=V3.lend [VJ]) 9 (hr.le fun b o h=>l3 b o (l2 b o (l1 b o h))) hn e3 ⟨by simp,h3⟩ t1 (by omega) (by omega)).mono ?_⟩
 rintro r V4 l4 ⟨y,at2,rfl,y0,y1,t2,hw2⟩
 refine ⟨_,rfl,_,_,_,_,hw2,fun V5 l5=>?_⟩
 rw [i64w (x:=x-4) (by omega),i64w (x:=y-4) (by omega)]
 refine (sM (x-4) (y-4) (by omega) (by omega) (by omega) (by omega)).mono ?_
 rintro r V6 l6 hp
 have hp0:=hp
 obtain ⟨p1,n1,c1,p2,n2,c2,p3,n3,c3,p4,n4,c4,rfl,-⟩:=hp
 exact ⟨_,_,_,_,_,_,_,_,_,_,_,_,_,_,rfl,fun V7 l7 e7=>⟨x-4,y-4,at2,hp0.le l7,⟨by omega,by omega⟩,⟨by omega,by omega⟩,t2,e7⟩⟩
theorem RQ.zero {V:View}:RQ V (.agg #[.bool false,.slice none 0 0,.slice none 0 0]) ((0:Int):Rat):=⟨none,0,0,none,0,0,rfl,RD.nil,RD.nil⟩
theorem RP.zero {V:View}:RP V (.agg #[.bool false,.slice none 0 0,.slice none 0 0,.bool false,.slice none 0 0,.slice none 0 0]) ((0:Int):Rat) ((0:Int):Rat):=
 ⟨none,0,0,none,0,0,none,0,0,none,0,0,rfl,RQ.zero,RQ.zero⟩
theorem Fv {z:Int}(h:-40<=z/\z<=40):Sz 10 (z:Rat):=zk (by omega) (by omega)
theorem VN {V:View}{tb:Nat}{p:OA}{n c:Nat}{at_:Int}(hr:Ii V p n)(hn:n<=400)(hw:vj V tb p n c at_)(hx:V.X tb)(h0:0<=at_) :
  Acts prog 92 #[.pointer (some ⟨tb,0,none⟩)] V fun r V'=>∃(x y at':Int),RP V' r (x:Rat) (y:Rat)/\(-4<=x/\x<=4)/\(-4<=y/\y<=4)/\¬(x=0/\y=0)/\0<=at'/\vj V' tb p n c at':=by
 refine rE tb p n c at_ V _ hw hx fun V1 l1 bk1 e1 h1=>(TA (V:=V1.lend [bk1]) (hr.le fun b o h=>l1 b o h) hn e1 ⟨by simp,h1⟩ h0).mono ?_
 rintro r V2 l2 ⟨x,y,Kd,hp,hx1,hy1,t1,hw1⟩
 have hp0:=hp
 obtain ⟨p1,n1,c1,p2,n2,c2,p3,n3,c3,p4,n4,c4,rfl,-⟩:=hp
 refine ⟨_,_,_,_,_,_,_,_,_,_,_,_,_,_,rfl,_,_,_,_,hw1,fun V3 l3=>(yo (hp0.le fun b o h=>l3 b o h) RP.zero (Fv (by omega)) (Fv (by omega)) (Fv (by omega)) (Fv (by omega)) (by omega)).mono ?_⟩
 rintro r V4 l4 rfl
 refine ⟨_,rfl,fun g V5 l5=>(sM 1 0 (by omega) (by omega) (by omega) (by omega)).mono ?_,fun g V8 l8 e8=>⟨x,y,Kd,hp0.le fun b o h=>l8 b o (l4 b o (l3 b o h)),hx1,hy1,?_,t1,e8⟩⟩
 ·rintro r V6 l6 hq
  have hq0:=hq
  obtain ⟨p1,n1,c1,p2,n2,c2,p3,n3,c3,p4,n4,c4,rfl,-⟩:=hq
  exact ⟨_,_,_,_,_,_,_,_,_,_,_,_,_,_,rfl,fun V7 l7 e7=>⟨1,0,Kd,hq0.le l7,⟨by omega,by omega⟩,⟨by omega,by omega⟩,by omega,t1,e7⟩⟩
 ·rintro ⟨rfl,rfl⟩
  simp at g
theorem VM {V:View}{tb:Nat}{p:OA}{n c:Nat}{at_:Int}(hr:Ii V p n)(hn:n<=400)(hw:vj V tb p n c at_)(hx:V.X tb)(h0:0<=at_) :
  Acts prog 39 #[.pointer (some ⟨tb,0,none⟩)] V fun r V'=>∃(x:L3)(at':Int),RL V' r x.1 x.2.1 x.2.2/\okL x=true/\Bd x/\0<=at'/\vj V' tb p n c at':=by
 refine rC tb p n c at_ V _ hw hx fun V1 l1 bk1 e1 h1=>(TA (V:=V1.lend [bk1]) (hr.le fun b o h=>l1 b o h) hn e1 ⟨by simp,h1⟩ h0).mono ?_
 rintro r V2 l2 ⟨x,y,Kd,hp,hx1,hy1,t1,hw1⟩
 have hp0:=hp
 obtain ⟨p1,n1,c1,p2,n2,c2,p3,n3,c3,p4,n4,c4,rfl,-⟩:=hp
 refine ⟨_,_,_,_,_,_,_,_,_,_,_,_,_,_,rfl,_,_,_,_,hw1,fun V3 l3=>(nH 1 (by omega) (by omega)).mono ?_⟩
 rintro r V4 l4 hq
 have hq0:=hq
 obtain ⟨p5,n5,c5,p6,n6,c6,rfl⟩:=hq.shape
 refine ⟨_,_,_,_,_,_,_,rfl,fun V5 l5 Qj e5 h5=>(VN (V:=V5.lend [Qj]) (hr.le fun b o h=>l5 b o (l4 b o (l3 b o (l2 b o (l1 b o h))))) hn e5 ⟨by simp,h5⟩ t1).mono ?_⟩
 rintro r V6 l6 ⟨u,w,at2,hv,hu1,Rm,hne,t2,hw2⟩
 have hv0:=hv
 obtain ⟨q1,m1,d1,q2,m2,d2,q3,m3,d3,q4,m4,d4,rfl,-⟩:=hv
 refine ⟨_,_,_,_,_,_,_,_,_,_,_,_,_,_,rfl,_,_,_,_,hw2,fun V7 l7=>?_⟩
 have l27:V2.Le V7:=fun b o h=>l7 b o (l6 b o (l5 b o (l4 b o (l3 b o h))))
 have Oi:V4.Le V7:=fun b o h=>l7 b o (l6 b o (l5 b o h))
 have l67:V6.Le V7:=fun b o h=>l7 b o h
 refine (qf (hp0.le l27) (hq0.le Oi) (hv0.le l67) (k:=10) (m:=10) (Fv (by omega)) (Fv (by omega)) (Fv (by omega)) (Fv (by omega)) (Fv (by omega)) (by omega)).mono ?_
 rintro r V8 l8 hs
 have hs0:=hs
 obtain ⟨s1,i1,j1,s2,i2,j2,s3,i3,j3,s4,i4,j4,rfl,-⟩:=hs
 have f1:(x:Rat)+((1:Int):Rat)*(u:Rat)=((x+u:Int):Rat):=by rw [←Rat.intCast_mul,←Rat.intCast_add,Int.one_mul]
 have f2:(y:Rat)+((1:Int):Rat)*(w:Rat)=((y+w:Int):Rat):=by rw [←Rat.intCast_mul,←Rat.intCast_add,Int.one_mul]
 refine ⟨_,_,_,_,_,_,_,_,_,_,_,_,_,_,rfl,fun V9 l9=>(qQ (hp0.le (l27.trans (l8.trans l9))) (hs0.le l9) (k:=10) (Fv (by omega)) (Fv (by omega)) (by rw [f1];exact Fv (by omega)) (by rw [f2];exact Fv (by omega)) (by omega) (by omega)).mono ?_⟩
 rintro r V10 l10 ⟨-,h⟩
 rw [JN] at h
 have n1:((-w:Int):Rat).num=-w:=rfl
 have n2:((u:Int):Rat).num=u:=rfl
 have n3:((w*x-u*y:Int):Rat).num=w*x-u*y:=rfl
 dsimp only at h
 rw [n1,n2,n3] at h
 obtain ⟨l,rfl,hl⟩:=h (by omega)
 have m1:=G8 Rm hx1
 have m2:=G8 hu1 hy1
 obtain ⟨k1,k2⟩:=Jg (a:=-w) (b:=u) (c:=w*x-u*y) (by omega) (by omega) (by omega) (by omega)
 have hl0:=hl
 obtain ⟨b1,u1,v1,w1,b2,u2,v2,w2,b3,u3,v3,w3,rfl⟩:=(oR hl)
 exact ⟨_,_,_,_,_,_,_,_,_,_,_,_,_,rfl,fun V11 l11 e11=>⟨CU (-w) u (w*x-u*y),at2,hl0.le l11,k1,k2,t2,e11⟩⟩
def RW (V:View):OA->Tr->Prop
 | p,.leaf i=>∃(b:Nat)(c2 c3 c4 c5 c6 c7 c8 c9:Value),p=some ⟨b,0,none⟩/\V.aZ b (.cells #[.bool true,.bool i,c2,c3,c4,c5,c6,c7,c8,c9] 107 (0,0))
 | p,.node l x y=>∃(b:Nat)(i:Bool)(b1:Bool)(p1:OA)(n1 c1:Nat)(b2:Bool)(p2:OA)(n2 c2:Nat)(b3:Bool)(p3:OA)(n3 c3:Nat)(pl pr:OA),p=some ⟨b,0,none⟩ /\
   V.aZ b (.cells #[.bool false,.bool i,.bool b1,.slice p1 n1 c1,.bool b2,.slice p2 n2 c2,.bool b3,.slice p3 n3 c3,.pointer pl,.pointer pr] 107 (0,0)) /\
   RL V (.agg #[.bool b1,.slice p1 n1 c1,.bool b2,.slice p2 n2 c2,.bool b3,.slice p3 n3 c3]) l.1 l.2.1 l.2.2/\RW V pl x/\RW V pr y
theorem RW.le {V V':View}(h:V.Le V'):∀{t:Tr} {p:OA},RW V p t->RW V' p t
 | .leaf i,p,⟨b,c2,c3,c4,c5,c6,c7,c8,c9,e,hb⟩=>⟨b,c2,c3,c4,c5,c6,c7,c8,c9,e,h _ _ hb⟩
 | .node l x y,p,⟨b,i,b1,p1,n1,c1,b2,p2,n2,c2,b3,p3,n3,c3,pl,pr,e,hb,hl,hx,hy⟩=>⟨b,i,b1,p1,n1,c1,b2,p2,n2,c2,b3,p3,n3,c3,pl,pr,e,h _ _ hb,hl.le h,RW.le h hx,RW.le h hy⟩
theorem nL {V:View}(i:Bool):Acts prog 38 #[.bool i] V fun r V'=>∃p,r=.pointer p/\RW V' p (.leaf i):=
 wv i V _ fun V1 l1 b hb=>⟨_,rfl,b,_,_,_,_,_,_,_,_,rfl,hb⟩
def Okb (x:L3):Prop:=okL x=true/\Bd x
theorem K4:∀(k:Nat) {V:View} {tb:Nat} {p:OA} {n c:Nat} {at_:Int},k<=10->Ii V p n->n<=400->vj V tb p n c at_->V.X tb->0<=at_ ->
  Acts prog 10 #[.pointer (some ⟨tb,0,none⟩),.int .i64 (k:Int)] V fun r V'=>∃q t at',r=.pointer q/\RW V' q t/\t.All Okb/\t.size<2^k/\0<=at'/\vj V' tb p n c at':=by
 intro k
 induction k with
 | zero=>
  intro V tb p n c at_ _ hr hn hw hx h0
  refine ic tb p n c at_ _ V _ hw hx ⟨fun g V1 l1 bk1 e1 h1=>(sF (V:=V1.lend [bk1]) 2 (hr.le fun b o h=>l1 b o h) hn e1 ⟨by simp,h1⟩ h0 (by omega) (by omega)).mono ?_,fun g=>by simp at g⟩
  rintro r V2 l2 ⟨x,Kd,rfl,-,-,t1,hw1⟩
  refine ⟨_,rfl,_,_,_,_,hw1,fun V3 l3=>(nL _).mono ?_⟩
  rintro r V4 l4 ⟨q,rfl,hq⟩
  exact ⟨_,rfl,fun V5 l5 e5=>⟨_,_,Kd,rfl,hq.le l5,trivial,by simp [Tr.size],t1,e5⟩⟩
 | succ k ih=>
  intro V tb p n c at_ hk hr hn hw hx h0
  refine ic tb p n c at_ _ V _ hw hx ⟨fun g=>by rw [beq_iff_eq] at g;omega,fun _ V6 l6 VK e6 h6=>(sF (V:=V6.lend [VK]) 4 (hr.le fun b o h=>l6 b o h) hn e6 ⟨by simp,h6⟩ h0 (by omega) (by omega)).mono ?_⟩
  rintro r V7 l7 ⟨x,Kd,rfl,-,-,t1,hw1⟩
  have Jb:V.Le V7:=fun b o h=>l7 b o (l6 b o h)
  refine ⟨_,rfl,_,_,_,_,hw1,fun g V8 l8 Qi e8 h8=>(sF (V:=V8.lend [Qi]) 2 (hr.le fun b o h=>l8 b o (Jb b o h)) hn e8 ⟨by simp,h8⟩ t1 (by omega) (by omega)).mono ?_,fun g V13 l13 Qk e13 Ki=>(VM (V:=V13.lend [Qk]) (hr.le fun b o h=>l13 b o (Jb b o h)) hn e13 ⟨by simp,Ki⟩ t1).mono ?_⟩
  ·rintro r V9 l9 ⟨x,at2,rfl,-,-,t2,hw2⟩
   refine ⟨_,rfl,_,_,_,_,hw2,fun V10 l10=>(nL _).mono ?_⟩
   rintro r V11 l11 ⟨q,rfl,hq⟩
   exact ⟨_,rfl,fun V12 l12 e12=>⟨_,_,at2,rfl,hq.le l12,trivial,by simpa [Tr.size] using Nat.two_pow_pos _,t2,e12⟩⟩
  ·rintro r V14 dA ⟨ln,at2,hl,hok,hbd,t2,hw2⟩
   have hl0:=hl
   obtain ⟨b1,u1,v1,w1,b2,u2,v2,w2,b3,u3,v3,w3,rfl⟩:=(oR hl)
   have GQ:V.Le V14:=fun b o h=>dA b o (l13 b o (Jb b o h))
   have wk:i64.wrap (((k+1:Nat):Int)-1)=(k:Int):=by rw [i64w (by omega)];omega
   refine ⟨_,_,_,_,_,_,_,_,_,_,_,_,rfl,_,_,_,_,hw2,fun V15 dS Ql e15 Kj=>?_⟩
   rw [wk]
   refine ((ih (V:=V15.lend [Ql]) (by omega) (hr.le fun b o h=>dS b o (GQ b o h)) hn e15 ⟨by simp,Kj⟩ t2).mono ?_)
   rintro r kG dB ⟨qa,ta,at3,rfl,Lt,FK,hsa,t3,hw3⟩
   have LI:V.Le kG:=fun b o h=>dB b o (dS b o (GQ b o h))
   refine ⟨_,rfl,_,_,_,_,hw3,fun nD cU Qm e17 Wl=>(ih (V:=nD.lend [Qm]) (by omega) (hr.le fun b o h=>cU b o (LI b o h)) hn e17 ⟨by simp,Wl⟩ t3).mono ?_⟩
   rintro r qN dW ⟨qb,Xq,at4,rfl,WN,htb,hsb,t4,hw4⟩
   refine ⟨_,rfl,_,_,_,_,hw4,fun rG dX bk32 e19 hb=>⟨_,.node ln ta Xq,at4,rfl,⟨bk32,_,_,_,_,_,_,_,_,_,_,_,_,_,_,_,rfl,hb,?_,?_,?_⟩,⟨⟨hok,hbd⟩,FK,htb⟩,?_,t4,e19⟩⟩
   ·exact hl0.le fun b o h=>dX b o (dW b o (cU b o (dB b o (dS b o h))))
   ·exact RW.le (V:=kG) (V':=rG) (fun b o h=>dX b o (dW b o (cU b o h))) Lt
   ·exact RW.le (V:=qN) (V':=rG) (fun b o h=>dX b o h) WN
   ·simp only [Tr.size];rw [Nat.pow_succ];omega
def Tr.depth:Tr->Nat
 | .leaf _=>0
 | .node _ a b=>1+max a.depth b.depth
theorem kQ:∀t:Tr,t.depth<=t.size
 | .leaf _=>Nat.le_refl _
 | .node _ a b=>by have:=kQ a;have:=kQ b;simp only [Tr.depth,Tr.size];omega
theorem G5 {a b:Nat}(ha:a<=1000000)(hb:b<=1000000):i64.wrap ((1:Int)+maxI (a:Int) (b:Int))=((1+max a b:Nat):Int):=by
 have:maxI (a:Int) (b:Int)=((max a b:Nat):Int):=by unfold maxI;split<;>omega
 rw [this,i64w (by omega)]
 omega
theorem c_bsp_Depth:∀(t:Tr) {V:View} {p:OA},RT V p t->t.size<=1000000->Acts prog 94 #[.pointer p] V fun r V'=>r=.int .i64 (t.depth:Int)
 | .leaf i,V,p,h,hs=>by
  refine lE p V _ fun V1 l1=>(c_bsp_IsLeaf (h.le l1)).mono ?_
  rintro r V2 l2 rfl
  exact ⟨_,rfl,fun _ V3 l3=>rfl,(fun h=>nomatch h)⟩
 | .node ln a b,V,p,h,hs=>by
  have h0:=h
  refine lE p V _ fun V1 l1=>(c_bsp_IsLeaf (h0.le l1)).mono ?_
  rintro r V2 l2 rfl
  obtain ⟨bb,x1,x2,x3,y1,y2,y3,z1,z2,z3,pl,pr,i,rfl,hb,hl,ha,hbb⟩:=h.le (l1.trans l2)
  have s1:=kQ a
  have s2:=kQ b
  simp only [Tr.size] at hs
  refine ⟨_,rfl,(fun h=>nomatch h),fun _=>⟨rfl,rfl,pl,rdc hb 9 rfl,rfl,rfl,pr,rdc hb 10 rfl,fun V4 l4=>(c_bsp_Depth a (ha.le l4) (by omega)).mono ?_⟩⟩
  rintro r V5 l5 rfl
  refine ⟨_,rfl,fun V6 l6=>(c_bsp_Depth b (hbb.le (l4.trans (l5.trans l6))) (by omega)).mono ?_⟩
  rintro r V7 l7 rfl
  exact ⟨_,rfl,fun V8 l8=>by rw [G5 (by omega) (by omega)];rfl⟩
def RH:Tr->Int
 | .leaf i=>if i then 0 else 1
 | .node ..=>0
end Go.Proofs.Tryz
namespace Go.Eng
theorem r_ (a:Addr)(m n:Nat):(a.add m).add n=a.add (m+n):=by
 unfold Addr.add
 by_cases h1:m=0
 ·subst h1;simp
 ·by_cases h2:n=0
  ·subst h2;simp [h1]
  ·rw [if_neg h1,if_neg h2,if_neg (by omega)]
   simp only [Nat.add_assoc]
variable {α:Type} {sz:Nat} {R:View->Value->α->Prop} {V V':View}
structure Row (sz:Nat) (R:View->Value->α->Prop) (V:View) (vs:List Value) (al:List α):Prop where
 at_:∀(i:Nat)(h:i<al.length),∃xs:List Value,xs.length=sz/\R V (.agg xs.toArray) al[i]/\∀j x,xs[j]?=some x->vs[i*sz+j]?=some x
structure Lst (sz:Nat) (R:View->Value->α->Prop) (V:View) (p:OA) (n:Nat) (al:List α):Prop where
 len:n=al.length
 at_:∀(i:Nat)(h:i<al.length),∃ad,addrAdd p (i*sz)=some ad/\∃xs:List Value,xs.length=sz/\R V (.agg xs.toArray) al[i]/\∀j x,xs[j]?=some x->V.at (ad.add j) x
theorem Row.nil {vs:List Value}:Row sz R V vs []:=⟨fun i h=>absurd h (Nat.not_lt_zero i)⟩
theorem Lst.nil {p:OA}:Lst sz R V p 0 []:=⟨rfl,fun i h=>absurd h (Nat.not_lt_zero i)⟩
theorem Row.le {vs:List Value}{al:List α}(h:Row sz R V vs al)(m:∀v a,R V v a->R V' v a):Row sz R V' vs al:=
 ⟨fun i hi=>by obtain ⟨xs,h1,h2,h3⟩:=h.at_ i hi;exact ⟨xs,h1,m _ _ h2,h3⟩⟩
theorem Lst.le {p:OA}{n:Nat}{al:List α}(h:Lst sz R V p n al)(l:V.Le V')(m:∀v a,R V v a->R V' v a):Lst sz R V' p n al:=
 ⟨h.len,fun i hi=>by obtain ⟨ad,h0,xs,h1,h2,h3⟩:=h.at_ i hi;exact ⟨ad,h0,xs,h1,m _ _ h2,fun j x hx=>l.at (h3 j x hx)⟩⟩
theorem Row.gY {vs:List Value}{al:List α}(h:Row sz R V vs al)(hs:0<sz):al.length*sz<=vs.length:=by
 by_cases h0:al.length=0
 ·rw [h0];omega
 ·obtain ⟨xs,h1,-,h3⟩:=h.at_ (al.length-1) (by omega)
  have hx:sz-1<xs.length:=by omega
  have:=(List.getElem?_eq_some_iff.1 (h3 (sz-1) _ (List.getElem?_eq_getElem hx))).1
  have e:al.length*sz=(al.length-1)*sz+sz:=by
   obtain ⟨m,hm⟩:∃m,al.length=m+1:=⟨al.length-1,by omega⟩
   rw [hm,Nat.add_sub_cancel,Nat.succ_mul]
  omega
theorem Row.snoc {vs:List Value}{al:List α}(h:Row sz R V vs al){xs sp:List Value}{a:α}(hx:xs.length=sz)(ha:R V (.agg xs.toArray) a)(hs:0<sz) :
  Row sz R V (vs.take (al.length*sz)++xs++sp) (al++[a]):=by
 have hl:=h.gY hs
 have ht:(vs.take (al.length*sz)).length=al.length*sz:=by rw [List.length_take];omega
 refine ⟨fun i hi=>?_⟩
 rw [List.length_append,List.length_singleton] at hi
 by_cases e:i=al.length
 ·subst e
  refine ⟨xs,hx,by rw [List.getElem_append_right (Nat.le_refl _)];simpa using ha,fun j x hj=>?_⟩
  have hj':=(List.getElem?_eq_some_iff.1 hj).1
  rw [List.append_assoc,List.getElem?_append_right (by rw [ht];omega),ht,Nat.add_sub_cancel_left,List.getElem?_append_left hj']
  exact hj
 ·have hi':i<al.length:=by omega
  obtain ⟨ys,y1,y2,y3⟩:=h.at_ i hi'
  refine ⟨ys,y1,by rw [List.getElem_append_left hi'];exact y2,fun j x hj=>?_⟩
  have hj':=(List.getElem?_eq_some_iff.1 hj).1
  have hlt:i*sz+j<al.length*sz:=by
   have:(i+1)*sz<=al.length*sz:=Nat.mul_le_mul_right _ hi'
   rw [Nat.succ_mul] at this
   omega
  rw [List.append_assoc,List.getElem?_append_left (by rw [ht];exact hlt),List.getElem?_take,if_pos hlt]
  exact y3 j x hj
theorem Lst.LY {bk:Nat}{ty:TypeId}{m:Nat×Nat}{vs:List Value}{al:List α}(hb:V.aZ bk (.cells vs.toArray ty m))(h:Row sz R V vs al):Lst sz R V (some ⟨bk,0,none⟩) al.length al:=by
 refine ⟨rfl,fun i hi=>?_⟩
 obtain ⟨xs,h1,h2,h3⟩:=h.at_ i hi
 refine ⟨⟨bk,i*sz,none⟩,by simp [addrAdd,add_zero'],xs,h1,h2,fun j x hj=>?_⟩
 have e:(⟨bk,i*sz,none⟩:Addr).add j=⟨bk,i*sz+j,none⟩:=by rw [←add_zero',r_,add_zero']
 rw [e]
 exact blk_at hb (h3 j x hj)
theorem Lst.of_mrow {bk c:Nat}{ty:TypeId}{m:Nat×Nat}{vs:List Value}{al:List α}(hb:vs≠[]->V.aZ bk (.cells vs.toArray ty m))(h:Row sz R V vs al)(hs:0<sz)(hc:al.length<=c):Lst sz R V (mA bk c) al.length al:=by
 cases al with
 | nil=>exact Lst.nil
 | cons a r=>
  have hne:vs≠[]:=fun e=>by
   have:=h.gY hs
   rw [e,List.length_cons,Nat.succ_mul] at this
   simp at this;omega
  have:mA bk c=some ⟨bk,0,none⟩:=by unfold mA;rw [if_neg];rw [List.length_cons] at hc;omega
  rw [this]
  exact Lst.LY (hb hne) h
end Go.Eng
namespace Go.Eng
open Go.Proofs.Tryz
variable {α:Type} {sz:Nat} {R:View->Value->α->Prop} {V V':View} {d:α}
theorem Row.get {vs:List Value}{al:List α}(h:Row sz R V vs al){i:Nat}(hi:i<al.length)(hs:0<sz) :
  ∃xs:List Value,xs.length=sz/\R V (.agg xs.toArray) (al.getD i d)/\i*sz+sz<=vs.length/\(vs.drop (i*sz)).take sz=xs:=by
 obtain ⟨xs,h1,h2,h3⟩:=h.at_ i hi
 have hl:=h.gY hs
 have:(i+1)*sz<=al.length*sz:=Nat.mul_le_mul_right _ hi
 rw [Nat.succ_mul] at this
 refine ⟨xs,h1,by simpa [List.getD_eq_getElem?_getD,hi] using h2,by omega,?_⟩
 apply List.ext_getElem?
 intro j
 rw [List.getElem?_take]
 split
 ·rename_i hj
  rw [List.getElem?_drop]
  have hx:j<xs.length:=by omega
  rw [h3 j _ (List.getElem?_eq_getElem hx),List.getElem?_eq_getElem hx]
 ·rename_i hj
  rw [List.getElem?_eq_none (by omega)]
theorem Row.put {vs:List Value}{al:List α}(h:Row sz R V vs al){i:Nat}(hi:i<al.length)(hs:0<sz){xs:List Value}{a:α}(hx:xs.length=sz)(ha:R V (.agg xs.toArray) a) :
  Row sz R V (cG vs (i*sz) xs) (al.set i a):=by
 have hl:=h.gY hs
 have h9:∀k,k<al.length->k*sz+sz<=vs.length:=fun k hk=>by
  have:(k+1)*sz<=al.length*sz:=Nat.mul_le_mul_right _ hk
  rw [Nat.succ_mul] at this
  omega
 have hi9:=h9 i hi
 rw [kq (by omega)]
 have ht:(vs.take (i*sz)).length=i*sz:=by rw [List.length_take];omega
 refine ⟨fun k hk=>?_⟩
 rw [List.length_set] at hk
 by_cases e:k=i
 ·subst e
  refine ⟨xs,hx,by simpa using ha,fun j x hj=>?_⟩
  have hj':=(List.getElem?_eq_some_iff.1 hj).1
  rw [List.append_assoc,List.getElem?_append_right (by omega),ht,Nat.add_sub_cancel_left,List.getElem?_append_left hj']
  exact hj
 ·obtain ⟨ys,y1,y2,y3⟩:=h.at_ k hk
  refine ⟨ys,y1,by rw [List.getElem_set_ne (fun e'=>e e'.symm)];exact y2,fun j x hj=>?_⟩
  have hj':=(List.getElem?_eq_some_iff.1 hj).1
  by_cases lt:k<i
  ·have:(k+1)*sz<=i*sz:=Nat.mul_le_mul_right _ lt
   rw [Nat.succ_mul] at this
   rw [List.append_assoc,List.getElem?_append_left (by omega),List.getElem?_take,if_pos (by omega)]
   exact y3 j x hj
  ·have:(i+1)*sz<=k*sz:=Nat.mul_le_mul_right _ (by omega)
   rw [Nat.succ_mul] at this
   rw [List.getElem?_append_right (by rw [List.length_append];omega),List.length_append,ht,hx,List.getElem?_drop]
   rw [show i*sz+sz+(k*sz+j-(i*sz+sz))=k*sz+j by omega]
   exact y3 j x hj
theorem qC {vs xs:List Value}{o:Nat}(h:o+xs.length<=vs.length):(cG vs o xs).length=vs.length:=by
 rw [kq h];simp only [List.length_append,List.length_take,List.length_drop];omega
theorem Row.swap {vs:List Value}{al:List α}(h:Row sz R V vs al){i j:Nat}(hi:i<al.length)(hj:j<al.length)(hs:0<sz){xs ys:List Value}(hx:xs.length=sz)(hy:ys.length=sz)(h1:R V (.agg xs.toArray) (al.getD i d))(h2:R V (.agg ys.toArray) (al.getD j d)) :
  Row sz R V (cG (cG vs (i*sz) ys) (j*sz) xs) (qD d al i j):=by
 have:=h.put hi hs hy h2
 exact this.put (by simpa using hj) hs hx h1
end Go.Eng
namespace Go.Proofs.Tryz
open Go.Eng Go.Big
section
variable {α:Type} (e:α->α->Bool)
def yA:α->List α->List α
 | _,[]=>[]
 | p,a::r=>if e a p then yA a r else a::yA a r
def vD:List α->List α
 | []=>[]
 | a::r=>a::yA e a r
variable {e}
theorem sU:∀{r:List α} {p:α},∀x∈yA e p r,x∈r
 | [],p,x,h=>h
 | b::r,p,x,h=>by
  unfold yA at h
  split at h
  ·exact List.mem_cons_of_mem _ (sU x h)
  ·rcases List.mem_cons.1 h with rfl|h
   ·exact List.mem_cons_self ..
   ·exact List.mem_cons_of_mem _ (sU x h)
theorem Gh {l:List α}:∀x∈vD e l,x∈l:=by
 cases l with
 | nil=>exact fun x h=>h
 | cons a r=>
  intro x h
  rcases List.mem_cons.1 h with rfl|h
  ·exact List.mem_cons_self ..
  ·exact List.mem_cons_of_mem _ (sU x h)
end
end Go.Proofs.Tryz
namespace Go.Eng
open Go.Proofs.Tryz
section
variable {α:Type} {sz:Nat} {R:View->Value->α->Prop} {V:View} {d:α}
end
end Go.Eng
namespace Go.Proofs.Tryz
open Go.Eng Go.Big
def RA (V:View)(v:Value)(q:Rat):Prop:=∃p n c p' n' c',v=.agg #[.bool (decide (q.num<0)),.slice p n c,.slice p' n' c']/\RD V p n c (af q.num.natAbs)/\RD V p' n' c' (af q.den)
theorem RA.le {V V':View}{v:Value}{q:Rat}(h:RA V v q)(l:V.Le V'):RA V' v q:=by
 obtain ⟨p,n,c,p',n',c',e,h1,h2⟩:=h
 exact ⟨p,n,c,p',n',c',e,h1.le l,h2.le l⟩
theorem mF {V:View}(b:Bool){p q:OA}{n c m e:Nat}{xs ys:List Nat}(hx:RD V p n c xs)(hy:RD V q m e ys)(hm:xs.length<=1099511627776)(hn:ys.length<=1099511627776) :
  Acts prog 105 #[.agg #[.bool b,.slice p n c,.slice q m e]] V fun r V'=>RR V' r (mkRat (aQ b xs) (val ys)):=by
 refine Dl b p n c q m e V _ fun V1 l1=>(bX b (hx.le l1) (hy.le l1) hm hn).mono ?_
 rintro r V2 l2 h
 obtain ⟨u,v,w,rfl⟩:=h.shape
 exact ⟨_,_,_,rfl,fun V3 l3=>h.le l3⟩
theorem wT {V:View}{v:Value}{q:Rat}(h:RA V v q){k:Nat}(hs:Sz k q)(hk:k<=1099511627776):Acts prog 105 #[v] V fun r V'=>RR V' r q:=by
 obtain ⟨p,n,c,p',n',c',rfl,h1,h2⟩:=h
 have q1:=ae hs.1
 have q2:=ae hs.2
 refine (mF _ h1 h2 (by omega) (by omega)).mono ?_
 rintro r V' _ h
 rw [aA,ab,Rat.mkRat_self] at h
 exact h
theorem iz {V:View}{v w:Value}{x y:Rat}(hx:RR V v x)(hy:RR V w y){k m:Nat}(hk:Sz k x)(hm:Sz m y)(hkm:k+m<1099511627776) :
  Acts prog 219 #[v,w] V fun r V'=>RR V' r (x*y):=by
 obtain ⟨r0,r1,r2,rfl⟩:=hx.shape
 obtain ⟨s0,s1,s2,rfl⟩:=hy.shape
 have hxy:x*y=mkRat (x.num*y.num) (x.den*y.den):=Rat.mul_def' x y
 have b1:(x.num*y.num).natAbs<2^(k+m):=by rw [Int.natAbs_mul,Nat.pow_add];exact Nat.mul_lt_mul'' hk.1 hm.1
 have b2:x.den*y.den<2^(k+m):=by rw [Nat.pow_add];exact Nat.mul_lt_mul'' hk.2 hm.2
 have q1:=ae hk.1
 have q2:=ae hk.2
 have q3:=ae hm.1
 have q4:=ae hm.2
 have q5:=ae b1
 have q6:=ae b2
 refine vM r0 r1 r2 s0 s1 s2 V _ ⟨fun hr=>⟨fun _ _=>True,⟨fun hs=>?_,fun _=>⟨(),by (try dsimp only);and_intros<;>trivial,trivial⟩⟩,fun _ V8 l8 _=>⟨rfl,fun V9 W6=>?_⟩⟩,fun _ V9 l9=>?_⟩
 ·rcases hx with ⟨ex,wx⟩|⟨a,b,p,n,c,p',n',c',ex,-,-,-,-,-,wx⟩
  ·rcases hy with ⟨ey,wy⟩|⟨a,b,p,n,c,p',n',c',ey,-,-,-,-,-,wy⟩
   ·simp only [Value.agg.injEq,Array.mk.injEq,List.cons.injEq,Value.int.injEq,Value.pointer.injEq,true_and,and_true] at ex ey
    obtain ⟨rfl,rfl,rfl⟩:=ex
    obtain ⟨rfl,rfl,rfl⟩:=ey
    obtain ⟨Pj,UY⟩:=wx
    obtain ⟨Pk,UZ⟩:=wy
    have dx:=x.den_nz
    have dy:=y.den_nz
    have e1:i64.wrap ((x.den:Int)-1+1)=x.den:=by rw [i64w (by omega)];omega
    have e2:i64.wrap ((y.den:Int)-1+1)=y.den:=by rw [i64w (by omega)];omega
    rw [e1,e2]
    intro V1 l1
    refine (fg _ _ Pj Pk).mono ?_
    rintro r V2 l2 ⟨z1,rfl,hz1⟩
    refine ⟨_,_,rfl,fun V3 l3=>(fg _ _ (by omega) (by omega)).mono ?_⟩
    rintro r V4 l4 ⟨z2,rfl,hz2⟩
    refine ⟨_,_,rfl,fun t1=>⟨fun t2 V5 l5=>?_,fun _=>⟨(),by (try dsimp only);and_intros<;>trivial,trivial⟩⟩,fun _=>⟨(),by (try dsimp only);and_intros<;>trivial,trivial⟩⟩
    have t1:=of_decide_eq_true t1
    have t2:=of_decide_eq_true t2
    rw [hz1 t1,hz2 t2]
    have hd:((x.den:Int)*(y.den:Int))=((x.den*y.den:Nat):Int):=(Int.natCast_mul ..).symm
    rw [hd] at t2 ⊢
    refine (mc _ _ t1 (by rwa [Int.natAbs_natCast] at t2) (Nat.mul_ne_zero dx dy)).mono ?_
    rintro r V6 l6 h6
    rw [←hxy] at h6
    obtain ⟨n,d,p,rfl⟩:=h6.shape
    exact ⟨_,_,_,rfl,fun V7 l7=>h6.le l7⟩
   ·simp only [Value.agg.injEq,Array.mk.injEq,List.cons.injEq,Value.int.injEq,Value.pointer.injEq,true_and,and_true] at ey
    obtain ⟨rfl,rfl,rfl⟩:=ey
    cases hs
  ·simp only [Value.agg.injEq,Array.mk.injEq,List.cons.injEq,Value.int.injEq,Value.pointer.injEq,true_and,and_true] at ex
   obtain ⟨rfl,rfl,rfl⟩:=ex
   cases hr
 ·have l9:=l8.trans W6
  refine (e_ (hx.le l9) hk (by omega)).mono ?_
  rintro r V10 l10 ⟨p1,n1,c1,rfl,g1⟩
  refine ⟨_,_,_,_,rfl,fun V11 l11=>(e_ (hy.le (l9.trans (l10.trans l11))) hm (by omega)).mono ?_⟩
  rintro r V12 l12 ⟨p2,n2,c2,rfl,g2⟩
  refine ⟨_,_,_,_,rfl,fun V13 l13=>(fL _ _ (g1.le (l11.trans (l12.trans l13))) (g2.le l13) (by omega)).mono ?_⟩
  rintro r V14 dA FG
  rw [aA,aA] at FG
  obtain ⟨p3,n3,c3,rfl,g3⟩:=FG
  have FP:=l9.trans (l10.trans (l11.trans (l12.trans (l13.trans dA))))
  refine ⟨_,_,_,_,rfl,fun V15 dS=>(eo (hx.le (FP.trans dS)) hk (by omega)).mono ?_⟩
  rintro r kG dB ⟨p4,n4,c4,rfl,g4⟩
  refine ⟨_,_,_,rfl,fun nD cU=>(eo (hy.le (FP.trans (dS.trans (dB.trans cU)))) hm (by omega)).mono ?_⟩
  rintro r qN dW ⟨p5,n5,c5,rfl,g5⟩
  refine ⟨_,_,_,rfl,fun rG dX=>(fF (g4.le (cU.trans (dW.trans dX))) (g5.le dX) (by omega)).mono ?_⟩
  rintro r Cg iI ⟨p6,n6,c6,rfl,g6⟩
  rw [ab,ab] at g6
  refine ⟨_,_,_,rfl,fun rX fA=>(bX _ (g3.le (dS.trans (dB.trans (cU.trans (dW.trans (dX.trans (iI.trans fA))))))) (g6.le fA) (by omega) (by omega)).mono ?_⟩
  rintro r wE jA h22
  rw [aA,ab,←hxy] at h22
  obtain ⟨n,d,p,rfl⟩:=h22.shape
  exact ⟨_,_,_,rfl,fun wF iq=>h22.le iq⟩
 ·skip
  refine (e_ (hx.le l9) hk (by omega)).mono ?_
  rintro r V10 l10 ⟨p1,n1,c1,rfl,g1⟩
  refine ⟨_,_,_,_,rfl,fun V11 l11=>(e_ (hy.le (l9.trans (l10.trans l11))) hm (by omega)).mono ?_⟩
  rintro r V12 l12 ⟨p2,n2,c2,rfl,g2⟩
  refine ⟨_,_,_,_,rfl,fun V13 l13=>(fL _ _ (g1.le (l11.trans (l12.trans l13))) (g2.le l13) (by omega)).mono ?_⟩
  rintro r V14 dA FG
  rw [aA,aA] at FG
  obtain ⟨p3,n3,c3,rfl,g3⟩:=FG
  have FP:=l9.trans (l10.trans (l11.trans (l12.trans (l13.trans dA))))
  refine ⟨_,_,_,_,rfl,fun V15 dS=>(eo (hx.le (FP.trans dS)) hk (by omega)).mono ?_⟩
  rintro r kG dB ⟨p4,n4,c4,rfl,g4⟩
  refine ⟨_,_,_,rfl,fun nD cU=>(eo (hy.le (FP.trans (dS.trans (dB.trans cU)))) hm (by omega)).mono ?_⟩
  rintro r qN dW ⟨p5,n5,c5,rfl,g5⟩
  refine ⟨_,_,_,rfl,fun rG dX=>(fF (g4.le (cU.trans (dW.trans dX))) (g5.le dX) (by omega)).mono ?_⟩
  rintro r Cg iI ⟨p6,n6,c6,rfl,g6⟩
  rw [ab,ab] at g6
  refine ⟨_,_,_,rfl,fun rX fA=>(bX _ (g3.le (dS.trans (dB.trans (cU.trans (dW.trans (dX.trans (iI.trans fA))))))) (g6.le fA) (by omega) (by omega)).mono ?_⟩
  rintro r wE jA h22
  rw [aA,ab,←hxy] at h22
  obtain ⟨n,d,p,rfl⟩:=h22.shape
  exact ⟨_,_,_,rfl,fun wF iq=>h22.le iq⟩
theorem inv_neg {q:Rat}(h:q.num<0):(q⁻¹).num=-(q.den:Int)/\(q⁻¹).den=q.num.natAbs:=by
 show (Rat.inv q).num=_/\(Rat.inv q).den=_
 unfold Rat.inv
 rw [dif_pos h]
 exact ⟨rfl,rfl⟩
theorem inv_pos {q:Rat}(h:0<q.num):(q⁻¹).num=(q.den:Int)/\(q⁻¹).den=q.num.natAbs:=by
 show (Rat.inv q).num=_/\(Rat.inv q).den=_
 unfold Rat.inv
 rw [dif_neg (by omega),dif_pos h]
 exact ⟨rfl,rfl⟩
theorem inv_zero {q:Rat}(h:q.num=0):q⁻¹=0:=by
 have:q=0:=Rat.num_eq_zero.1 h
 subst this
 exact Rat.inv_zero
theorem fq {k:Nat}{q:Rat}(h:Sz k q):Sz k q⁻¹:=by
 rcases Int.lt_trichotomy q.num 0 with h0|h0|h0
 ·obtain ⟨e1,e2⟩:=inv_neg h0
  refine ⟨?_,?_⟩
  ·rw [e1,Int.natAbs_neg];exact h.2
  ·rw [e2];exact h.1
 ·rw [inv_zero h0]
  exact ⟨Nat.two_pow_pos _,Nat.lt_of_le_of_lt (Nat.pos_of_ne_zero q.den_nz) h.2⟩
 ·obtain ⟨e1,e2⟩:=inv_pos h0
  exact ⟨by rw [e1];exact h.2,by rw [e2];exact h.1⟩
theorem ID {V:View}{v:Value}{q:Rat}(h:RR V v q){k:Nat}(hs:Sz k q)(hk:k<=1099511627776):Acts prog 236 #[v] V fun r V'=>RR V' r q⁻¹:=by
 rcases h with ⟨rfl,hw⟩|⟨a,b,p,n,c,p',n',c',rfl,h1,h2,h3,h4,h5,hw⟩
 ·obtain ⟨w1,w2⟩:=hw
  have hd:=q.den_nz
  refine mr _ _ _ V _ ⟨(fun h0=>nomatch h0),fun _=>⟨fun g V4 l4=>?_,fun g=>⟨fun g2 V5 l5=>?_,fun g2 V6 l6=>?_⟩⟩⟩
  ·have g:=of_decide_eq_true g
   obtain ⟨e1,e2⟩:=inv_neg g
   refine .inl ⟨?_,?_⟩
   ·rw [e1,e2,i64w (x:=(q.den:Int)-1+1) (by omega),i64w (x:=0-q.num) (by omega),i64w (x:=0-((q.den:Int)-1+1)) (by omega),i64w (by omega)]
    congr 4
    ·omega
    ·congr 1;omega
   ·unfold Wd;rw [e1,e2,Int.natAbs_neg];exact ⟨w2,w1⟩
  ·have g2:q.num=0:=by simpa using g2
   rw [inv_zero g2]
   exact .inl ⟨rfl,by decide,by decide⟩
  ·have g:¬q.num<0:=of_decide_eq_false g
   have g2:q.num≠0:=by simpa using g2
   obtain ⟨e1,e2⟩:=inv_pos (q:=q) (by omega)
   refine .inl ⟨?_,?_⟩
   ·rw [e1,e2,i64w (x:=(q.den:Int)-1+1) (by omega),i64w (by omega)]
    congr 4
    ·omega
    ·congr 1;omega
   ·unfold Wd;rw [e1,e2];exact ⟨w2,w1⟩
 ·obtain ⟨rfl,hn⟩:=h4.inv
  have q1:=ae hs.1
  have q2:=ae hs.2
  refine mr _ _ _ V _ ⟨fun _=>⟨rfl,rfl,rfl,decide (q.num<0),⟨a.add 0,by simp [addrAdd,Addr.add],h1⟩,rfl,rfl,p',n',c',⟨a.add 2,rfl,h3⟩,rfl,rfl,rfl,p,n,c,⟨a.add 1,by simp [addrAdd,Addr.add],h2⟩,fun V1 l1=>(bX _ (h5.le l1) (hn.le l1) (by omega) (by omega)).mono ?_⟩,fun h0=>nomatch h0⟩
  rintro r V2 l2 h
  have e:mkRat (aQ (decide (q.num<0)) (af q.den)) (val (af q.num.natAbs))=q⁻¹:=by
   rw [ab]
   have hv:aQ (decide (q.num<0)) (af q.den)=if q.num<0 then -(q.den:Int) else (q.den:Int):=by
    unfold aQ
    rw [ab]
    by_cases g:q.num<0<;>simp [g]
   rw [hv]
   rcases Int.lt_trichotomy q.num 0 with h0|h0|h0
   ·obtain ⟨e1,e2⟩:=inv_neg h0
    rw [if_pos h0,←e1,←e2,Rat.mkRat_self]
   ·rw [inv_zero h0,h0];simp
   ·obtain ⟨e1,e2⟩:=inv_pos h0
    rw [if_neg (by omega),←e1,←e2,Rat.mkRat_self]
  rw [e] at h
  obtain ⟨u,v,w,rfl⟩:=h.shape
  exact ⟨_,_,_,rfl,fun V3 l3=>h.le l3⟩
theorem yf {V:View}{v w:Value}{x y:Rat}(hx:RR V v x)(hy:RR V w y){k m:Nat}(hk:Sz k x)(hm:Sz m y)(hkm:k+m<1099511627776) :
  Acts prog 213 #[v,w] V fun r V'=>RR V' r (x*y⁻¹):=by
 have hx0:=hx
 have hy0:=hy
 obtain ⟨r0,r1,r2,rfl⟩:=hx.shape
 obtain ⟨s0,s1,s2,rfl⟩:=hy.shape
 refine vN r0 r1 r2 s0 s1 s2 V _ fun V1 l1=>(ID (hy0.le l1) hm (by omega)).mono ?_
 rintro r V2 l2 h2
 have h20:=h2
 obtain ⟨u,v,w,rfl⟩:=h2.shape
 refine ⟨_,_,_,rfl,fun V3 l3=>(iz (hx0.le (l1.trans (l2.trans l3))) (h20.le l3) hk (fq hm) hkm).mono ?_⟩
 rintro r V4 l4 h4
 have Wm:=h4
 obtain ⟨u,v,w,rfl⟩:=h4.shape
 exact ⟨_,_,_,rfl,fun V5 l5=>Wm.le l5⟩
def RPt (V:View)(v:Value)(x y:Rat):Prop:=∃(x1 x2:Int)(p:OA)(y1 y2:Int)(q:OA),v=.agg #[.int .i64 x1,.int .i64 x2,.pointer p,.int .i64 y1,.int .i64 y2,.pointer q] /\
 RR V (.agg #[.int .i64 x1,.int .i64 x2,.pointer p]) x/\RR V (.agg #[.int .i64 y1,.int .i64 y2,.pointer q]) y
theorem RPt.le {V V':View}{v:Value}{x y:Rat}(h:RPt V v x y)(l:V.Le V'):RPt V' v x y:=by
 obtain ⟨x1,x2,p,y1,y2,q,e,h1,h2⟩:=h
 exact ⟨x1,x2,p,y1,y2,q,e,h1.le l,h2.le l⟩
theorem yi {V:View}{p:Value}{cB cC:Rat}{q:Value}{iM iN:Rat}(hp:RPt V p cB cC)(hq:RPt V q iM iN){k:Nat}(cP:Sz k cB)(cQ:Sz k cC)(ja:Sz k iM)(jc:Sz k iN)(hk:2*k+1<274877906944) :
  Acts prog 233 #[p,q] V fun r V'=>RPt V' r ((cB)+(iM)) ((cC)+(iN)):=by
 have hp0:=hp
 obtain ⟨p0,p1,p2,p3,p4,p5,rfl,pD,pE⟩:=hp
 have hq0:=hq
 obtain ⟨q0,q1,q2,q3,q4,q5,rfl,CN,CO⟩:=hq
 refine vV p0 p1 p2 p3 p4 p5 q0 q1 q2 q3 q4 q5 V _ fun V1 l1=>(jS (pD.le (l1)) (CN.le (l1)) cP ja (by omega)).mono ?_
 rintro r V2 l2 g1
 have g10:=g1
 obtain ⟨KL,KM,KN,rfl⟩:=g1.shape
 have aW:Sz (2*k+1) ((cB)+(iM)):=Sz.mono (Sz.add cP ja) (by omega)
 refine ⟨_,_,_,rfl,fun V3 l3=>(jS (pE.le (l1.trans (l2.trans (l3)))) (CO.le (l1.trans (l2.trans (l3)))) cQ jc (by omega)).mono ?_⟩
 rintro r V4 l4 g2
 have g20:=g2
 obtain ⟨H9,H_,Ia,rfl⟩:=g2.shape
 have bz:Sz (2*k+1) ((cC)+(iN)):=Sz.mono (Sz.add cQ jc) (by omega)
 exact ⟨_,_,_,rfl,fun V5 l5=>⟨_,_,_,_,_,_,rfl,(g10.le (l3.trans (l4.trans (l5)))),(g20.le (l5))⟩⟩
theorem ik {cB cC iM iN:Rat}{k:Nat}(cP:Sz k cB)(cQ:Sz k cC)(ja:Sz k iM)(jc:Sz k iN):Sz (2*k+1) ((cB)+(iM)):=by
 have aW:Sz (2*k+1) ((cB)+(iM)):=Sz.mono (Sz.add cP ja) (by omega)
 have bz:Sz (2*k+1) ((cC)+(iN)):=Sz.mono (Sz.add cQ jc) (by omega)
 exact Sz.mono aW (by omega)
theorem il {cB cC iM iN:Rat}{k:Nat}(cP:Sz k cB)(cQ:Sz k cC)(ja:Sz k iM)(jc:Sz k iN):Sz (2*k+1) ((cC)+(iN)):=by
 have aW:Sz (2*k+1) ((cB)+(iM)):=Sz.mono (Sz.add cP ja) (by omega)
 have bz:Sz (2*k+1) ((cC)+(iN)):=Sz.mono (Sz.add cQ jc) (by omega)
 exact Sz.mono bz (by omega)
theorem kK {V:View}{p:Value}{cB cC:Rat}{c:Value}{Cb:Rat}(hp:RPt V p cB cC)(hc:RR V c Cb){k:Nat}(cP:Sz k cB)(cQ:Sz k cC)(vJ:Sz k Cb)(hk:2*k+1<274877906944) :
  Acts prog 234 #[p,c] V fun r V'=>RPt V' r ((cB)*(Cb)) ((cC)*(Cb)):=by
 have hp0:=hp
 obtain ⟨p0,p1,p2,p3,p4,p5,rfl,pD,pE⟩:=hp
 have hc0:=hc
 obtain ⟨c0,c1,c2,rfl⟩:=hc.shape
 refine rj p0 p1 p2 p3 p4 p5 c0 c1 c2 V _ fun V1 l1=>(iz (pD.le (l1)) (hc0.le (l1)) cP vJ (by omega)).mono ?_
 rintro r V2 l2 g1
 have g10:=g1
 obtain ⟨KL,KM,KN,rfl⟩:=g1.shape
 have aW:Sz (2*k+1) ((cB)*(Cb)):=Sz.mono (Sz.mul cP vJ) (by omega)
 refine ⟨_,_,_,rfl,fun V3 l3=>(iz (pE.le (l1.trans (l2.trans (l3)))) (hc0.le (l1.trans (l2.trans (l3)))) cQ vJ (by omega)).mono ?_⟩
 rintro r V4 l4 g2
 have g20:=g2
 obtain ⟨H9,H_,Ia,rfl⟩:=g2.shape
 have bz:Sz (2*k+1) ((cC)*(Cb)):=Sz.mono (Sz.mul cQ vJ) (by omega)
 exact ⟨_,_,_,rfl,fun V5 l5=>⟨_,_,_,_,_,_,rfl,(g10.le (l3.trans (l4.trans (l5)))),(g20.le (l5))⟩⟩
theorem b_ {cB cC Cb:Rat}{k:Nat}(cP:Sz k cB)(cQ:Sz k cC)(vJ:Sz k Cb):Sz (2*k+1) ((cB)*(Cb)):=by
 have aW:Sz (2*k+1) ((cB)*(Cb)):=Sz.mono (Sz.mul cP vJ) (by omega)
 have bz:Sz (2*k+1) ((cC)*(Cb)):=Sz.mono (Sz.mul cQ vJ) (by omega)
 exact Sz.mono aW (by omega)
theorem cd {cB cC Cb:Rat}{k:Nat}(cP:Sz k cB)(cQ:Sz k cC)(vJ:Sz k Cb):Sz (2*k+1) ((cC)*(Cb)):=by
 have aW:Sz (2*k+1) ((cB)*(Cb)):=Sz.mono (Sz.mul cP vJ) (by omega)
 have bz:Sz (2*k+1) ((cC)*(Cb)):=Sz.mono (Sz.mul cQ vJ) (by omega)
 exact Sz.mono bz (by omega)
theorem jX {V:View}{p:Value}{cB cC:Rat}{q:Value}{iM iN:Rat}(hp:RPt V p cB cC)(hq:RPt V q iM iN){k:Nat}(cP:Sz k cB)(cQ:Sz k cC)(ja:Sz k iM)(jc:Sz k iN)(hk:4*k+3<274877906944) :
  Acts prog 174 #[p,q] V fun r V'=>RR V' r (((cB)*(iM))+((cC)*(iN))):=by
 have hp0:=hp
 obtain ⟨p0,p1,p2,p3,p4,p5,rfl,pD,pE⟩:=hp
 have hq0:=hq
 obtain ⟨q0,q1,q2,q3,q4,q5,rfl,CN,CO⟩:=hq
 refine vW p0 p1 p2 p3 p4 p5 q0 q1 q2 q3 q4 q5 V _ fun V1 l1=>(iz (pD.le (l1)) (CN.le (l1)) cP ja (by omega)).mono ?_
 rintro r V2 l2 g1
 have g10:=g1
 obtain ⟨KL,KM,KN,rfl⟩:=g1.shape
 have aW:Sz (2*k+1) ((cB)*(iM)):=Sz.mono (Sz.mul cP ja) (by omega)
 refine ⟨_,_,_,rfl,fun V3 l3=>(iz (pE.le (l1.trans (l2.trans (l3)))) (CO.le (l1.trans (l2.trans (l3)))) cQ jc (by omega)).mono ?_⟩
 rintro r V4 l4 g2
 have g20:=g2
 obtain ⟨H9,H_,Ia,rfl⟩:=g2.shape
 have bz:Sz (2*k+1) ((cC)*(iN)):=Sz.mono (Sz.mul cQ jc) (by omega)
 refine ⟨_,_,_,rfl,fun V5 l5=>(jS (g10.le (l3.trans (l4.trans (l5)))) (g20.le (l5)) aW bz (by omega)).mono ?_⟩
 rintro r V6 l6 g3
 have oQ:=g3
 obtain ⟨JV,JW,JX,rfl⟩:=g3.shape
 have cF:Sz (4*k+3) (((cB)*(iM))+((cC)*(iN))):=Sz.mono (Sz.add aW bz) (by omega)
 exact ⟨_,_,_,rfl,fun V7 l7=>(oQ.le (l7))⟩
theorem cL {cB cC iM iN:Rat}{k:Nat}(cP:Sz k cB)(cQ:Sz k cC)(ja:Sz k iM)(jc:Sz k iN):Sz (4*k+3) (((cB)*(iM))+((cC)*(iN))):=by
 have aW:Sz (2*k+1) ((cB)*(iM)):=Sz.mono (Sz.mul cP ja) (by omega)
 have bz:Sz (2*k+1) ((cC)*(iN)):=Sz.mono (Sz.mul cQ jc) (by omega)
 have cF:Sz (4*k+3) (((cB)*(iM))+((cC)*(iN))):=Sz.mono (Sz.add aW bz) (by omega)
 exact Sz.mono cF (by omega)
theorem sI {V:View}{p:Value}{cB cC:Rat}{q:Value}{iM iN:Rat}(hp:RPt V p cB cC)(hq:RPt V q iM iN){k:Nat}(cP:Sz k cB)(cQ:Sz k cC)(ja:Sz k iM)(jc:Sz k iN)(hk:4*k+3<274877906944) :
  Acts prog 216 #[p,q] V fun r V'=>RR V' r (((cB)*(iN))-((cC)*(iM))):=by
 have hp0:=hp
 obtain ⟨p0,p1,p2,p3,p4,p5,rfl,pD,pE⟩:=hp
 have hq0:=hq
 obtain ⟨q0,q1,q2,q3,q4,q5,rfl,CN,CO⟩:=hq
 refine rf p0 p1 p2 p3 p4 p5 q0 q1 q2 q3 q4 q5 V _ fun V1 l1=>(iz (pD.le (l1)) (CO.le (l1)) cP jc (by omega)).mono ?_
 rintro r V2 l2 g1
 have g10:=g1
 obtain ⟨KL,KM,KN,rfl⟩:=g1.shape
 have aW:Sz (2*k+1) ((cB)*(iN)):=Sz.mono (Sz.mul cP jc) (by omega)
 refine ⟨_,_,_,rfl,fun V3 l3=>(iz (pE.le (l1.trans (l2.trans (l3)))) (CN.le (l1.trans (l2.trans (l3)))) cQ ja (by omega)).mono ?_⟩
 rintro r V4 l4 g2
 have g20:=g2
 obtain ⟨H9,H_,Ia,rfl⟩:=g2.shape
 have bz:Sz (2*k+1) ((cC)*(iM)):=Sz.mono (Sz.mul cQ ja) (by omega)
 refine ⟨_,_,_,rfl,fun V5 l5=>(yg (g10.le (l3.trans (l4.trans (l5)))) (g20.le (l5)) aW bz (by omega)).mono ?_⟩
 rintro r V6 l6 g3
 have oQ:=g3
 obtain ⟨JV,JW,JX,rfl⟩:=g3.shape
 have cF:Sz (4*k+3) (((cB)*(iN))-((cC)*(iM))):=Sz.mono (Sz.sub aW bz) (by omega)
 exact ⟨_,_,_,rfl,fun V7 l7=>(oQ.le (l7))⟩
theorem pX {cB cC iM iN:Rat}{k:Nat}(cP:Sz k cB)(cQ:Sz k cC)(ja:Sz k iM)(jc:Sz k iN):Sz (4*k+3) (((cB)*(iN))-((cC)*(iM))):=by
 have aW:Sz (2*k+1) ((cB)*(iN)):=Sz.mono (Sz.mul cP jc) (by omega)
 have bz:Sz (2*k+1) ((cC)*(iM)):=Sz.mono (Sz.mul cQ ja) (by omega)
 have cF:Sz (4*k+3) (((cB)*(iN))-((cC)*(iM))):=Sz.mono (Sz.sub aW bz) (by omega)
 exact Sz.mono cF (by omega)
theorem jW {V:View}{l:Value}{aD l_1 bO:Rat}(hl:qM V l aD l_1 bO){k:Nat}(bj:Sz k aD)(bu:Sz k l_1)(br:Sz k bO)(hk:1*k+1<274877906944) :
  Acts prog 171 #[l] V fun r V'=>RPt V' r (l_1) (-(aD)):=by
 have hl0:=hl
 obtain ⟨l0,l1,l2,l3,l4,l5,l6,l7,l8,rfl,mN,mO,nU⟩:=hl
 refine vU l0 l1 l2 l3 l4 l5 l6 l7 l8 V _ fun V1 l1=>(iA (mN.le (l1)) bj (by omega)).mono ?_
 rintro r V2 l2 g1
 have g10:=g1
 obtain ⟨KL,KM,KN,rfl⟩:=g1.shape
 have aW:Sz (1*k+0) (-(aD)):=Sz.mono (Sz.neg bj) (by omega)
 exact ⟨_,_,_,rfl,fun V3 l3=>⟨_,_,_,_,_,_,rfl,(mO.le (l1.trans (l2.trans (l3)))),(g10.le (l3))⟩⟩
theorem ig {aD l_1 bO:Rat}{k:Nat}(bj:Sz k aD)(bu:Sz k l_1)(br:Sz k bO):Sz (1*k+0) (l_1):=by
 have aW:Sz (1*k+0) (-(aD)):=Sz.mono (Sz.neg bj) (by omega)
 exact Sz.mono bu (by omega)
theorem ij {aD l_1 bO:Rat}{k:Nat}(bj:Sz k aD)(bu:Sz k l_1)(br:Sz k bO):Sz (1*k+0) (-(aD)):=by
 have aW:Sz (1*k+0) (-(aD)):=Sz.mono (Sz.neg bj) (by omega)
 exact Sz.mono aW (by omega)
theorem fW {V:View}{l:Value}{aD l_1 bO:Rat}(hl:qM V l aD l_1 bO){k:Nat}(bj:Sz k aD)(bu:Sz k l_1)(br:Sz k bO)(hk:1*k+1<274877906944) :
  Acts prog 173 #[l] V fun r V'=>RPt V' r (aD) (l_1):=by
 have hl0:=hl
 obtain ⟨l0,l1,l2,l3,l4,l5,l6,l7,l8,rfl,mN,mO,nU⟩:=hl
 exact pT l0 l1 l2 l3 l4 l5 l6 l7 l8 V _ fun V1 l1=>⟨_,_,_,_,_,_,rfl,(mN.le (l1)),(mO.le (l1))⟩
theorem cz {aD l_1 bO:Rat}{k:Nat}(bj:Sz k aD)(bu:Sz k l_1)(br:Sz k bO):Sz (1*k+0) (aD):=by
 exact Sz.mono bj (by omega)
theorem cA {aD l_1 bO:Rat}{k:Nat}(bj:Sz k aD)(bu:Sz k l_1)(br:Sz k bO):Sz (1*k+0) (l_1):=by
 exact Sz.mono bu (by omega)
theorem oX {V:View}{l:Value}{aD l_1 bO:Rat}(hl:qM V l aD l_1 bO){k:Nat}(bj:Sz k aD)(bu:Sz k l_1)(br:Sz k bO)(hk:1*k+1<274877906944) :
  Acts prog 198 #[l] V fun r V'=>qM V' r (-(aD)) (-(l_1)) (-(bO)):=by
 have hl0:=hl
 obtain ⟨l0,l1,l2,l3,l4,l5,l6,l7,l8,rfl,mN,mO,nU⟩:=hl
 refine oL l0 l1 l2 l3 l4 l5 l6 l7 l8 V _ fun V1 l1=>(iA (mN.le (l1)) bj (by omega)).mono ?_
 rintro r V2 l2 g1
 have g10:=g1
 obtain ⟨KL,KM,KN,rfl⟩:=g1.shape
 have aW:Sz (1*k+0) (-(aD)):=Sz.mono (Sz.neg bj) (by omega)
 refine ⟨_,_,_,rfl,fun V3 l3=>(iA (mO.le (l1.trans (l2.trans (l3)))) bu (by omega)).mono ?_⟩
 rintro r V4 l4 g2
 have g20:=g2
 obtain ⟨H9,H_,Ia,rfl⟩:=g2.shape
 have bz:Sz (1*k+0) (-(l_1)):=Sz.mono (Sz.neg bu) (by omega)
 refine ⟨_,_,_,rfl,fun V5 l5=>(iA (nU.le (l1.trans (l2.trans (l3.trans (l4.trans (l5)))))) br (by omega)).mono ?_⟩
 rintro r V6 l6 g3
 have oQ:=g3
 obtain ⟨JV,JW,JX,rfl⟩:=g3.shape
 have cF:Sz (1*k+0) (-(bO)):=Sz.mono (Sz.neg br) (by omega)
 exact ⟨_,_,_,rfl,fun V7 l7=>⟨_,_,_,_,_,_,_,_,_,rfl,(g10.le (l3.trans (l4.trans (l5.trans (l6.trans (l7)))))),(g20.le (l5.trans (l6.trans (l7)))),(oQ.le (l7))⟩⟩
theorem kJ {V:View}{l:Value}{aD l_1 bO:Rat}{p:Value}{cB cC:Rat}(hl:qM V l aD l_1 bO)(hp:RPt V p cB cC){k:Nat}(bj:Sz k aD)(bu:Sz k l_1)(br:Sz k bO)(cP:Sz k cB)(cQ:Sz k cC)(hk:5*k+4<274877906944) :
  Acts prog 145 #[l,p] V fun r V'=>RR V' r ((((aD)*(cB))+((l_1)*(cC)))+(bO)):=by
 have hl0:=hl
 obtain ⟨l0,l1,l2,l3,l4,l5,l6,l7,l8,rfl,mN,mO,nU⟩:=hl
 have hp0:=hp
 obtain ⟨p0,p1,p2,p3,p4,p5,rfl,pD,pE⟩:=hp
 refine re l0 l1 l2 l3 l4 l5 l6 l7 l8 p0 p1 p2 p3 p4 p5 V _ fun V1 l1=>(fW (hl0.le (l1)) (Sz.mono bj (by omega):Sz (1*k+0) _) (Sz.mono bu (by omega):Sz (1*k+0) _) (Sz.mono br (by omega):Sz (1*k+0) _) (by omega)).mono ?_
 rintro r V2 l2 g1
 have g10:=g1
 obtain ⟨JP,JQ,JR,JS,JT,JU,rfl,IP,IQ⟩:=g1
 have aW:Sz (1*k+0) (aD):=Sz.mono ((cz (Sz.mono bj (by omega):Sz (1*k+0) _) (Sz.mono bu (by omega):Sz (1*k+0) _) (Sz.mono br (by omega):Sz (1*k+0) _))) (by omega)
 have cx:Sz (1*k+0) (l_1):=Sz.mono ((cA (Sz.mono bj (by omega):Sz (1*k+0) _) (Sz.mono bu (by omega):Sz (1*k+0) _) (Sz.mono br (by omega):Sz (1*k+0) _))) (by omega)
 refine ⟨_,_,_,_,_,_,rfl,fun V3 l3=>(jX (g10.le (l3)) (hp0.le (l1.trans (l2.trans (l3)))) (Sz.mono aW (by omega):Sz (1*k+0) _) (Sz.mono cx (by omega):Sz (1*k+0) _) (Sz.mono cP (by omega):Sz (1*k+0) _) (Sz.mono cQ (by omega):Sz (1*k+0) _) (by omega)).mono ?_⟩
 rintro r V4 l4 g2
 have g20:=g2
 obtain ⟨H9,H_,Ia,rfl⟩:=g2.shape
 have bz:Sz (4*k+3) (((aD)*(cB))+((l_1)*(cC))):=Sz.mono ((cL (Sz.mono aW (by omega):Sz (1*k+0) _) (Sz.mono cx (by omega):Sz (1*k+0) _) (Sz.mono cP (by omega):Sz (1*k+0) _) (Sz.mono cQ (by omega):Sz (1*k+0) _))) (by omega)
 refine ⟨_,_,_,rfl,fun V5 l5=>(jS (g20.le (l5)) (nU.le (l1.trans (l2.trans (l3.trans (l4.trans (l5)))))) bz br (by omega)).mono ?_⟩
 rintro r V6 l6 g3
 have oQ:=g3
 obtain ⟨JV,JW,JX,rfl⟩:=g3.shape
 have cF:Sz (5*k+4) ((((aD)*(cB))+((l_1)*(cC)))+(bO)):=Sz.mono (Sz.add bz br) (by omega)
 exact ⟨_,_,_,rfl,fun V7 l7=>(oQ.le (l7))⟩
theorem jO {aD l_1 bO cB cC:Rat}{k:Nat}(bj:Sz k aD)(bu:Sz k l_1)(br:Sz k bO)(cP:Sz k cB)(cQ:Sz k cC):Sz (5*k+4) ((((aD)*(cB))+((l_1)*(cC)))+(bO)):=by
 have aW:Sz (1*k+0) (aD):=Sz.mono ((cz (Sz.mono bj (by omega):Sz (1*k+0) _) (Sz.mono bu (by omega):Sz (1*k+0) _) (Sz.mono br (by omega):Sz (1*k+0) _))) (by omega)
 have cx:Sz (1*k+0) (l_1):=Sz.mono ((cA (Sz.mono bj (by omega):Sz (1*k+0) _) (Sz.mono bu (by omega):Sz (1*k+0) _) (Sz.mono br (by omega):Sz (1*k+0) _))) (by omega)
 have bz:Sz (4*k+3) (((aD)*(cB))+((l_1)*(cC))):=Sz.mono ((cL (Sz.mono aW (by omega):Sz (1*k+0) _) (Sz.mono cx (by omega):Sz (1*k+0) _) (Sz.mono cP (by omega):Sz (1*k+0) _) (Sz.mono cQ (by omega):Sz (1*k+0) _))) (by omega)
 have cF:Sz (5*k+4) ((((aD)*(cB))+((l_1)*(cC)))+(bO)):=Sz.mono (Sz.add bz br) (by omega)
 exact Sz.mono cF (by omega)
theorem me {V:View}{l:Value}{aD l_1 bO:Rat}(hl:qM V l aD l_1 bO){k:Nat}(bj:Sz k aD)(bu:Sz k l_1)(br:Sz k bO)(hk:10*k+9<274877906944) :
  Acts prog 212 #[l] V fun r V'=>RPt V' r ((aD)*(((-(bO))*(((aD)*(aD))+((l_1)*(l_1)))⁻¹))) ((l_1)*(((-(bO))*(((aD)*(aD))+((l_1)*(l_1)))⁻¹))):=by
 have hl0:=hl
 obtain ⟨l0,l1,l2,l3,l4,l5,l6,l7,l8,rfl,mN,mO,nU⟩:=hl
 refine uD l0 l1 l2 l3 l4 l5 l6 l7 l8 V _ fun V1 l1=>(fW (hl0.le (l1)) (Sz.mono bj (by omega):Sz (1*k+0) _) (Sz.mono bu (by omega):Sz (1*k+0) _) (Sz.mono br (by omega):Sz (1*k+0) _) (by omega)).mono ?_
 rintro r V2 l2 g1
 have g10:=g1
 obtain ⟨JP,JQ,JR,JS,JT,JU,rfl,IP,IQ⟩:=g1
 have aW:Sz (1*k+0) (aD):=Sz.mono ((cz (Sz.mono bj (by omega):Sz (1*k+0) _) (Sz.mono bu (by omega):Sz (1*k+0) _) (Sz.mono br (by omega):Sz (1*k+0) _))) (by omega)
 have cx:Sz (1*k+0) (l_1):=Sz.mono ((cA (Sz.mono bj (by omega):Sz (1*k+0) _) (Sz.mono bu (by omega):Sz (1*k+0) _) (Sz.mono br (by omega):Sz (1*k+0) _))) (by omega)
 refine ⟨_,_,_,_,_,_,rfl,fun V3 l3=>(iA (nU.le (l1.trans (l2.trans (l3)))) br (by omega)).mono ?_⟩
 rintro r V4 l4 g2
 have g20:=g2
 obtain ⟨H9,H_,Ia,rfl⟩:=g2.shape
 have bz:Sz (1*k+0) (-(bO)):=Sz.mono (Sz.neg br) (by omega)
 refine ⟨_,_,_,rfl,fun V5 l5=>(jX (g10.le (l3.trans (l4.trans (l5)))) (g10.le (l3.trans (l4.trans (l5)))) (Sz.mono aW (by omega):Sz (1*k+0) _) (Sz.mono cx (by omega):Sz (1*k+0) _) (Sz.mono aW (by omega):Sz (1*k+0) _) (Sz.mono cx (by omega):Sz (1*k+0) _) (by omega)).mono ?_⟩
 rintro r V6 l6 g3
 have oQ:=g3
 obtain ⟨JV,JW,JX,rfl⟩:=g3.shape
 have cF:Sz (4*k+3) (((aD)*(aD))+((l_1)*(l_1))):=Sz.mono ((cL (Sz.mono aW (by omega):Sz (1*k+0) _) (Sz.mono cx (by omega):Sz (1*k+0) _) (Sz.mono aW (by omega):Sz (1*k+0) _) (Sz.mono cx (by omega):Sz (1*k+0) _))) (by omega)
 refine ⟨_,_,_,rfl,fun V7 l7=>(yf (g20.le (l5.trans (l6.trans (l7)))) (oQ.le (l7)) bz cF (by omega)).mono ?_⟩
 rintro r V8 l8 g4
 have Il:=g4
 obtain ⟨SR,SS,SU,rfl⟩:=g4.shape
 have jN:Sz (5*k+4) ((-(bO))*(((aD)*(aD))+((l_1)*(l_1)))⁻¹):=Sz.mono (Sz.mul bz (fq cF)) (by omega)
 refine ⟨_,_,_,rfl,fun V9 l9=>(kK (g10.le (l3.trans (l4.trans (l5.trans (l6.trans (l7.trans (l8.trans (l9)))))))) (Il.le (l9)) (Sz.mono aW (by omega):Sz (5*k+4) _) (Sz.mono cx (by omega):Sz (5*k+4) _) (Sz.mono jN (by omega):Sz (5*k+4) _) (by omega)).mono ?_⟩
 rintro r V10 l10 g5
 have IU:=g5
 obtain ⟨XP,XQ,XR,XS,XT,XU,rfl,Qv,Qw⟩:=g5
 have va:Sz (10*k+9) ((aD)*(((-(bO))*(((aD)*(aD))+((l_1)*(l_1)))⁻¹))):=Sz.mono ((b_ (Sz.mono aW (by omega):Sz (5*k+4) _) (Sz.mono cx (by omega):Sz (5*k+4) _) (Sz.mono jN (by omega):Sz (5*k+4) _))) (by omega)
 have Mv:Sz (10*k+9) ((l_1)*(((-(bO))*(((aD)*(aD))+((l_1)*(l_1)))⁻¹))):=Sz.mono ((cd (Sz.mono aW (by omega):Sz (5*k+4) _) (Sz.mono cx (by omega):Sz (5*k+4) _) (Sz.mono jN (by omega):Sz (5*k+4) _))) (by omega)
 exact ⟨_,_,_,_,_,_,rfl,fun V11 l11=>⟨_,_,_,_,_,_,rfl,(Qv.le (l11)),(Qw.le (l11))⟩⟩
theorem cY {aD l_1 bO:Rat}{k:Nat}(bj:Sz k aD)(bu:Sz k l_1)(br:Sz k bO):Sz (10*k+9) ((aD)*(((-(bO))*(((aD)*(aD))+((l_1)*(l_1)))⁻¹))):=by
 have aW:Sz (1*k+0) (aD):=Sz.mono ((cz (Sz.mono bj (by omega):Sz (1*k+0) _) (Sz.mono bu (by omega):Sz (1*k+0) _) (Sz.mono br (by omega):Sz (1*k+0) _))) (by omega)
 have cx:Sz (1*k+0) (l_1):=Sz.mono ((cA (Sz.mono bj (by omega):Sz (1*k+0) _) (Sz.mono bu (by omega):Sz (1*k+0) _) (Sz.mono br (by omega):Sz (1*k+0) _))) (by omega)
 have bz:Sz (1*k+0) (-(bO)):=Sz.mono (Sz.neg br) (by omega)
 have cF:Sz (4*k+3) (((aD)*(aD))+((l_1)*(l_1))):=Sz.mono ((cL (Sz.mono aW (by omega):Sz (1*k+0) _) (Sz.mono cx (by omega):Sz (1*k+0) _) (Sz.mono aW (by omega):Sz (1*k+0) _) (Sz.mono cx (by omega):Sz (1*k+0) _))) (by omega)
 have jN:Sz (5*k+4) ((-(bO))*(((aD)*(aD))+((l_1)*(l_1)))⁻¹):=Sz.mono (Sz.mul bz (fq cF)) (by omega)
 have va:Sz (10*k+9) ((aD)*(((-(bO))*(((aD)*(aD))+((l_1)*(l_1)))⁻¹))):=Sz.mono ((b_ (Sz.mono aW (by omega):Sz (5*k+4) _) (Sz.mono cx (by omega):Sz (5*k+4) _) (Sz.mono jN (by omega):Sz (5*k+4) _))) (by omega)
 have Mv:Sz (10*k+9) ((l_1)*(((-(bO))*(((aD)*(aD))+((l_1)*(l_1)))⁻¹))):=Sz.mono ((cd (Sz.mono aW (by omega):Sz (5*k+4) _) (Sz.mono cx (by omega):Sz (5*k+4) _) (Sz.mono jN (by omega):Sz (5*k+4) _))) (by omega)
 exact Sz.mono va (by omega)
theorem cZ {aD l_1 bO:Rat}{k:Nat}(bj:Sz k aD)(bu:Sz k l_1)(br:Sz k bO):Sz (10*k+9) ((l_1)*(((-(bO))*(((aD)*(aD))+((l_1)*(l_1)))⁻¹))):=by
 have aW:Sz (1*k+0) (aD):=Sz.mono ((cz (Sz.mono bj (by omega):Sz (1*k+0) _) (Sz.mono bu (by omega):Sz (1*k+0) _) (Sz.mono br (by omega):Sz (1*k+0) _))) (by omega)
 have cx:Sz (1*k+0) (l_1):=Sz.mono ((cA (Sz.mono bj (by omega):Sz (1*k+0) _) (Sz.mono bu (by omega):Sz (1*k+0) _) (Sz.mono br (by omega):Sz (1*k+0) _))) (by omega)
 have bz:Sz (1*k+0) (-(bO)):=Sz.mono (Sz.neg br) (by omega)
 have cF:Sz (4*k+3) (((aD)*(aD))+((l_1)*(l_1))):=Sz.mono ((cL (Sz.mono aW (by omega):Sz (1*k+0) _) (Sz.mono cx (by omega):Sz (1*k+0) _) (Sz.mono aW (by omega):Sz (1*k+0) _) (Sz.mono cx (by omega):Sz (1*k+0) _))) (by omega)
 have jN:Sz (5*k+4) ((-(bO))*(((aD)*(aD))+((l_1)*(l_1)))⁻¹):=Sz.mono (Sz.mul bz (fq cF)) (by omega)
 have va:Sz (10*k+9) ((aD)*(((-(bO))*(((aD)*(aD))+((l_1)*(l_1)))⁻¹))):=Sz.mono ((b_ (Sz.mono aW (by omega):Sz (5*k+4) _) (Sz.mono cx (by omega):Sz (5*k+4) _) (Sz.mono jN (by omega):Sz (5*k+4) _))) (by omega)
 have Mv:Sz (10*k+9) ((l_1)*(((-(bO))*(((aD)*(aD))+((l_1)*(l_1)))⁻¹))):=Sz.mono ((cd (Sz.mono aW (by omega):Sz (5*k+4) _) (Sz.mono cx (by omega):Sz (5*k+4) _) (Sz.mono jN (by omega):Sz (5*k+4) _))) (by omega)
 exact Sz.mono Mv (by omega)
theorem Ad {V:View}{l:Value}{aD l_1 bO:Rat}{t:Value}{ve:Rat}(hl:qM V l aD l_1 bO)(ht:RR V t ve){k:Nat}(bj:Sz k aD)(bu:Sz k l_1)(br:Sz k bO)(zh:Sz k ve)(hk:20*k+19<274877906944) :
  Acts prog 210 #[l,t] V fun r V'=>RPt V' r ((((aD)*(((-(bO))*(((aD)*(aD))+((l_1)*(l_1)))⁻¹))))+(((l_1)*(ve)))) ((((l_1)*(((-(bO))*(((aD)*(aD))+((l_1)*(l_1)))⁻¹))))+((((-(aD)))*(ve)))):=by
 have hl0:=hl
 obtain ⟨l0,l1,l2,l3,l4,l5,l6,l7,l8,rfl,mN,mO,nU⟩:=hl
 have ht0:=ht
 obtain ⟨t0,t1,t2,rfl⟩:=ht.shape
 refine zt l0 l1 l2 l3 l4 l5 l6 l7 l8 t0 t1 t2 V _ fun V1 l1=>(me (hl0.le (l1)) (Sz.mono bj (by omega):Sz (1*k+0) _) (Sz.mono bu (by omega):Sz (1*k+0) _) (Sz.mono br (by omega):Sz (1*k+0) _) (by omega)).mono ?_
 rintro r V2 l2 g1
 have g10:=g1
 obtain ⟨JP,JQ,JR,JS,JT,JU,rfl,IP,IQ⟩:=g1
 have aW:Sz (10*k+9) ((aD)*(((-(bO))*(((aD)*(aD))+((l_1)*(l_1)))⁻¹))):=Sz.mono ((cY (Sz.mono bj (by omega):Sz (1*k+0) _) (Sz.mono bu (by omega):Sz (1*k+0) _) (Sz.mono br (by omega):Sz (1*k+0) _))) (by omega)
 have cx:Sz (10*k+9) ((l_1)*(((-(bO))*(((aD)*(aD))+((l_1)*(l_1)))⁻¹))):=Sz.mono ((cZ (Sz.mono bj (by omega):Sz (1*k+0) _) (Sz.mono bu (by omega):Sz (1*k+0) _) (Sz.mono br (by omega):Sz (1*k+0) _))) (by omega)
 refine ⟨_,_,_,_,_,_,rfl,fun V3 l3=>(jW (hl0.le (l1.trans (l2.trans (l3)))) (Sz.mono bj (by omega):Sz (1*k+0) _) (Sz.mono bu (by omega):Sz (1*k+0) _) (Sz.mono br (by omega):Sz (1*k+0) _) (by omega)).mono ?_⟩
 rintro r V4 l4 g2
 have g20:=g2
 obtain ⟨Xx,Xy,Xz,XA,XB,XC,rfl,VV,VW⟩:=g2
 have bz:Sz (1*k+0) (l_1):=Sz.mono ((ig (Sz.mono bj (by omega):Sz (1*k+0) _) (Sz.mono bu (by omega):Sz (1*k+0) _) (Sz.mono br (by omega):Sz (1*k+0) _))) (by omega)
 have zK:Sz (1*k+0) (-(aD)):=Sz.mono ((ij (Sz.mono bj (by omega):Sz (1*k+0) _) (Sz.mono bu (by omega):Sz (1*k+0) _) (Sz.mono br (by omega):Sz (1*k+0) _))) (by omega)
 refine ⟨_,_,_,_,_,_,rfl,fun V5 l5=>(kK (g20.le (l5)) (ht0.le (l1.trans (l2.trans (l3.trans (l4.trans (l5)))))) (Sz.mono bz (by omega):Sz (1*k+0) _) (Sz.mono zK (by omega):Sz (1*k+0) _) (Sz.mono zh (by omega):Sz (1*k+0) _) (by omega)).mono ?_⟩
 rintro r V6 l6 g3
 have oQ:=g3
 obtain ⟨XD,XE,XF,XG,XH,XI,rfl,VX,VY⟩:=g3
 have cF:Sz (2*k+1) ((l_1)*(ve)):=Sz.mono ((b_ (Sz.mono bz (by omega):Sz (1*k+0) _) (Sz.mono zK (by omega):Sz (1*k+0) _) (Sz.mono zh (by omega):Sz (1*k+0) _))) (by omega)
 have zL:Sz (2*k+1) (((-(aD)))*(ve)):=Sz.mono ((cd (Sz.mono bz (by omega):Sz (1*k+0) _) (Sz.mono zK (by omega):Sz (1*k+0) _) (Sz.mono zh (by omega):Sz (1*k+0) _))) (by omega)
 refine ⟨_,_,_,_,_,_,rfl,fun V7 l7=>(yi (g10.le (l3.trans (l4.trans (l5.trans (l6.trans (l7)))))) (oQ.le (l7)) (Sz.mono aW (by omega):Sz (10*k+9) _) (Sz.mono cx (by omega):Sz (10*k+9) _) (Sz.mono cF (by omega):Sz (10*k+9) _) (Sz.mono zL (by omega):Sz (10*k+9) _) (by omega)).mono ?_⟩
 rintro r V8 l8 g4
 have Il:=g4
 obtain ⟨XJ,XK,XL,XM,XN,XO,rfl,Qt,Qu⟩:=g4
 have jN:Sz (20*k+19) ((((aD)*(((-(bO))*(((aD)*(aD))+((l_1)*(l_1)))⁻¹))))+(((l_1)*(ve)))):=Sz.mono ((ik (Sz.mono aW (by omega):Sz (10*k+9) _) (Sz.mono cx (by omega):Sz (10*k+9) _) (Sz.mono cF (by omega):Sz (10*k+9) _) (Sz.mono zL (by omega):Sz (10*k+9) _))) (by omega)
 have Mu:Sz (20*k+19) ((((l_1)*(((-(bO))*(((aD)*(aD))+((l_1)*(l_1)))⁻¹))))+((((-(aD)))*(ve)))):=Sz.mono ((il (Sz.mono aW (by omega):Sz (10*k+9) _) (Sz.mono cx (by omega):Sz (10*k+9) _) (Sz.mono cF (by omega):Sz (10*k+9) _) (Sz.mono zL (by omega):Sz (10*k+9) _))) (by omega)
 exact ⟨_,_,_,_,_,_,rfl,fun V9 l9=>⟨_,_,_,_,_,_,rfl,(Qt.le (l9)),(Qu.le (l9))⟩⟩
theorem wA {aD l_1 bO ve:Rat}{k:Nat}(bj:Sz k aD)(bu:Sz k l_1)(br:Sz k bO)(zh:Sz k ve):Sz (20*k+19) ((((aD)*(((-(bO))*(((aD)*(aD))+((l_1)*(l_1)))⁻¹))))+(((l_1)*(ve)))):=by
 have aW:Sz (10*k+9) ((aD)*(((-(bO))*(((aD)*(aD))+((l_1)*(l_1)))⁻¹))):=Sz.mono ((cY (Sz.mono bj (by omega):Sz (1*k+0) _) (Sz.mono bu (by omega):Sz (1*k+0) _) (Sz.mono br (by omega):Sz (1*k+0) _))) (by omega)
 have cx:Sz (10*k+9) ((l_1)*(((-(bO))*(((aD)*(aD))+((l_1)*(l_1)))⁻¹))):=Sz.mono ((cZ (Sz.mono bj (by omega):Sz (1*k+0) _) (Sz.mono bu (by omega):Sz (1*k+0) _) (Sz.mono br (by omega):Sz (1*k+0) _))) (by omega)
 have bz:Sz (1*k+0) (l_1):=Sz.mono ((ig (Sz.mono bj (by omega):Sz (1*k+0) _) (Sz.mono bu (by omega):Sz (1*k+0) _) (Sz.mono br (by omega):Sz (1*k+0) _))) (by omega)
 have zK:Sz (1*k+0) (-(aD)):=Sz.mono ((ij (Sz.mono bj (by omega):Sz (1*k+0) _) (Sz.mono bu (by omega):Sz (1*k+0) _) (Sz.mono br (by omega):Sz (1*k+0) _))) (by omega)
 have cF:Sz (2*k+1) ((l_1)*(ve)):=Sz.mono ((b_ (Sz.mono bz (by omega):Sz (1*k+0) _) (Sz.mono zK (by omega):Sz (1*k+0) _) (Sz.mono zh (by omega):Sz (1*k+0) _))) (by omega)
 have zL:Sz (2*k+1) (((-(aD)))*(ve)):=Sz.mono ((cd (Sz.mono bz (by omega):Sz (1*k+0) _) (Sz.mono zK (by omega):Sz (1*k+0) _) (Sz.mono zh (by omega):Sz (1*k+0) _))) (by omega)
 have jN:Sz (20*k+19) ((((aD)*(((-(bO))*(((aD)*(aD))+((l_1)*(l_1)))⁻¹))))+(((l_1)*(ve)))):=Sz.mono ((ik (Sz.mono aW (by omega):Sz (10*k+9) _) (Sz.mono cx (by omega):Sz (10*k+9) _) (Sz.mono cF (by omega):Sz (10*k+9) _) (Sz.mono zL (by omega):Sz (10*k+9) _))) (by omega)
 have Mu:Sz (20*k+19) ((((l_1)*(((-(bO))*(((aD)*(aD))+((l_1)*(l_1)))⁻¹))))+((((-(aD)))*(ve)))):=Sz.mono ((il (Sz.mono aW (by omega):Sz (10*k+9) _) (Sz.mono cx (by omega):Sz (10*k+9) _) (Sz.mono cF (by omega):Sz (10*k+9) _) (Sz.mono zL (by omega):Sz (10*k+9) _))) (by omega)
 exact Sz.mono jN (by omega)
theorem wB {aD l_1 bO ve:Rat}{k:Nat}(bj:Sz k aD)(bu:Sz k l_1)(br:Sz k bO)(zh:Sz k ve):Sz (20*k+19) ((((l_1)*(((-(bO))*(((aD)*(aD))+((l_1)*(l_1)))⁻¹))))+((((-(aD)))*(ve)))):=by
 have aW:Sz (10*k+9) ((aD)*(((-(bO))*(((aD)*(aD))+((l_1)*(l_1)))⁻¹))):=Sz.mono ((cY (Sz.mono bj (by omega):Sz (1*k+0) _) (Sz.mono bu (by omega):Sz (1*k+0) _) (Sz.mono br (by omega):Sz (1*k+0) _))) (by omega)
 have cx:Sz (10*k+9) ((l_1)*(((-(bO))*(((aD)*(aD))+((l_1)*(l_1)))⁻¹))):=Sz.mono ((cZ (Sz.mono bj (by omega):Sz (1*k+0) _) (Sz.mono bu (by omega):Sz (1*k+0) _) (Sz.mono br (by omega):Sz (1*k+0) _))) (by omega)
 have bz:Sz (1*k+0) (l_1):=Sz.mono ((ig (Sz.mono bj (by omega):Sz (1*k+0) _) (Sz.mono bu (by omega):Sz (1*k+0) _) (Sz.mono br (by omega):Sz (1*k+0) _))) (by omega)
 have zK:Sz (1*k+0) (-(aD)):=Sz.mono ((ij (Sz.mono bj (by omega):Sz (1*k+0) _) (Sz.mono bu (by omega):Sz (1*k+0) _) (Sz.mono br (by omega):Sz (1*k+0) _))) (by omega)
 have cF:Sz (2*k+1) ((l_1)*(ve)):=Sz.mono ((b_ (Sz.mono bz (by omega):Sz (1*k+0) _) (Sz.mono zK (by omega):Sz (1*k+0) _) (Sz.mono zh (by omega):Sz (1*k+0) _))) (by omega)
 have zL:Sz (2*k+1) (((-(aD)))*(ve)):=Sz.mono ((cd (Sz.mono bz (by omega):Sz (1*k+0) _) (Sz.mono zK (by omega):Sz (1*k+0) _) (Sz.mono zh (by omega):Sz (1*k+0) _))) (by omega)
 have jN:Sz (20*k+19) ((((aD)*(((-(bO))*(((aD)*(aD))+((l_1)*(l_1)))⁻¹))))+(((l_1)*(ve)))):=Sz.mono ((ik (Sz.mono aW (by omega):Sz (10*k+9) _) (Sz.mono cx (by omega):Sz (10*k+9) _) (Sz.mono cF (by omega):Sz (10*k+9) _) (Sz.mono zL (by omega):Sz (10*k+9) _))) (by omega)
 have Mu:Sz (20*k+19) ((((l_1)*(((-(bO))*(((aD)*(aD))+((l_1)*(l_1)))⁻¹))))+((((-(aD)))*(ve)))):=Sz.mono ((il (Sz.mono aW (by omega):Sz (10*k+9) _) (Sz.mono cx (by omega):Sz (10*k+9) _) (Sz.mono cF (by omega):Sz (10*k+9) _) (Sz.mono zL (by omega):Sz (10*k+9) _))) (by omega)
 exact Sz.mono Mu (by omega)
theorem j9 {V:View}{v w:Value}{x y:Rat}(hx:RQ V v x)(hy:RQ V w y)(hy0:y.num≠0){k m:Nat}(hk:Sz k x)(hm:Sz m y)(hkm:k+m<274877906944) :
  Acts prog 83 #[v,w] V fun r V'=>RQ V' r (x*y⁻¹):=by
 obtain ⟨p,n,c,p',n',c',rfl,hx1,hx2⟩:=hx
 obtain ⟨q,i,e,q',i',e',rfl,hy1,hy2⟩:=hy
 have NF:=fq hm
 have q1:=ae hk.1
 have q2:=ae hk.2
 have q3:=ae hm.1
 have q4:=ae NF.1
 have iv:(y⁻¹).num=(if decide (y.num<0)=true then -((y.den:Nat):Int) else ((y.den:Nat):Int))/\(y⁻¹).den=y.num.natAbs:=by
  rcases Int.lt_or_gt_of_ne hy0 with h|h
  ·rw [if_pos (decide_eq_true h)];exact inv_neg h
  ·rw [if_neg (fun hh=>by have:=of_decide_eq_true hh;omega)];exact inv_pos h
 have hxy:x*y⁻¹=mkRat (x.num*(y⁻¹).num) (x.den*(y⁻¹).den):=Rat.mul_def' x y⁻¹
 have b1:(x.num*(y⁻¹).num).natAbs<2^(k+m):=by rw [Int.natAbs_mul];exact bC hk.1 NF.1
 have b2:x.den*(y⁻¹).den<2^(k+m):=bC hk.2 NF.2
 refine BW _ p n c p' n' c' _ q i e q' i' e' V _ fun V1 l1=>(cH y _ (hy2.le l1)).mono ?_
 rintro r V2 l2 ⟨p1,n1,c1,rfl,g1⟩
 refine ⟨_,_,_,rfl,fun V3 l3=>(eE _ (g1.le l3)).mono ?_⟩
 rw [←iv.1]
 rintro r V4 l4 ⟨p4,n4,c4,rfl,g4⟩
 refine ⟨_,_,_,_,rfl,fun V5 l5=>(js x.num (y⁻¹).num (hx1.le (l1.trans (l2.trans (l3.trans (l4.trans l5))))) (g4.le l5) (by omega)).mono ?_⟩
 rintro r V6 l6 ⟨p6,n6,c6,rfl,g6⟩
 have Ja:=l1.trans (l2.trans (l3.trans (l4.trans (l5.trans l6))))
 refine ⟨_,_,_,_,rfl,fun V7 l7=>(cH x _ (hx2.le (Ja.trans l7))).mono ?_⟩
 rintro r V8 l8 ⟨p8,n8,c8,rfl,g8⟩
 refine ⟨_,_,_,rfl,fun V9 l9=>(bY (g8.le l9) (hy1.le (Ja.trans (l7.trans (l8.trans l9)))) (by omega)).mono ?_⟩
 rintro r V10 l10 ⟨FM,n10,c10,rfl,g10⟩
 rw [ab,ab,←iv.2] at g10
 refine ⟨_,_,_,rfl,fun V11 l11=>(mH _ (g6.le (l7.trans (l8.trans (l9.trans (l10.trans l11))))) (g10.le l11) (Nat.le_trans (ae b1) (by omega)) (Nat.le_trans (ae b2) (by omega)) (Nat.mul_ne_zero x.den_nz (y⁻¹).den_nz)).mono ?_⟩
 rw [hxy]
 rintro r wE jA ⟨UI,n21,c21,UJ,n22,Ty,rfl,g21,g22⟩
 exact ⟨_,_,_,_,_,_,_,rfl,fun wF iq=>⟨_,_,_,_,_,_,rfl,g21.le iq,g22.le iq⟩⟩
theorem EO {V:View}(z:Int){p:OA}{n c:Nat}(h:RD V p n c (af z.natAbs)) :
  Acts prog 84 #[.agg #[.bool (decide (z<0)),.slice p n c]] V fun r V'=>RQ V' r (z:Rat):=
 DE _ p n c V _ fun V1 l1=>ml (z:=z) (d:=1) rfl rfl (h.le l1) RD.nil rfl
end Go.Proofs.Tryz
