import Derived.Test.YtdhlkpfmlimjfaaGreatDoorB18
import Derived.Test.YtdhlkpfmlimjfaaGreatDoorB17
import Derived.Test.YtdhlkpfmlimjfaaGreatDoorB9
set_option linter.unusedVariables false
open Go.IntKind (i64 u64 u32)
namespace Go.Proofs.Tryz
open Go.Eng Go.Big
theorem JC {α:Type}{sz:Nat}{R:View->Value->α->Prop}{V:View}{vs:List Value}{al:List α}(h:Row sz R V vs al)(hs:0<sz){i:Nat}(hi:i<al.length) :
  ∃xs:List Value,xs.length=sz/\R V (.agg xs.toArray) al[i]/\i*sz+sz<=vs.length/\(vs.drop (i*sz)).take sz=xs/\∀j v,xs[j]?=some v->vs[i*sz+j]?=some v:=by
 obtain ⟨xs,h1,h2,h3⟩:=h.at_ i hi
 have hl:=h.gY hs
 have hm:i*sz+sz<=al.length*sz:=by
  have:=Nat.mul_le_mul_right sz (Nat.succ_le_of_lt hi)
  rw [Nat.succ_mul] at this
  exact this
 refine ⟨xs,h1,h2,by omega,List.ext_getElem? fun j=>?_,h3⟩
 rw [List.getElem?_take]
 by_cases c:j<sz
 ·rw [if_pos c,List.getElem?_drop]
  have hj:xs[j]?=some xs[j]:=List.getElem?_eq_getElem (by omega)
  rw [hj,h3 j _ hj]
 ·rw [if_neg c,List.getElem?_eq_none (by omega)]
theorem Gz {V:View}{n c:Nat}{vs:List Value}{al:List (List L3×Bool)}(h:GR 2 RCe V n c vs al){i:Nat}(hi:i<al.length) :
  ∃(q:OA)(m e:Nat),i*2+2<=vs.length/\(vs.drop (i*2)).take 2=[.slice q m e,.bool al[i].2]/\vs[i*2+0]?=some (.slice q m e)/\Lst 6 RLv V q m al[i].1:=by
 obtain ⟨xs,h1,⟨q,m,e,ex,g1,g2⟩,h3,h4,h5⟩:=JC h.row (by decide) hi
 have ex:=congrArg Array.toList (Value.agg.inj ex)
 dsimp only at ex
 subst ex
 exact ⟨q,m,e,h3,h4,h5 0 _ rfl,g1⟩
def FL (A:List (List L3×Bool)):List (List L3):=(A.filter fun p=>p.2).map Prod.fst
theorem GN {A:List (List L3×Bool)}{j:Nat}(h:j<A.length):FL (A.take (j+1))=FL (A.take j)++(if A[j].2=true then [A[j].1] else []):=by
 unfold FL
 rw [←List.take_append_getElem h,List.filter_append,List.map_append]
 congr 1
 by_cases c:A[j].2=true
 ·rw [if_pos c,List.filter_cons_of_pos c];rfl
 ·rw [if_neg c,List.filter_cons_of_neg c];rfl
theorem DZ (A:List (List L3×Bool))(j:Nat):(FL (A.take j)).length<=j:=by
 unfold FL
 rw [List.length_map]
 have h1:=List.length_filter_le (fun p:List L3×Bool=>p.2) (A.take j)
 rw [List.length_take] at h1
 omega
theorem qi {t:Tr}(ht:t.All Okb):cellsR t []=(partsC t []).map fun p=>(p.1.map Prod.fst,p.2):=
 sR CanC.nil (fun x hx=>by cases hx) (Eb ht) (.inl rfl) rfl
theorem I7 {t:Tr}(ht:t.All Okb):inP (partsC t [])=FL (cellsR t []):=by
 rw [qi ht]
 unfold inP FL
 rw [List.filter_map,List.map_map]
 rfl
theorem sO {V:View}{q:OA}{t:Tr}(h:RW V q t)(ha:t.All Okb)(hs:t.size<=900) :
  Acts prog 16 #[.pointer q] V fun r V'=>∃p n c,r=.slice p n c/\Lst 1 RCl1 V' p n (FL (cellsR t [])):=by
 have hlen:=cells_len t []
 refine B9 q V _ fun V1 l1=>(c_ref14_Cells t (ls:=[]) (h.le l1) ha Lst.nil (fun x hx=>by cases hx) (fun x hx=>by cases hx) (by simp;omega)).mono ?_
 rintro r V2 l2 ⟨bm,vm,n,c,w1,w2,rfl,G⟩
 have f1:=G.len
 generalize cellsR t []=A at *
 subst f1
 refine ⟨bm,vm,w1,fun h=>.inl (w2 h),none,A.length,c,rfl,fun z V'=>∃j:Nat,z.2.2.2=(j:Int)/\j<=A.length/\GR 1 RCl1 V' z.1 z.2.1 z.2.2.1 (FL (A.take j)),fun z=>A.length-z.2.2.2.toNat,⟨(0,0,[],0),by and_intros<;>first|rfl|trivial,0,rfl,Nat.zero_le _,GR.nil⟩,?_⟩
 rintro ⟨x1,x2,xs,w⟩ V3 l3 ⟨j,ej,jle,ga⟩
 dsimp only at ej ga ⊢
 subst ej
 refine ⟨by trivial,fun hlt=>?_,fun hlt V4 l4 bk hb=>?_⟩
 ·have hlt:(j:Int)<A.length:=of_decide_eq_true hlt
  have hj:j<A.length:=by omega
  have wr:i64.wrap ((j:Int)+1)=((j+1:Nat):Int):=by rw [i64w (by omega)];rfl
  rw [wr,Int.toNat_natCast]
  obtain ⟨p8,n8,c8,g1,g2,-,gl⟩:=Gz G hj
  have Wi:Lst 6 RLv V3 p8 n8 A[j].1:=gl.le (fun b o h=>l3 b o h) fun _ _ g=>RLv.le g fun b o h=>l3 b o h
  have es:=GN hj
  have la:=ga.len
  have lb:=DZ A j
  generalize A[j]=P at *
  refine ⟨⟨by omega,by omega⟩,G.le,p8,n8,c8,P.2,⟨g1,g2⟩,fun hP=>⟨by omega,ga.le,ga.cap,rfl,(fun v hv=>by rw [List.mem_singleton.1 hv];rfl),fun sp c' k1 k2=>⟨(x1+1,c',_,((j+1:Nat):Int)),by dsimp only;omega,by and_intros<;>first|rfl|trivial,j+1,rfl,hj,?_⟩⟩,fun hP=>⟨(x1,x2,xs,((j+1:Nat):Int)),by dsimp only;omega,by and_intros<;>first|rfl|trivial,j+1,rfl,hj,?_⟩⟩
  ·rw [es,if_pos hP]
   exact ga.snoc (a:=P.1) rfl ⟨_,_,_,rfl,Wi⟩ (by decide) k1 k2
  ·rw [es,if_neg (by rw [hP];exact Bool.false_ne_true),List.append_nil]
   exact ga
 ·have hlt:¬(j:Int)<A.length:=of_decide_eq_false hlt
  obtain rfl:j=A.length:=by omega
  rw [List.take_length] at ga
  have e1:=ga.len
  have f1:=ga.le
  subst e1
  exact ⟨_,_,_,rfl,Lst.of_mrow hb (ga.row.le fun _ _ g=>RCl1.le g l4) (by decide) f1⟩
theorem tM {V:View}{p:OA}{n:Nat}{al:List (List L3)}(h:Lst 1 RCl1 V p n al){i:Nat}(hi:i<al.length) :
  p.isSome=true/\∃(q:OA)(m e:Nat)(a:Addr),addrAdd p (i*1)=some a/\V.at (a.add 0) (.slice q m e)/\V.at a (.slice q m e)/\Lst 6 RLv V q m al[i]:=by
 obtain ⟨ad,h0,xs,h1,h2,h3⟩:=h.at_ i hi
 obtain ⟨q,m,e,ex,g⟩:=h2
 have ex:=congrArg Array.toList (Value.agg.inj ex)
 dsimp only at ex
 subst ex
 cases p with
 | none=>cases h0
 | some a=>
  have b1:a.add (i*1)=ad:=Option.some.inj h0
  have z0:ad.add 0=ad:=by rw [←b1,gu];rfl
  have h4:=h3 0 _ rfl
  refine ⟨rfl,q,m,e,ad,h0,h4,?_,g⟩
  rw [z0] at h4;exact h4
theorem G3 {V:View}{p:OA}{n:Nat}{al:List Bool}(h:Lst 1 RCode V p n al){i:Nat}(hi:i<al.length) :
  p.isSome=true/\∃a:Addr,addrAdd p (i*1)=some a/\V.at a (.int .i64 (if al[i]=true then -2 else -1)):=by
 obtain ⟨ad,h0,xs,h1,h2,h3⟩:=h.at_ i hi
 have ex:=congrArg Array.toList (Value.agg.inj h2)
 dsimp only at ex
 subst ex
 cases p with
 | none=>cases h0
 | some a=>
  have b1:a.add (i*1)=ad:=Option.some.inj h0
  have z0:ad.add 0=ad:=by rw [←b1,gu];rfl
  have h4:=h3 0 _ rfl
  rw [z0] at h4
  exact ⟨rfl,ad,h0,h4⟩
def S2 (A:List (List L3)):Prop:=A.length<=1000000/\∀S∈A,S.length<=1000/\∀l∈S,Bd l
theorem yj {V:View}{p q:OA}{n m c d:Nat}{A:List (List L3)}(hA:Lst 1 RCl1 V p n A)(hB:Lst 1 RCl1 V q m A)(hs:S2 A) :
  Acts prog 15 #[.slice p n c,.slice q m d] V fun r V'=>r=.bool true:=by
 obtain rfl:=hA.len
 obtain rfl:=hB.len
 obtain ⟨hn,hs⟩:=hs
 refine vY p A.length c q A.length d V _ ⟨fun h=>by simp at h,fun _=>⟨fun z _=>∃j:Nat,z=(j:Int)/\j<=A.length,fun z=>A.length-z.toNat,⟨0,by and_intros<;>rfl,0,rfl,Nat.zero_le _⟩,?_⟩⟩
 rintro w V2 l2 ⟨j,rfl,jle⟩
 refine ⟨by trivial,fun hlt=>?_,fun _ V8 l8=>rfl⟩
 have hlt:(j:Int)<A.length:=of_decide_eq_true hlt
 have hj:j<A.length:=by omega
 have wr:i64.wrap ((j:Int)+1)=((j+1:Nat):Int):=by rw [i64w (by omega)];rfl
 rw [wr,Int.toNat_natCast]
 obtain ⟨is,q1,m1,e1,ad,a0,a1,a2,gl⟩:=tM (hA.le l2 fun _ _ g=>RCl1.le g l2) hj
 obtain ⟨is',q2,m2,e2,ad',b0,b1,b2,gl'⟩:=tM (hB.le l2 fun _ _ g=>RCl1.le g l2) hj
 obtain ⟨k1,k2⟩:=hs A[j] (List.getElem_mem hj)
 generalize A[j]=S at *
 refine ⟨is,⟨by omega,by omega⟩,q1,m1,e1,ad,a0,a1,is',⟨by omega,by omega⟩,q2,m2,e2,⟨ad',b0,b2⟩,fun V3 l3=>(mg (gl'.le l3 fun _ _ g=>RLv.le g l3) (by omega) k2).mono ?_⟩
 rintro r V4 l4 ⟨q3,m3,e3,rfl,gw⟩
 refine ⟨_,_,_,rfl,fun V5 l5=>(nK (A:=S) (gl.le (l3.trans (l4.trans l5)) fun _ _ g=>RLv.le g (l3.trans (l4.trans l5))) (gw.le l5 fun _ _ g=>RLv.le g l5) (by omega) k2).mono ?_⟩
 rintro r V6 l6 rfl
 exact ⟨_,rfl,(fun h=>by cases h),fun _=>⟨((j+1:Nat):Int),by dsimp only;omega,by and_intros<;>rfl,j+1,rfl,hj⟩⟩
theorem Hv {t:Tr}(ht:t.All Okb):∀p∈partsC t [],∀s∈p.1,Bd s.1:=fun p hp s hs=>by
 obtain ⟨M,hM,hP⟩:=pK (P:=Okb) (fun l h=>⟨ok_rev h.1,h.2.rev⟩) (fun l h=>h.1) CanC.nil (fun x hx=>by cases hx) ht p hp
 exact (hP _ (hM.mem s hs).1).2
theorem mG {V:View}{y z:Value}(hy:Sent V 0 y)(hz:Sent V 1 z)(sy:SErr y)(sz:SErr z){lp:OA}{ln lc:Nat}(hr:Ii V lp ln)(hc:ln<=lc) :
  Acts prog 3 #[.slice lp ln lc] V fun r V'=>r=.bool true:=by
 refine mb lp ln lc V _ fun V1 l1=>(Ai hc).mono ?_
 rintro r V2 l2 ⟨bk1,rfl,hfr,hb⟩
 refine ⟨bk1,_,_,_,_,rfl,hfr,hb,fun V3 l3 bk4 e4 h4=>?_⟩
 have l13:V1.Le V3:=fun b o h=>l3 b o ⟨fun hh=>hh.elim (l2 b o h).1 fun e=>by
  have hlt:b<V1.w.heap.size:=by
   rcases Nat.lt_or_ge b V1.w.heap.size with h'|h'
   ·exact h'
   ·have:=h.2;rw [Array.getElem?_eq_none h'] at this;cases this
  have:=e.1
  omega,(l2 b o h).2⟩
 have hmin:min ln 400<=400:=Nat.min_le_right _ _
 have hr:Ii V lp (min ln 400):=fun i hi=>hr i (Nat.lt_of_lt_of_le hi (Nat.min_le_left _ _))
 generalize min ln 400=n at *
 have Ip:V.Le V3:=l1.trans l13
 refine (K4 4 (V:=V3.lend [bk4]) (by omega) (hr.le fun b o h=>Ip b o h) hmin e4 ⟨by simp,h4⟩ (Int.le_refl 0)).mono ?_
 rintro r V4 l4 ⟨qa,t,Kd,rfl,Lt,FK,hsa,t1,hw1⟩
 have l04:V.Le V4:=fun b o h=>l4 b o (Ip b o h)
 have UG:ofT (wr 0 t) (rt 0 t)=some t:=LX (Eb FK) (by omega)
 have Tx:∀x∈wr 0 t,Bd x.ln:=tL (L7 FK)
 have hdp:=kQ t
 have hcnt:=parts_count (t:=t) (c:=[])
 have hpl:=parts_len (t:=t) (c:=[])
 have hpb:=Hv FK
 have Qq:=qi FK
 have VT:=I7 FK
 have hil:=DZ (cellsR t []) (cellsR t []).length
 rw [List.take_length] at hil
 have hcl:=cells_len t []
 have Sx:S2 (FL (cellsR t [])):=⟨by omega,fun S hS=>by
  unfold FL at hS
  obtain ⟨p,hp,rfl⟩:=List.mem_map.1 hS
  have hp:=(List.mem_filter.1 hp).1
  rw [Qq] at hp
  obtain ⟨p',hp',rfl⟩:=List.mem_map.1 hp
  have h1:=hpl p' hp'
  refine ⟨by rw [List.length_map];simp only [List.length_nil] at h1;omega,fun l hl=>?_⟩
  obtain ⟨s,hs,rfl⟩:=List.mem_map.1 hl
  exact hpb p' hp' s hs⟩
 refine ⟨_,rfl,_,_,_,_,hw1,fun V5 l5=>(mh (RW.le (V:=V4) (V':=V5) l5 Lt) FK (by omega)).mono ?_⟩
 rintro r V6 l6 hA
 have PD:=hA
 obtain ⟨pa,na,ca,rfl,-⟩:=hA
 have l46:V4.Le V6:=fun b o h=>l6 b o (l5 b o h)
 have Ja:=l04.trans l46
 refine ⟨_,_,_,_,rfl,fun V7 l7=>(c_cells_All Tx (PD.le l7) (hy.le (Ja.trans l7)) (hz.le (Ja.trans l7)) sy sz).mono ?_⟩
 rintro r V8 l8 ⟨-,h2⟩
 obtain ⟨p1,n1,c1,p2,n2,c2,rfl,hp1,hp2⟩:=(h2 t UG).2 (by omega)
 have Uy:=l7.trans l8
 have PJ:=l46.trans Uy
 have MI:=Ja.trans Uy
 refine ⟨_,_,_,_,_,_,_,rfl,fun V9 l9=>(mh (RW.le (V:=V4) (V':=V9) (PJ.trans l9) Lt) FK (by omega)).mono ?_⟩
 rintro r V10 l10 hB
 have hB0:=hB
 obtain ⟨pb,nb,cb,rfl,-⟩:=hB
 have Oj:=l9.trans l10
 have N5:=MI.trans Oj
 refine ⟨_,_,_,_,rfl,fun V11 l11=>(c_cells_In Tx (hB0.le l11) (hy.le (N5.trans l11)) (hz.le (N5.trans l11)) sy sz).mono ?_⟩
 rintro r V12 l12 ⟨-,h3⟩
 obtain ⟨p3,n3,c3,rfl,hp3⟩:=(h3 t UG).2 (by omega)
 have N8:=l11.trans l12
 have Ok:=Oj.trans N8
 have LM:=PJ.trans Ok
 have CT:=l04.trans LM
 refine ⟨_,_,_,_,rfl,fun V13 N_=>(c_ref14_Cells t (ls:=[]) (RW.le (V:=V4) (V':=V13) (LM.trans N_) Lt) FK Lst.nil (fun x hx=>by cases hx) (fun x hx=>by cases hx) (by simp;omega)).mono ?_⟩
 rintro r V14 dA ⟨bm,vm,n',c',w1,w2,rfl,G⟩
 have lW:V12.Le (V14.shut.hideG (vm≠[]) bm):=N_.trans (le_moved (V:=V13) (V':=V14) dA fun h=>.inl (w2 h))
 have G':GR 2 RCe (V14.shut.hideG (vm≠[]) bm) n' c' vm (cellsR t []):=G.mono fun _ _ g=>RCe.le g fun b o h=>h
 clear G
 refine ⟨bm,vm,w1,fun h=>.inl (w2 h),none,n',c',rfl,?_⟩
 generalize V14.shut.hideG (vm≠[]) bm=W at lW G' ⊢
 have e1:=hp1.len
 have e2:=hp2.len
 have e3:=G'.len
 rw [VT] at hp3
 rw [Qq] at G' e3 hp3 Sx
 rw [List.length_map] at e1 e2 e3
 have hR:Acts prog 16 #[.pointer qa] V4 fun r V'=>∃p n c,r=.slice p n c/\Lst 1 RCl1 V' p n (FL (cellsR t [])):=sO Lt FK (by omega)
 refine ⟨.inl rfl,(fun hf=>by cases hf),fun _=>⟨.inl rfl,(fun hf=>by cases hf),fun _=>⟨fun hf=>?_,fun _=>⟨fun hf=>?_,fun _ rG dX=>(sO (RW.le (V:=V4) (V':=rG) (LM.trans (lW.trans dX)) Lt) FK (by omega)).mono ?_⟩⟩⟩⟩
 ·rw [e1,e3] at hf;simp at hf
 ·rw [e2,e3] at hf;simp at hf
 rintro r Cg iI ⟨p4,n4,c4,rfl,Uk⟩
 have Ol:=dX.trans iI
 have GS:=lW.trans Ol
 rw [Qq] at Uk
 refine ⟨_,_,_,rfl,fun rX fA=>(yj (hp3.le (GS.trans fA) fun _ _ g=>RCl1.le g (GS.trans fA)) ?_ Sx).mono ?_⟩
 ·exact Uk.le fA fun _ _ g=>RCl1.le g fA
 rintro r wE jA rfl
 have N9:=GS.trans (fA.trans jA)
 have RC:=Ol.trans (fA.trans jA)
 clear Sx hil hcl hR
 generalize partsC t []=A at *
 subst e1 e2 e3
 refine ⟨_,rfl,(fun h=>by cases h),fun _=>⟨fun z _=>∃j:Nat,z=(j:Int)/\j<=A.length,fun z=>A.length-z.toNat,⟨0,by and_intros<;>rfl,0,rfl,Nat.zero_le _⟩,?_⟩⟩
 rintro w FR tH ⟨j,rfl,jle⟩
 have GU:=N9.trans tH
 have Om:=RC.trans tH
 refine ⟨by trivial,fun hlt=>?_,fun _ Qc Iq=>(vq (hy.le (CT.trans (GU.trans Iq))) (hz.le (CT.trans (GU.trans Iq))) sy sz).mono ?_⟩
 ·have hlt:(j:Int)<A.length:=of_decide_eq_true hlt
  have hj:j<A.length:=by omega
  have wr:i64.wrap ((j:Int)+1)=((j+1:Nat):Int):=by rw [i64w (by omega)];rfl
  rw [wr,Int.toNat_natCast]
  have LN:=Ok.trans GU
  obtain ⟨p8,n8,c8,g1,g2,-,gl⟩:=Gz G' (i:=j) (by rw [List.length_map];exact hj)
  obtain ⟨is,q1,m1,x1,ad,a0,a1,a2,gm⟩:=tM (hp1.le LN fun _ _ g=>RCl1.le g LN) (i:=j) (by rw [List.length_map];exact hj)
  obtain ⟨PF,Tw,b0,b1⟩:=G3 (hp2.le LN fun _ _ g=>g) (i:=j) (by rw [List.length_map];exact hj)
  rw [List.getElem_map] at g2 gl gm b1
  have hb1:=hpb A[j] (List.getElem_mem hj)
  have hl1:=hpl A[j] (List.getElem_mem hj)
  have hbL:∀l∈A[j].1.map Prod.fst,Bd l:=fun l hl=>by
   obtain ⟨s,hs,rfl⟩:=List.mem_map.1 hl
   exact hb1 s hs
  have Uj:(A[j].1.map Prod.fst).length<=1000000:=by rw [List.length_map];simp only [List.length_nil] at hl1;omega
  clear hb1 hl1
  generalize A[j]=P at *
  dsimp only at g2 gl gm
  refine ⟨⟨by omega,by omega⟩,G'.le,p8,n8,c8,P.2,⟨g1,g2⟩,is,⟨by omega,by omega⟩,q1,m1,x1,ad,a0,a1,fun FE l25=>(mg (gl.le (Om.trans l25) fun _ _ g=>RLv.le g (Om.trans l25)) Uj hbL).mono ?_⟩
  rintro r Ka l26 ⟨q3,m3,x3,rfl,gw⟩
  refine ⟨_,_,_,rfl,fun Mz l27=>(nK (gm.le (l25.trans (l26.trans l27)) fun _ _ g=>RLv.le g (l25.trans (l26.trans l27))) (gw.le l27 fun _ _ g=>RLv.le g l27) Uj hbL).mono ?_⟩
  rintro r MA E5 rfl
  have Kw:=l25.trans (l26.trans (l27.trans E5))
  have f1:(P.2==((if P.2=true then (-2:Int) else -1)==-2))=true:=by cases P.2<;>rfl
  have f2:((!P.2)==((if P.2=true then (-2:Int) else -1)==-1))=true:=by cases P.2<;>rfl
  refine ⟨_,rfl,(fun h=>by cases h),fun _=>⟨PF,⟨by omega,by omega⟩,_,⟨Tw,b0,Kw.at b1⟩,fun h=>?_,fun _=>⟨PF,⟨by omega,by omega⟩,_,⟨Tw,b0,Kw.at b1⟩,fun h=>?_,fun _=>⟨((j+1:Nat):Int),by dsimp only;omega,by and_intros<;>rfl,j+1,rfl,hj⟩⟩⟩⟩
  ·rw [f1] at h;cases h
  ·rw [f2] at h;cases h
 ·rintro r Pz zM rfl
  exact ⟨_,rfl,fun S4 Kx=>rfl⟩
end Go.Proofs.Tryz
