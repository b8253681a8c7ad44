import Derived.Test.YtdhlkpfmlimjfaaGreatDoorN19
import Derived.Test.YtdhlkpfmlimjfaaGreatDoorN18
import Derived.Test.YtdhlkpfmlimjfaaGreatDoorN10
set_option linter.unusedVariables false
open Go.IntKind (i64 u64 u32)
namespace Go.Proofs.Tryz
open Go.Eng Go.Big
theorem Kt (l:L3)(b:List L3):(b.any fun m=>decide (l=revL m))=decide (revL l∈b):=by
 rw [Bool.eq_iff_iff,List.any_eq_true,decide_eq_true_eq];constructor
 ·rintro ⟨m,hm,e⟩;have e:=of_decide_eq_true e;rw [e,rev_rev];exact hm
 ·intro h;exact ⟨_,h,decide_eq_true (rev_rev l).symm⟩
theorem K9 (l m:L3):ph l m=!(FG l m):=by
 have c:(l=m)=(m=l):=propext eq_comm;have d:(l=revL m)=(m=revL l):=propext ⟨fun h=>by rw [h,rev_rev],fun h=>by rw [h,rev_rev]⟩;unfold ph FG;simp only [c,d,Bool.not_or];by_cases a:m=l<;>by_cases b:m=revL l<;>simp [a,b]
theorem Hc {V:View}{xs ys sp sp':List Value}{A B:List L3}{n:Nat}(hn:n=A.length)(h:Row 6 RLv V xs A)(h':Row 6 RLv V ys B):Row 6 RLv V ((([]:List Value).take (0*6)++xs++sp).take ((0+n)*6)++ys++sp') (A++B):=by
 subst hn;have e:([]:List Value).take (0*6)++xs++sp=xs++sp:=by simp
 rw [e,Nat.zero_add]
 have a:Row 6 RLv V (xs++sp) A:=by
  have:=row_append (V:=V) (vs:=[]) (ls:=[]) (sp:=sp) (Row.nil) h (by decide);simpa using this
 exact row_append a h' (by decide)
theorem K7 {V:View}{p:OA}{n:Nat}{al:List (L3×Sp)}(h:Lst 14 F8 V p n al){i:Nat}(hi:i<al.length) :
  p.isSome=true/\∃(b1:Bool)(p1:OA)(n1 c1:Nat)(b2:Bool)(p2:OA)(n2 c2:Nat)(b3:Bool)(p3:OA)(n3 c3:Nat)(b:Bool)(q1:OA)(m1 e1:Nat)(q2:OA)(m2 e2:Nat)(d:Bool)(q3:OA)(m3 e3:Nat)(q4:OA)(m4 e4:Nat)(a:Addr),addrAdd p (i*14)=some a /\
   V.at (a.add 0) (.bool b1)/\V.at (a.add 1) (.slice p1 n1 c1)/\V.at (a.add 2) (.bool b2)/\V.at (a.add 3) (.slice p2 n2 c2)/\V.at (a.add 4) (.bool b3)/\V.at (a.add 5) (.slice p3 n3 c3) /\
   V.at (a.add 6) (.bool b)/\V.at (a.add 7) (.slice q1 m1 e1)/\V.at (a.add 8) (.slice q2 m2 e2)/\V.at (a.add 9) (.bool d)/\V.at (a.add 10) (.slice q3 m3 e3)/\V.at (a.add 11) (.slice q4 m4 e4)/\V.at (a.add 12) (.bool al[i].2.a)/\V.at (a.add 13) (.bool al[i].2.b) /\
   RLv V (.agg #[.bool b1,.slice p1 n1 c1,.bool b2,.slice p2 n2 c2,.bool b3,.slice p3 n3 c3]) al[i].1 /\
   lf V (.agg #[.bool b,.slice q1 m1 e1,.slice q2 m2 e2,.bool d,.slice q3 m3 e3,.slice q4 m4 e4,.bool al[i].2.a,.bool al[i].2.b]) al[i].2:=by
 obtain ⟨f,e,xs,l,g,c⟩:=h.at_ i hi;obtain ⟨_,_,_,_,_,_,_,_,_,_,_,_,_,_,_,_,_,_,_,_,_,_,_,_,_,_,ex,j,k⟩:=g;have ex:=congrArg Array.toList (Value.agg.inj ex);dsimp only at ex;subst ex;refine ⟨?_,_,_,_,_,_,_,_,_,_,_,_,_,_,_,_,_,_,_,_,_,_,_,_,_,_,_,f,e,c 0 _ rfl,c 1 _ rfl,c 2 _ rfl,c 3 _ rfl,c 4 _ rfl,c 5 _ rfl,c 6 _ rfl,c 7 _ rfl,c 8 _ rfl,c 9 _ rfl,c 10 _ rfl,c 11 _ rfl,c 12 _ rfl,c 13 _ rfl,j,k⟩
 cases p with
 | none=>cases e
 | some a=>rfl
theorem Tz {b:Bool}{q1:OA}{m1 e1:Nat}{q2:OA}{m2 e2:Nat}{d:Bool}{q3:OA}{m3 e3:Nat}{q4:OA}{m4 e4:Nat}{x y:Bool} :
  ∀v∈([.bool b,.slice q1 m1 e1,.slice q2 m2 e2,.bool d,.slice q3 m3 e3,.slice q4 m4 e4,.bool x,.bool y]:List Value),v.oneCell'=true:=by
 intro v a;simp only [List.mem_cons,List.not_mem_nil,or_false] at a;rcases a with rfl|rfl|rfl|rfl|rfl|rfl|rfl|rfl<;>rfl
def Bh (ss:List Sp):Prop:=ss=[]\/∃v:Sp,ss=[v]/\v.fR/\v.sz 1000000
theorem Bh.len {ss:List Sp}(h:Bh ss):ss.length<=1:=by
 rcases h with rfl|⟨v,rfl,-⟩
 ·exact Nat.zero_le _
 ·exact Nat.le_refl _
theorem Bh.sz {ss:List Sp}(h:Bh ss):∀s∈ss,s.sz 1000000:=by
 rcases h with rfl|⟨v,rfl,-,h⟩
 ·exact fun s a=>by cases a
 ·exact fun s a=>by rw [List.mem_singleton.1 a];exact h
theorem Bh.step {ss:List Sp}(h:Bh ss){l m:L3}(bl:Bd l)(bm:Bd m):Bh (bX 2 ss (bX 2 [fullSp] (cw l m))):=by
 rcases h with rfl|⟨v,rfl,a,b⟩
 ·rw [Cs];exact .inl rfl
 ·rw [zq a];split
  ·rename_i g;exact .inr ⟨_,rfl,gL a g,tG bl.szl bm.szl b (by omega)⟩
  ·exact .inl rfl
theorem Ik {l m:L3}:∀s∈bX 2 [fullSp] (cw l m),s=fullSp\/s∈cw l m:=by
 intro s a;rcases mI l m with h|⟨u,h,hu⟩
 ·rw [h,dI] at a;cases a
 ·rw [h,jV bu.1 hu,qC hu] at a;split at a
  ·cases a
  ·rw [h];exact .inr a
theorem oM {V:View}{ap bp:OA}{an ac bn bc:Nat}{A B:List L3}(hA:Lst 6 RLv V ap an A)(hB:Lst 6 RLv V bp bn B)(bA:∀l∈A,Bd l)(kA:∀l∈A,okL l=true)(bB:∀l∈B,Bd l)(kB:∀l∈B,okL l=true)(lA:A.length<=1000)(lB:B.length<=1000) :
  Acts prog 32 #[.slice ap an ac,.slice bp bn bc] V fun r V'=>r=.bool (Ah A B):=by
 obtain rfl:=hA.len;obtain rfl:=hB.len;refine ou ap _ ac bp _ bc V _ ⟨fun z _=>∃i:Nat,z=(i:Int)/\i<=A.length/\∀(k:Nat)(h:k<A.length),k<i->(decide (revL A[k]∈B)&&(o_ A[k] (A++B)).isSome)=false,fun z=>A.length-z.toNat,⟨0,by and_intros<;>rfl,0,rfl,Nat.zero_le _,fun k _ h=>absurd h (Nat.not_lt_zero k)⟩,?_⟩;rintro w V1 U ⟨i,rfl,a8,n⟩;refine ⟨by trivial,fun b=>?_,fun b r_ gC=>?_⟩;rotate_left
 ·have b:¬(i:Int)<A.length:=of_decide_eq_false b;obtain rfl:i=A.length:=by omega
  congr 1;symm;unfold Ah;rw [List.any_eq_false];intro l hl;obtain ⟨k,t,rfl⟩:=List.mem_iff_getElem.1 hl;rw [n k t t];exact Bool.false_ne_true
 have b:(i:Int)<A.length:=of_decide_eq_true b;have y:i<A.length:=by omega
 have wi:i64.wrap ((i:Int)+1)=((i+1:Nat):Int):=by rw [i64w (by omega)];rfl
 rw [wi,Int.toNat_natCast];obtain ⟨is,b1,p1,n1,c1,b2,p2,n2,c2,b3,p3,n3,c3,ad,a0,k0,W,X,k3,k4,k5,Y⟩:=tA (hA.le U fun _ _ g=>RLv.le g U) y;have E:=bA _ (List.getElem_mem y);have kl:=kA _ (List.getElem_mem y);have nz:=Jc kl
 have c:(decide (revL A[i]∈B)&&(o_ A[i] (A++B)).isSome)=false->∀(k:Nat)(h:k<A.length),k<i+1->(decide (revL A[k]∈B)&&(o_ A[k] (A++B)).isSome)=false:=fun h k t b=>by
  by_cases e:k=i
  ·subst e;exact h
  ·exact n k t (by omega)
 have Pz:(decide (revL A[i]∈B)&&(o_ A[i] (A++B)).isSome)=true->Ah A B=true:=fun h=>by
  unfold Ah;exact List.any_eq_true.2 ⟨_,List.getElem_mem y,h⟩
 clear n;generalize A[i]=l at *;refine ⟨is,⟨by omega,by omega⟩,b1,p1,n1,c1,b2,p2,n2,c2,b3,p3,n3,c3,ad,a0,k0,W,X,k3,k4,k5,fun z _=>∃j:Nat,z.2=(j:Int)/\j<=B.length/\z.1=((B.take j).any fun m=>decide (l=revL m)),fun z=>B.length-z.2.toNat,⟨(false,0),by and_intros<;>rfl,0,rfl,Nat.zero_le _,rfl⟩,?_⟩;rintro ⟨f,w⟩ V2 Z ⟨j,F,a1,N⟩;dsimp only at F N ⊢;subst F;have v:=U.trans Z;refine ⟨by trivial,fun b=>?_,fun b=>?_⟩
 ·have b:(j:Int)<B.length:=of_decide_eq_true b;have d:j<B.length:=by omega
  have wj:i64.wrap ((j:Int)+1)=((j+1:Nat):Int):=by rw [i64w (by omega)];rfl
  rw [wj,Int.toNat_natCast]
  have O:(B.take (j+1)).any (fun m=>decide (l=revL m))=(f||decide (l=revL B[j])):=by
   rw [←List.take_append_getElem d,List.any_append,←N];simp
  obtain ⟨Ok,d1,q1,m1,e1,d2,q2,m2,e2,d3,q3,m3,e3,Ry,a2,x0,x1,G,P,x4,x5,I⟩:=tA (hB.le v fun _ _ g=>RLv.le g v) d;have D:=bB _ (List.getElem_mem d);generalize B[j]=m at *;refine ⟨Ok,⟨by omega,by omega⟩,d1,q1,m1,e1,d2,q2,m2,e2,d3,q3,m3,e3,Ry,a2,x0,x1,G,P,x4,x5,fun p=>⟨(true,((j+1:Nat):Int)),by (try dsimp only);omega,by and_intros<;>rfl,j+1,rfl,d,by rw [O,p];rfl⟩,fun p V3 l3=>(c_ref04_Rev (RLv.le I l3)).mono ?_⟩;rintro r V4 l4 gr;have J:RLv V4 r (revL m):=gr;obtain ⟨_,_,_,_,_,_,_,_,_,_,_,_,rfl⟩:=rlv_shape J;refine ⟨_,_,_,_,_,_,_,_,_,_,_,_,rfl,fun V5 l5=>(gK (RLv.le Y (Z.trans (l3.trans (l4.trans l5)))) (RLv.le J l5) E.szl D.rev.szl (by omega)).mono ?_⟩;rintro r V6 l6 rfl;exact ⟨_,rfl,((BJ l (revL m)==(0:Int)),((j+1:Nat):Int)),by (try dsimp only);omega,by and_intros<;>rfl,j+1,rfl,d,by rw [O,p,jS,Bool.false_or]⟩
 have b:¬(j:Int)<B.length:=of_decide_eq_false b;obtain rfl:j=B.length:=by omega
 rw [List.take_length,Kt] at N;subst N
 refine ⟨fun p=>⟨((i+1:Nat):Int),by (try dsimp only);omega,by and_intros<;>rfl,i+1,rfl,y,c (by
  have:decide (revL l∈B)=false:=by simpa using p
  rw [this,Bool.false_and])⟩,fun p V7 l7=>hZ.mono ?_⟩
 have p:decide (revL l∈B)=true:=by simpa using p
 rw [p,Bool.true_and] at c Pz;rintro r V8 l8 g8;have KK:lf V8 r fullSp:=g8;obtain ⟨_,_,_,_,_,_,_,_,_,_,_,_,_,_,rfl,-⟩:=g8;refine ⟨_,_,_,_,_,_,_,_,_,_,_,_,_,_,_,_,rfl,fun V9 l9 RK SF WW=>?_⟩;have Fz:=l7.trans (l8.trans l9);have Q:=v.trans Fz;have lS:DC V9 (some ⟨RK,0,none⟩) 1 [fullSp]:=Al SF (KK.le l9);obtain ⟨xs,x1,G,P⟩:=lst_cells (hA.le Q fun _ _ g=>RLv.le g Q) (by decide);obtain ⟨ys,y1,y2,y3⟩:=lst_cells (hB.le Q fun _ _ g=>RLv.le g Q) (by decide);refine ⟨xs,x1,G,by omega,Nat.le_refl _,by simp,G,row_ones P G,fun XI a9 Qz b0 g1 g2=>⟨ys,y1,y2,by omega,g1,by simp;omega,y2,row_ones y3 y2,fun XK b4 QA b5 g3 g4=>?_⟩⟩;have Zj:Row 6 RLv V9 ((([]:List Value).take (0*6)++xs++Qz).take ((0+A.length)*6)++ys++QA) (A++B):=Hc rfl P y3;have XG:∀l∈A++B,Bd l:=fun l h=>(List.mem_append.1 h).elim (bA l) (bB l);have YX:∀l∈A++B,okL l=true:=fun l h=>(List.mem_append.1 h).elim (kA l) (kB l);have XS:(0+A.length)+B.length=(A++B).length:=by rw [List.length_append];omega
 have b6:(A++B).length<=2000:=by rw [List.length_append];omega
 generalize (([]:List Value).take (0*6)++xs++Qz).take ((0+A.length)*6)++ys++QA=row at *;rw [XS];have hlen:=@GP l (A++B);generalize A++B=C at *;refine ⟨fun z V'=>∃(j:Nat)(ss:List Sp),z.2.2.2=(j:Int)/\j<=C.length/\Bh ss/\DC V' z.1 z.2.1 ss/\iP l C [fullSp]=iP l (C.drop j) ss,fun z=>C.length-z.2.2.2.toNat,⟨(_,_,_,_),by and_intros<;>rfl,0,[fullSp],rfl,Nat.zero_le _,.inr ⟨_,rfl,bu,EE _ (by omega),EE _ (by omega)⟩,lS,by rw [List.drop_zero]⟩,?_⟩;rintro ⟨zp,zn,zc,zi⟩ b7 K ⟨j,ss,F,a1,R,S,o⟩;dsimp only at F S ⊢;subst F;have GM:=Z.trans (Fz.trans K);refine ⟨by trivial,fun b=>?_,fun b=>?_⟩;rotate_left
 ·have b:¬(j:Int)<C.length:=of_decide_eq_false b;obtain rfl:j=C.length:=by omega
  rw [List.drop_length] at o;have o:iP l C [fullSp]=ss:=o;rw [o] at hlen;have hn:=S.len;subst hn;refine ⟨fun h Bk iO=>?_,fun h=>⟨((i+1:Nat):Int),by (try dsimp only);omega,by and_intros<;>rfl,i+1,rfl,y,c ?_⟩⟩
  ·have h:((ss.length:Nat):Int)>0:=of_decide_eq_true h;rw [Pz (by rw [←hlen];exact decide_eq_true (by omega))]
  ·have h:¬((ss.length:Nat):Int)>0:=of_decide_eq_false h;rw [←hlen];exact decide_eq_false (by omega)
 have b:(j:Int)<C.length:=of_decide_eq_true b;have d:j<C.length:=by omega
 have wj:i64.wrap ((j:Int)+1)=((j+1:Nat):Int):=by rw [i64w (by omega)];rfl
 rw [wj,Int.toNat_natCast];have ed:C.drop j=C[j]::C.drop (j+1):=List.drop_eq_getElem_cons d;rw [ed] at o;obtain ⟨cs,h6,I,SR,RO,-⟩:=FR (Zj.le fun _ _ g=>RLv.le g K) (by decide) d;have D:=XG _ (List.getElem_mem d);have km:=YX _ (List.getElem_mem d);generalize C[j]=m at *;obtain ⟨_,_,_,_,_,_,_,_,_,_,_,_,ex⟩:=rlv_shape I;have ex:=congrArg Array.toList (Value.agg.inj ex);dsimp only at ex;subst ex;refine ⟨⟨by omega,by omega⟩,_,_,_,_,_,_,_,_,_,_,_,_,⟨by rw [Nat.zero_add];exact SR,by rw [Nat.zero_add];exact RO⟩,fun b8 x=>(oJ (RLv.le Y (GM.trans x)) (RLv.le I x) E.szl D.szl (by omega)).mono ?_⟩;rintro r b9 a3 rfl;have Mc:=x.trans a3;have XU:iP l (m::C.drop (j+1)) ss=if ph l m=true then iP l (C.drop (j+1)) (bX 2 ss (bX 2 [fullSp] (cw l m))) else iP l (C.drop (j+1)) ss:=rfl;rw [XU,K9] at o;refine ⟨_,rfl,fun hb=>⟨(zp,zn,zc,((j+1:Nat):Int)),by (try dsimp only);omega,by and_intros<;>rfl,j+1,ss,rfl,d,R,S.le Mc,by rw [o,hb];rfl⟩,fun hb c0 a4=>hZ.mono ?_⟩;rw [hb] at o;have o:iP l C [fullSp]=iP l (C.drop (j+1)) (bX 2 ss (bX 2 [fullSp] (cw l m))):=o;rintro r a5 c_ gF;have X0:lf a5 r fullSp:=gF;obtain ⟨_,_,_,_,_,_,_,_,_,_,_,_,_,_,rfl,-⟩:=gF;have IH:=Mc.trans (a4.trans c_);refine ⟨_,_,_,_,_,_,_,_,_,_,_,_,_,_,_,_,rfl,fun c4 T=>(wT (l:=l) (s:=fullSp) ⟨_,_,_,_,_,_,_,_,_,_,_,_,_,_,_,_,_,_,_,_,_,_,_,_,_,_,rfl,RLv.le Y (GM.trans (IH.trans T)),X0.le T⟩ (RLv.le I (IH.trans T)) nz E D bu.1 ⟨EE _ (by omega),EE _ (by omega)⟩).mono ?_⟩;rintro r ll du ⟨q1,w1,f1,q2,w2,f2,rfl,hX,-⟩;have PE:=IH.trans (T.trans du);unfold vD at hX
 have hH:∀s∈bX 2 [fullSp] (cw l m),s.sz 1000000:=fun s hs=>by
  rcases Ik s hs with rfl|h
  ·exact ⟨EE _ (by omega),EE _ (by omega)⟩
  ·have g:=Fq E D 1 s h;exact ⟨g.1.mono (by omega),g.2.mono (by omega)⟩
 have c5:=m_ bu.1 l m;have a6:=R.step E D;generalize bX 2 [fullSp] (cw l m)=H at *;have L:=hX.len;rw [List.length_map] at L;subst L;refine ⟨_,_,_,_,_,_,rfl,fun z V'=>∃k:Nat,z.2.2.2=(k:Int)/\k<=H.length/\GR 8 lf V' z.1 z.2.1 z.2.2.1 (H.take k),fun z=>H.length-z.2.2.2.toNat,⟨(0,0,[],0),by and_intros<;>rfl,0,rfl,Nat.zero_le _,GR.nil⟩,?_⟩;rintro ⟨u1,u2,us,u4⟩ ny cM ⟨k,ek,c6,q⟩;dsimp only at ek q ⊢;subst ek;refine ⟨by trivial,fun b=>?_,fun b oD dz RM SG=>?_⟩
 ·have b:(k:Int)<H.length:=of_decide_eq_true b;have t:k<H.length:=by omega
  have wk:i64.wrap ((k:Int)+1)=((k+1:Nat):Int):=by rw [i64w (by omega)];rfl
  rw [wk,Int.toNat_natCast];obtain ⟨YW,_,_,_,_,_,_,_,_,_,_,_,_,_,_,_,_,_,_,_,_,_,_,_,_,_,_,XF,a7,t0,t1,t2,t3,t4,t5,t6,t7,t8,t9,t10,t11,t12,t13,-,gs⟩:=K7 (hX.le cM fun _ _ g=>F8.le g cM) (i:=k) (by rw [List.length_map];exact t);rw [List.getElem_map] at t12 t13 gs;have O:H.take (k+1)=H.take k++[H[k]]:=(List.take_append_getElem t).symm;have lx:=q.len;rw [List.length_take] at lx;generalize H[k]=u at *;dsimp only at t12 t13 gs;refine ⟨YW,⟨by omega,by omega⟩,_,_,_,_,_,_,_,_,_,_,_,_,_,_,_,_,_,_,_,_,_,_,_,_,_,_,_,_,XF,a7,t0,t1,t2,t3,t4,t5,t6,t7,t8,t9,t10,t11,t12,t13,by omega,q.le,q.cap,rfl,Tz,fun sp c' W X=>⟨(u1+1,c',_,((k+1:Nat):Int)),by (try dsimp only);omega,by and_intros<;>rfl,k+1,rfl,t,?_⟩⟩;rw [O];exact q.snoc (a:=u) rfl gs (by decide) W X
 have b:¬(k:Int)<H.length:=of_decide_eq_false b;obtain rfl:k=H.length:=by omega
 rw [List.take_length] at q;have e1:=q.len;have f1:=q.le;have M:Lst 8 lf oD (mA RM u2) H.length H:=Lst.of_mrow SG (q.row.le fun _ _ g=>lf.le g dz) (by decide) (by omega);rw [←e1] at M;have PF:=PE.trans (cM.trans dz);refine (gU (op:=2) (la':=ss) (lb':=H) (S.le PF) (mK M) (by have:=R.len;omega) (k:=1000000) R.sz hH (by omega)).mono ?_;rintro r rZ dY ⟨Ze,Y6,XO,rfl,hR⟩;exact ⟨_,_,_,rfl,fun c7=>⟨(Ze,Y6,XO,((j+1:Nat):Int)),by (try dsimp only);omega,by and_intros<;>rfl,j+1,_,rfl,d,a6,hR,o⟩⟩
theorem c_Cell_Touches {V:View}{cp dp:OA}{cn cc dn dc:Nat}{c d:List Sd}(h:Lst 17 RSd V cp cn c)(h':Lst 17 RSd V dp dn d)(hn:c.length<=100000)(hn':d.length<=100000) :
  Acts prog 73 #[.slice cp cn cc,.slice dp dn dc] V fun r V'=>r=.bool (touchC c d):=by
 obtain rfl:=h.len;obtain rfl:=h'.len;refine vc_geo_Cell_Touches cp _ cc dp _ dc V _ ⟨fun z _=>∃j:Nat,z=(j:Int)/\j<=c.length/\∀s∈c.take j,∀u∈d,ovB s.1 s.2 u.1 u.2=false,fun z=>(c.length-z).toNat,⟨0,by and_intros<;>first|rfl|trivial,0,rfl,Nat.zero_le _,(fun s f=>by rw [List.take_zero] at f;cases f)⟩,?_⟩;rintro z V1 n ⟨j,rfl,R,e⟩;refine ⟨by trivial,fun b=>?_,fun b V6 l6=>?_⟩;rotate_left
 ·have b:¬(j:Int)<c.length:=of_decide_eq_false b;obtain rfl:j=c.length:=by omega
  rw [List.take_length] at e
  have:touchC c d=false:=by
   unfold touchC;rw [List.any_eq_false];intro s f;rw [Bool.not_eq_true,List.any_eq_false];intro u hu;rw [e s f u hu];exact Bool.false_ne_true
  rw [this]
 have b:(j:Int)<c.length:=of_decide_eq_true b;have o:j<c.length:=by omega
 have wr:i64.wrap ((j:Int)+1)=((j+1:Nat):Int):=by rw [i64w (by omega)];rfl
 rw [wr,Int.toNat_natCast];obtain ⟨T,a1,a2,a3,a4,a5,a6,a7,a8,a9,b1,b2,b3,b4,b5,b6,a,W,X,Y,Z,k3,k4,k5,k6,k7,k8,k9,t,v,w,x,y,A,B,p⟩:=lst_rsd (h.le n fun _ _ g=>RSd.le g n) o;have hm:=List.getElem_mem o;have et:c.take (j+1)=c.take j++[c[j]]:=(List.take_append_getElem o).symm;generalize c[j]=S at *;refine ⟨T,⟨by omega,by omega⟩,_,_,_,_,_,_,_,_,_,_,_,_,_,_,_,_,_,a,W,X,Y,Z,k3,k4,k5,k6,k7,k8,k9,t,v,w,x,y,A,B,fun z _=>∃i:Nat,z=(i:Int)/\i<=d.length/\∀u∈d.take i,ovB S.1 S.2 u.1 u.2=false,fun z=>(d.length-z).toNat,⟨0,by and_intros<;>first|rfl|trivial,0,rfl,Nat.zero_le _,(fun s f=>by rw [List.take_zero] at f;cases f)⟩,?_⟩;rintro z V2 C ⟨i,rfl,a0,m⟩;refine ⟨by trivial,fun b=>?_,fun b=>⟨((j+1:Nat):Int),by first|omega|(dsimp only;omega),by and_intros<;>first|rfl|trivial,j+1,rfl,o,fun s f u hu=>?_⟩⟩;rotate_left
 ·have b:¬(i:Int)<d.length:=of_decide_eq_false b;obtain rfl:i=d.length:=by omega
  rw [List.take_length] at m;rw [et] at f;rcases List.mem_append.1 f with g|g
  ·exact e s g u hu
  ·rw [List.mem_singleton.1 g];exact m u hu
 have b:(i:Int)<d.length:=of_decide_eq_true b;have q:i<d.length:=by omega
 have D:i64.wrap ((i:Int)+1)=((i+1:Nat):Int):=by rw [i64w (by omega)];rfl
 rw [D,Int.toNat_natCast];obtain ⟨E,c1,c2,c3,c4,c5,c6,c7,c8,c9,d1,d2,d3,d4,d5,d6,aa,F,m0,m1,m2,m3,m4,m5,m6,m7,m8,m9,G,H,I,J,K,L,M,l⟩:=lst_rsd (h'.le (n.trans C) fun _ _ g=>RSd.le g (n.trans C)) q;have N:=List.getElem_mem q;have O:d.take (i+1)=d.take i++[d[i]]:=(List.take_append_getElem q).symm;generalize d[i]=U at *;refine ⟨E,⟨by omega,by omega⟩,_,_,_,_,_,_,_,_,_,_,_,_,_,_,_,_,_,aa,F,m0,m1,m2,m3,m4,m5,m6,m7,m8,m9,G,H,I,J,K,L,M,fun V3 Q=>(c_Fr_Overlap (k:=1000000) (p.1.le (C.trans Q)) (l.1.le Q) (p.2.1.szl.up (by omega)) ⟨p.2.2.1.mono (by omega),p.2.2.2.mono (by omega)⟩ (l.2.1.szl.up (by omega)) ⟨l.2.2.1.mono (by omega),l.2.2.2.mono (by omega)⟩ (by omega)).mono ?_⟩;rintro r V4 l4 ⟨u,rfl,⟨x1,x2,x3,x4,x5,x6,x7,x8,x9,y1,y2,y3,y4,y5,y6,y7,y8,rfl⟩,-⟩;refine ⟨_,_,_,_,_,_,_,_,_,_,_,_,_,_,_,_,_,_,rfl,fun P V5 l5=>?_,fun P=>⟨((i+1:Nat):Int),by first|omega|(dsimp only;omega),by and_intros<;>first|rfl|trivial,i+1,rfl,q,fun u hu=>?_⟩⟩
 ·have:touchC c d=true:=by
   unfold touchC;exact List.any_eq_true.2 ⟨S,hm,List.any_eq_true.2 ⟨U,N,P⟩⟩
  rw [this]
 ·rw [O] at hu;rcases List.mem_append.1 hu with g|g
  ·exact m u g
  ·rw [List.mem_singleton.1 g];exact P
def rowP (f:Nat->Nat->Bool)(i k:Nat):List (Nat×Nat):=((List.range k).filter fun k=>decide (i<k)&&f i k).map fun k=>(i,k)
def pairsP (f:Nat->Nat->Bool)(n:Nat):Nat->List (Nat×Nat)
 | 0=>[]
 | i+1=>pairsP f n i++rowP f i n
theorem row_succ (f:Nat->Nat->Bool)(i k:Nat):rowP f i (k+1)=rowP f i k++(if i<k/\f i k=true then [(i,k)] else []):=by
 unfold rowP;rw [List.range_succ,List.filter_append,List.map_append];congr 1;by_cases c:i<k/\f i k=true
 ·rw [if_pos c,List.filter_cons_of_pos (by rw [decide_eq_true c.1,c.2];rfl)];rfl
 ·rw [if_neg c,List.filter_cons_of_neg (by
   rw [Bool.and_eq_true,decide_eq_true_eq];exact c)];rfl
theorem row_low (f:Nat->Nat->Bool)(i:Nat):∀k,k<=i+1->rowP f i k=[]
 | 0,_=>rfl
 | k+1,h=>by rw [row_succ,row_low f i k (by omega),if_neg (fun c=>by omega)];rfl
def emptyPart:List Sd×Bool:=([],false)
def touchAt (L:List (List Sd×Bool))(i k:Nat):Bool:=touchC (L.getD i emptyPart).1 (L.getD k emptyPart).1
theorem touchAt_get {L:List (List Sd×Bool)}{i k:Nat}(hi:i<L.length)(hk:k<L.length):touchAt L i k=touchC L[i].1 L[k].1:=by
 unfold touchAt;rw [List.getD_eq_getElem?_getD,List.getD_eq_getElem?_getD,List.getElem?_eq_getElem hi,List.getElem?_eq_getElem hk];rfl
def RPr (_V:View)(v:Value)(x:Nat×Nat):Prop:=v=.agg #[.int .i64 (x.1:Int),.int .i64 (x.2:Int)]
theorem row_len (f:Nat->Nat->Bool)(i k:Nat):(rowP f i k).length<=k:=by
 unfold rowP;rw [List.length_map];have a:=List.length_filter_le (fun k=>decide (i<k)&&f i k) (List.range k);rw [List.length_range] at a;exact a
theorem pairs_len (f:Nat->Nat->Bool)(n:Nat):∀i,(pairsP f n i).length<=i*n
 | 0=>Nat.zero_le _
 | i+1=>by
  unfold pairsP;rw [List.length_append,Nat.succ_mul];exact Nat.add_le_add (pairs_len f n i) (row_len f i n)
theorem c_cells_Neighbors {V:View}{v:Value}{root:Int}{l:List Nd}(hb:∀x∈l,Bd x.ln)(h:AT V v root l){y z:Value}(hy:Sent V 0 y)(hz:Sent V 1 z)(sy:SErr y)(sz:SErr z) :
  Acts prog 31 #[v] V fun r V'=>(ofT l root=none->r=.tuple #[.slice none 0 0,y])/\∀t,ofT l root=some t->(1024<t.depth->r=.tuple #[.slice none 0 0,z])/\(t.depth<=1024->∃p n c,r=.tuple #[.slice p n c,.nilIface]/\Lst 2 RPr V' p n (pairsP (touchAt (partsC t [])) (partsC t []).length (partsC t []).length)):=by
 have h0:=h;obtain ⟨q,n,c,rfl,-⟩:=h;have E:∀{y:Value},SErr y->IsIface y/\isNilI y=false:=fun h=>by obtain ⟨a,rfl⟩:=h;exact ⟨.inr ⟨_,_,rfl⟩,rfl⟩
 refine vc_cells_Neighbors root q n c V _ fun V1 F=>(c_cells_parts hb (h0.le F) (hy.le F) (hz.le F)).mono ?_;rintro r V2 l2 ⟨h1,h2⟩;have a0:=F.trans l2
 cases e:ofT l root with
 | none=>
  obtain rfl:=h1 e;exact ⟨_,_,_,_,rfl,(E sy).1,fun _ V3 l3=>⟨fun _=>rfl,fun t m=>by cases m⟩,fun d=>by rw [(E sy).2] at d;cases d⟩
 | some t=>
  obtain ⟨g1,g2⟩:=h2 t e;by_cases hd:1024<t.depth
  ·obtain rfl:=g1 hd;exact ⟨_,_,_,_,rfl,(E sz).1,fun _ V3 l3=>⟨(fun k=>by cases k),fun t' m=>by cases m;exact ⟨fun _=>rfl,fun k=>by omega⟩⟩,fun d=>by rw [(E sz).2] at d;cases d⟩
  ·obtain ⟨p,n',c',rfl,J⟩:=g2 (by omega);have a3:=ofT_size e;have U:=parts_count (t:=t) (c:=[]);have o:=parts_len (t:=t) (c:=[]);obtain rfl:=J.len;refine ⟨_,_,_,_,rfl,.inl rfl,(fun d=>by cases d),fun _=>?_⟩;generalize eA:partsC t []=A at *;have hA:A.length<=65537:=by omega
   refine ⟨fun z V'=>∃j:Nat,z.2.2.2=(j:Int)/\j<=A.length/\GR 2 RPr V' z.1 z.2.1 z.2.2.1 (pairsP (touchAt A) A.length j),fun z=>A.length-z.2.2.2.toNat,⟨(0,0,[],0),by and_intros<;>first|rfl|trivial,0,rfl,Nat.zero_le _,GR.nil⟩,?_⟩;rintro ⟨w1,w2,ws,w⟩ V4 G ⟨j,W,a4,s⟩;dsimp only at W s ⊢;subst W;refine ⟨by trivial,fun b=>?_,fun b V9 l9 b1 K=>⟨(fun k=>by cases k),fun t' m=>⟨fun k=>by cases m;omega,fun _=>?_⟩⟩⟩
   ·have b:(j:Int)<A.length:=of_decide_eq_true b;have u:j<A.length:=by omega
    have wr:i64.wrap ((j:Int)+1)=((j+1:Nat):Int):=by rw [i64w (by omega)];rfl
    rw [wr,Int.toNat_natCast];obtain ⟨ps,pq,pm,pe,pb,ad,ha,k0,K,gl,a5,-⟩:=lst_prt (J.le G fun _ _ g=>RPrt.le g G) u;have B:=o _ (List.getElem_mem u);have eP:pairsP (touchAt A) A.length (j+1)=pairsP (touchAt A) A.length j++rowP (touchAt A) j A.length:=rfl;refine ⟨ps,⟨by omega,by omega⟩,pq,pm,pe,pb,ad,ha,k0,K,fun z V'=>∃k:Nat,z.2.2.2=(k:Int)/\j+1<=k/\k<=A.length/\GR 2 RPr V' z.1 z.2.1 z.2.2.1 (pairsP (touchAt A) A.length j++rowP (touchAt A) j k),fun z=>A.length-z.2.2.2.toNat,⟨(w1,w2,ws,((j+1:Nat):Int)),by and_intros<;>first|rfl|trivial,j+1,rfl,Nat.le_refl _,u,by rw [row_low _ _ _ (Nat.le_refl _),List.append_nil];exact s⟩,?_⟩;rintro ⟨L,X,xs,xw⟩ V5 H ⟨k,Y,jk,a6,f⟩;dsimp only at Y f ⊢;subst Y;refine ⟨by trivial,fun b=>?_,fun b=>⟨(L,X,xs,((j+1:Nat):Int)),by dsimp only;omega,by and_intros<;>first|rfl|trivial,j+1,rfl,u,?_⟩⟩
    ·have b:(k:Int)<A.length:=of_decide_eq_true b;have C:k<A.length:=by omega
     have wk:i64.wrap ((k:Int)+1)=((k+1:Nat):Int):=by rw [i64w (by omega)];rfl
     rw [wk,Int.toNat_natCast];obtain ⟨M,N,O,P,a7,Q,D,R,a8,S,Z,-⟩:=lst_prt (J.le (G.trans H) fun _ _ g=>RPrt.le g (G.trans H)) C;have i:=o _ (List.getElem_mem C);have et:=row_succ (touchAt A) j k;have ef:=touchAt_get u C;have lx:=f.len;have lp:=pairs_len (touchAt A) A.length j;have lr:=row_len (touchAt A) j k;have lm:j*A.length<=65537*65537:=Nat.mul_le_mul (by omega) hA;rw [List.length_append] at lx;simp only [List.length_nil,Nat.zero_add] at B i
     have o2:∀{x y:Int},∀v∈([.int .i64 x,.int .i64 y]:List Value),v.oneCell'=true:=fun v hv=>by
      simp only [List.mem_cons,List.not_mem_nil,or_false] at hv;rcases hv with rfl|rfl<;>rfl
     refine ⟨M,⟨by omega,by omega⟩,by rw [D];rfl,N,O,P,⟨Q.add 0,by rw [D];rfl,R⟩,fun V6 I=>(c_Cell_Touches (gl.le (H.trans I) fun _ _ g=>RSd.le g (H.trans I)) (S.le I fun _ _ g=>RSd.le g I) (by omega) (by omega)).mono ?_⟩;rintro r V7 l7 rfl;rw [←ef];refine ⟨_,rfl,fun T=>⟨by omega,f.le,f.cap,rfl,o2,fun a9 c1 a1 a2=>⟨(L+1,c1,_,((k+1:Nat):Int)),by dsimp only;omega,by and_intros<;>first|rfl|trivial,k+1,rfl,by omega,C,?_⟩⟩,fun T=>⟨(L,X,xs,((k+1:Nat):Int)),by dsimp only;omega,by and_intros<;>first|rfl|trivial,k+1,rfl,by omega,C,?_⟩⟩
     ·dsimp only;rw [et,if_pos ⟨by omega,T⟩,←List.append_assoc];exact (f.mono (V':=V7) fun _ _ g=>g).snoc (a:=(j,k)) rfl rfl (by decide) a1 a2
     ·dsimp only;rw [et,if_neg (fun g=>by rw [T] at g;exact Bool.false_ne_true g.2),List.append_nil];exact f.mono fun _ _ g=>g
    ·have b:¬(k:Int)<A.length:=of_decide_eq_false b;obtain rfl:k=A.length:=by omega
     dsimp only;rw [eP];exact f
   ·have b:¬(j:Int)<A.length:=of_decide_eq_false b;obtain rfl:j=A.length:=by omega
    cases m;rw [eA];have e1:=s.len;have f1:=s.le;subst e1;exact ⟨_,_,_,rfl,Lst.of_mrow K (s.row.le fun _ _ g=>g) (by decide) f1⟩
theorem yX (f:Nat->Nat->Bool)(n i:Nat):∀j,∃rest,pairsP f n (i+j)=pairsP f n i++rest
 | 0=>⟨[],by rw [List.append_nil];rfl⟩
 | j+1=>by
  obtain ⟨r,h⟩:=yX f n i j;refine ⟨r++rowP f (i+j) n,?_⟩;show pairsP f n (i+j)++rowP f (i+j) n=_;rw [h,List.append_assoc]
theorem FP (f:Nat->Nat->Bool)(i k:Nat):∀j,∃rest,rowP f i (k+j)=rowP f i k++rest
 | 0=>⟨[],by rw [List.append_nil];rfl⟩
 | j+1=>by
  obtain ⟨r,h⟩:=FP f i k j;refine ⟨r++(if i<k+j/\f i (k+j)=true then [(i,k+j)] else []),?_⟩;show rowP f i (k+j+1)=_;rw [row_succ,h,List.append_assoc]
theorem Jp {f:Nat->Nat->Bool}{n i k:Nat}(hi:i<n)(hk:k<n)(h:i<k)(hf:f i k=true):∃rest,pairsP f n n=(pairsP f n i++rowP f i k)++(i,k)::rest:=by
 obtain ⟨c,b⟩:=yX f n (i+1) (n-(i+1));obtain ⟨d,a⟩:=FP f i (k+1) (n-(k+1));rw [show i+1+(n-(i+1))=n by omega] at b;rw [show k+1+(n-(k+1))=n by omega] at a;rw [row_succ,if_pos ⟨h,hf⟩] at a;have e:pairsP f n (i+1)=pairsP f n i++rowP f i n:=rfl;refine ⟨d++c,?_⟩;rw [b,e,a];simp
theorem IU {V:View}{p:OA}{n:Nat}{al:List (Nat×Nat)}(h:Lst 2 RPr V p n al){i:Nat}(hi:i<al.length) :
  p.isSome=true/\(addrAdd p (i*2)).isSome=true/\(∃a,addrAdd (addrAdd p (i*2)) 0=some a/\V.at a (.int .i64 (al[i].1:Int)))/\∃a,addrAdd (addrAdd p (i*2)) 1=some a/\V.at a (.int .i64 (al[i].2:Int)):=by
 obtain ⟨e,b,xs,f,d,c⟩:=h.at_ i hi;have ex:=congrArg Array.toList (Value.agg.inj d);dsimp only at ex;subst ex;rw [b];refine ⟨?_,rfl,⟨_,rfl,c 0 _ rfl⟩,_,rfl,c 1 _ rfl⟩
 cases p with
 | none=>cases b
 | some a=>rfl
theorem kH {V:View}{y z:Value}(hy:Sent V 0 y)(hz:Sent V 1 z)(sy:SErr y)(sz:SErr z){lp:OA}{ln lc:Nat}(hr:Kf V lp ln)(hc:ln<=lc) :
  Acts prog 6 #[.slice lp ln lc] V fun r V'=>r=.bool true:=by
 refine kj lp ln lc V _ fun V1 l1=>(BG hc).mono ?_;rintro r V2 l2 ⟨a0,rfl,a4,hb⟩;refine ⟨a0,_,_,_,_,rfl,a4,hb,fun V3 l3 a5 e4 h4=>?_⟩
 have a6:V1.Le V3:=fun b o h=>l3 b o ⟨fun hh=>hh.elim (l2 b o h).1 fun e=>by
  have a:b<V1.w.heap.size:=by
   rcases Nat.lt_or_ge b V1.w.heap.size with h'|h'
   ·exact h'
   ·have:=h.2;rw [Array.getElem?_eq_none h'] at this;cases this
  have:=e.1;omega,(l2 b o h).2⟩
 have I:min ln 400<=400:=Nat.min_le_right _ _;have hr:Kf V lp (min ln 400):=fun i d=>hr i (Nat.lt_of_lt_of_le d (Nat.min_le_left _ _));generalize min ln 400=n at *;have Ko:V.Le V3:=l1.trans a6;refine (MR 4 (V:=V3.lend [a5]) (by omega) (hr.le fun b o h=>Ko b o h) I e4 ⟨by simp,h4⟩ (Int.le_refl 0)).mono ?_;rintro r Y l4 ⟨qa,t,LJ,rfl,Q4,B,c7,t1,a7⟩;have J:V.Le Y:=fun b o h=>l4 b o (Ko b o h);have Y7:ofT (wr 0 t) (rt 0 t)=some t:=NK (tB B) (by omega);have XH:∀x∈wr 0 t,Bd x.ln:=uQ (NL B);have c8:=lP t;have c6:=parts_count (t:=t) (c:=[]);have a8:=parts_len (t:=t) (c:=[]);have a9:=Jq B;have D:∀p∈partsC t [],∃M',CanC M' p.1/\∀m∈M',okL m=true:=mM (P:=fun l=>okL l=true) (fun l h=>ok_rev h) (fun l h=>h) CanC.nil (fun x E=>by cases E) (tB B);have Iw:=nO (t:=t) CanC.nil (fun x E=>by cases E) (tB B);have XV:=BI B;have c9:=cells_len t [];have YE:=pairs_len (touchAt (partsC t [])) (partsC t []).length (partsC t []).length;refine ⟨_,rfl,_,_,_,_,a7,fun V5 l5=>(wU (RW.le (V:=Y) (V':=V5) l5 Q4) B (by omega)).mono ?_⟩;rintro r V6 l6 hA;have Q2:=hA;obtain ⟨pa,na,ca,rfl,-⟩:=hA;have K:Y.Le V6:=fun b o h=>l6 b o (l5 b o h);have Ed:=J.trans K;refine ⟨_,_,_,_,rfl,fun V7 Z=>(c_cells_Neighbors XH (Q2.le Z) (hy.le (Ed.trans Z)) (hz.le (Ed.trans Z)) sy sz).mono ?_⟩;rintro r V8 l8 ⟨-,h3⟩;obtain ⟨p3,n3,c3,rfl,L⟩:=(h3 t Y7).2 (by omega);have Q8:=K.trans (Z.trans l8);have Mb:=J.trans Q8;refine ⟨_,_,_,_,rfl,fun V9 l9=>(c_ref14_Cells t (ls:=[]) (RW.le (V:=Y) (V':=V9) (Q8.trans l9) Q4) B Lst.nil (fun x E=>by cases E) (fun x E=>by cases E) (by simp;omega)).mono ?_⟩;rintro r u b0 ⟨bm,O,n',c',w1,w2,rfl,G⟩;have R:V8.Le (u.shut.hideG (O≠[]) bm):=l9.trans (le_moved (V:=V9) (V':=u) b0 fun h=>.inl (w2 h));have F:GR 2 RCe (u.shut.hideG (O≠[]) bm) n' c' O (cellsR t []):=G.mono fun _ _ g=>RCe.le g fun b o h=>h;clear G;refine ⟨bm,O,w1,fun h=>.inl (w2 h),none,n',c',rfl,?_⟩;generalize u.shut.hideG (O≠[]) bm=W at R F ⊢;have e1:=F.len;rw [XV] at F e1;rw [List.length_map] at e1;have SW:=L.len
 have q:∀(i:Nat)(d:i<(partsC t []).length),(∀l∈(partsC t [])[i].1.map Prod.fst,Bd l)/\(∀l∈(partsC t [])[i].1.map Prod.fst,okL l=true)/\((partsC t [])[i].1.map Prod.fst).length<=1000:=fun i d=>by
  obtain ⟨M,hM,j⟩:=D _ (List.getElem_mem d);have b3:=a9 _ (List.getElem_mem d);have b4:=a8 _ (List.getElem_mem d);refine ⟨fun l hl=>?_,CX hM j,by rw [List.length_map];simp only [List.length_nil] at b4;omega⟩;obtain ⟨s,hs,rfl⟩:=List.mem_map.1 hl;exact b3 s hs
 have SY:∀(i k:Nat)(d:i<(partsC t []).length)(j:k<(partsC t []).length),i<k->Ah ((partsC t [])[i].1.map Prod.fst) ((partsC t [])[k].1.map Prod.fst)=touchAt (partsC t []) i k:=fun i k d j a=>by
  obtain ⟨M,hM,Yx⟩:=D _ (List.getElem_mem d);obtain ⟨N,hN,b5⟩:=D _ (List.getElem_mem j);rw [touchAt_get d j];exact (Hl hM Yx hN b5 (List.pairwise_iff_getElem.1 Iw i k d j a)).symm
 have S:=fun i k=>@Jp (touchAt (partsC t [])) (partsC t []).length i k;have Pm:=fun i=>pairs_len (touchAt (partsC t [])) (partsC t []).length i;have H:=fun i k=>row_len (touchAt (partsC t [])) i k;have b6:=fun i k=>row_succ (touchAt (partsC t [])) i k;have b7:=fun i=>row_low (touchAt (partsC t [])) i (i+1) (Nat.le_refl _);have b8:∀i,pairsP (touchAt (partsC t [])) (partsC t []).length (i+1)=pairsP (touchAt (partsC t [])) (partsC t []).length i++rowP (touchAt (partsC t [])) i (partsC t []).length:=fun i=>rfl;have b9:pairsP (touchAt (partsC t [])) (partsC t []).length 0=[]:=rfl;generalize touchAt (partsC t [])=f at *;generalize partsC t []=A at *;subst e1 SW;have c0:A.length<=20:=by omega
 have hq:∀i k,i<=A.length->k<=A.length->(pairsP f A.length i++rowP f i k).length<=500:=fun i k h1 h2=>by
  rw [List.length_append];have a1:=Pm i;have a2:=H i k;have a3:i*A.length<=20*20:=Nat.mul_le_mul (by omega) c0;omega
 refine ⟨fun z _=>∃i:Nat,z.2=(i:Int)/\i<=A.length/\z.1=((pairsP f A.length i).length:Int),fun z=>A.length-z.2.toNat,⟨(0,0),by and_intros<;>rfl,0,rfl,Nat.zero_le _,by rw [b9];rfl⟩,?_⟩;rintro ⟨za,zi⟩ d0 v ⟨i,ei,c1,T⟩;dsimp only at ei T ⊢;subst ei T;refine ⟨by trivial,fun a=>?_,fun a oD dz=>(wN (hy.le (Mb.trans (R.trans (v.trans dz)))) (hz.le (Mb.trans (R.trans (v.trans dz)))) sy sz).mono ?_⟩;rotate_left
 ·rintro r rZ dY rfl;have a:¬(i:Int)<A.length:=of_decide_eq_false a;obtain rfl:i=A.length:=by omega
  exact ⟨_,rfl,fun _=>⟨.inl rfl,fun _ Bk iO=>by simp,(fun h=>by cases h)⟩,(fun h=>by cases h)⟩
 have a:(i:Int)<A.length:=of_decide_eq_true a;have d:i<A.length:=by omega
 have wi:i64.wrap ((i:Int)+1)=((i+1:Nat):Int):=by rw [i64w (by omega)];rfl
 rw [wi];have Nu:=Mb.trans (R.trans v);obtain ⟨q1,m1,x1,-,-,g1,Vx⟩:=Ir F (i:=i) (by rw [List.length_map];exact d);rw [List.getElem_map] at Vx;obtain ⟨ba,ka,la⟩:=q i d;refine ⟨fun z _=>∃k:Nat,z.2=(k:Int)/\i+1<=k/\k<=A.length/\z.1=((pairsP f A.length i++rowP f i k).length:Int),fun z=>A.length-z.2.toNat,⟨(_,_),by and_intros<;>rfl,i+1,rfl,Nat.le_refl _,d,by rw [b7,List.append_nil]⟩,?_⟩;rintro ⟨za,zk⟩ d3 c2 ⟨k,ek,ik,c4,T⟩;dsimp only at ek T ⊢;subst ek T;refine ⟨by trivial,fun a=>?_,fun a=>⟨(_,((i+1:Nat):Int)),by (try dsimp only);omega,by and_intros<;>rfl,i+1,rfl,d,?_⟩⟩;rotate_left
 ·have a:¬(k:Int)<A.length:=of_decide_eq_false a;obtain rfl:k=A.length:=by omega
  rw [b8]
 have a:(k:Int)<A.length:=of_decide_eq_true a;have j:k<A.length:=by omega
 have wk:i64.wrap ((k:Int)+1)=((k+1:Nat):Int):=by rw [i64w (by omega)];rfl
 have VX:=hq i k c1 c4;have wa:i64.wrap (((pairsP f A.length i++rowP f i k).length:Int)+1)=(((pairsP f A.length i++rowP f i k).length+1:Nat):Int):=by rw [i64w (by omega)];rfl
 rw [wk,wa];obtain ⟨q2,m2,x2,-,-,g2,Q1⟩:=Ir F (i:=k) (by rw [List.length_map];exact j);rw [List.getElem_map] at Q1;obtain ⟨bb,kb,lb⟩:=q k j;have en:=SY i k d j (by omega);have U:=v.trans c2;rw [Int.toNat_natCast,Int.toNat_natCast,Int.toNat_natCast];refine ⟨⟨by omega,by omega⟩,F.le,q1,m1,x1,g1,⟨by omega,by omega⟩,F.le,q2,m2,x2,g2,fun d4 X=>(oM (Vx.le (U.trans X) fun _ _ g=>RLv.le g (U.trans X)) (Q1.le (U.trans X) fun _ _ g=>RLv.le g (U.trans X)) ba ka bb kb la lb).mono ?_⟩;rintro r d5 c_ rfl;rw [en];have Tn:=R.trans (U.trans (X.trans c_));have es:=b6 i k;refine ⟨_,rfl,fun C=>⟨(_,((k+1:Nat):Int)),by (try dsimp only);omega,by and_intros<;>rfl,k+1,rfl,by omega,j,?_⟩,fun C=>?_⟩
 ·have C:f i k=false:=by simpa using C
  rw [es,if_neg (fun g=>by rw [C] at g;exact Bool.false_ne_true g.2),List.append_nil]
 have C:f i k=true:=by simpa using C
 obtain ⟨rest,er⟩:=S i k d j (by omega) C;rw [if_pos ⟨by omega,C⟩] at es;have c5:(pairsP f A.length i++rowP f i (k+1)).length=(pairsP f A.length i++rowP f i k).length+1:=by rw [es,←List.append_assoc,List.length_append];rfl
 generalize pairsP f A.length i++rowP f i k=P at *;generalize pairsP f A.length A.length=Q at *;subst er;have Yk:P.length<(P++(i,k)::rest).length:=by rw [List.length_append,List.length_cons];omega
 obtain ⟨is,Ok,⟨a1,b1,d1⟩,a2,b2,d2⟩:=IU (L.le Tn fun _ _ g=>g) Yk;have eg:(P++(i,k)::rest)[P.length]=(i,k):=by simp
 rw [eg] at d1 d2;refine ⟨fun h=>?_,fun _=>⟨is,⟨by omega,by omega⟩,Ok,by decide,_,⟨a1,b1,d1⟩,fun h=>by simp at h,fun _=>⟨is,⟨by omega,by omega⟩,Ok,by decide,_,⟨a2,b2,d2⟩,fun h=>by simp at h,fun _=>⟨(((P.length+1:Nat):Int),((k+1:Nat):Int)),by (try dsimp only);omega,by and_intros<;>rfl,k+1,rfl,by omega,j,by rw [c5]⟩⟩⟩⟩;have h:=of_decide_eq_true h;omega
end Go.Proofs.Tryz
