import Derived.Test.YtapnijmlbakblaaGreatDoorT16
import Derived.Test.YtapnijmlbakblaaGreatDoorT19
import Derived.Test.YtapnijmlbakblaaGreatDoorT17
import Derived.Test.YtapnijmlbakblaaGreatDoorT10
set_option linter.unusedVariables false
open Go.IntKind (i64 u64 u32)
namespace Go.Proofs.Tryz
open Go.Eng Go.Big
theorem se {V:View}{p:OA}{n:Nat}{fs:List (L3×Sp)}(h:oe V p n fs):jW 14 KY V p n fs:=⟨h.len,fun i b=>by
 obtain ⟨c,d,xs,a,e⟩:=h.at_ i b;refine ⟨c,d,xs,?_,a,e⟩;have a:xi V (.agg xs.toArray) fs[i].1 fs[i].2:=a;obtain ⟨_,_,_,_,_,_,_,_,_,_,_,_,_,_,_,_,_,_,_,_,_,_,_,_,_,_,ex⟩:=dz a;have ex:=congrArg Array.toList (Value.agg.inj ex);dsimp only at ex;subst ex;rfl⟩
theorem J9 {V:View}{xs:List Value}{x:L3×Sp}(h:KY V (.agg xs.toArray) x):∀v∈xs,v.oneCell'=true:=by
 obtain ⟨_,_,_,_,_,_,_,_,_,_,_,_,_,_,_,_,_,_,_,_,_,_,_,_,_,_,ex⟩:=dz h;have ex:=congrArg Array.toList (Value.agg.inj ex);dsimp only at ex;subst ex;exact Q8
theorem C0 {V:View}{bk:Nat}{xs:List Value}{ty:TypeId}{l:L3}{s:Sp}(hb:V.bC bk (.cells xs.toArray ty (0,0)))(hf:xi V (.agg xs.toArray) l s):oe V (some ⟨bk,0,none⟩) 1 [(l,s)]:=by
 refine ⟨rfl,fun i a=>?_⟩;obtain rfl:i=0:=by simpa using a
 refine ⟨⟨bk,0,none⟩,by simp [ah,add_zero'],_,hf,fun j x b=>?_⟩;rw [add_zero'];exact eO hb b
theorem UX {α:Type}{sz:Nat}{R:View->Value->α->Prop}{V:View}{xs ys zs:List Value}{a b c:α}(hx:xs.length=sz)(hy:ys.length=sz)(hz:zs.length=sz)(ha:R V (.agg xs.toArray) a)(hb:R V (.agg ys.toArray) b)(hc:R V (.agg zs.toArray) c)(hs:0<sz):Row sz R V (xs++ys++zs) [a,b,c]:=by
 have d:=(Row.nil (sz:=sz) (R:=R) (V:=V) (vs:=[])).snoc (sp:=[]) hx ha hs;simp only [List.take_nil,List.nil_append,List.append_nil] at d;have e:=d.snoc (sp:=[]) hy hb hs;rw [List.append_nil,List.take_of_length_le (by rw [hx];exact Nat.le_of_eq (Nat.one_mul _).symm)] at e;have f:=e.snoc (sp:=[]) hz hc hs;rw [List.append_nil,List.take_of_length_le (by rw [List.length_append,hx,hy];show sz+sz<=2*sz;omega)] at f;exact f
set_option maxHeartbeats 1000000 in
theorem sQ {V:View}{lp:OA}{ln lc:Nat}(hr:Gz V lp ln)(hc:ln<=lc) :
  ae prog 6 #[.slice lp ln lc] V fun r V'=>r=.bool true:=by
 refine lx lp ln lc V _ fun V1 l1=>(BT hc).mono ?_;rintro r V2 l2 ⟨b6,rfl,N,hb⟩;refine ⟨b6,_,_,_,_,rfl,N,hb,fun V3 l3 Yp e4 h4=>?_⟩;have W:V1.Le V3:=Je l2 N l3;have j:min ln 400<=400:=Nat.min_le_right _ _;have hr:Gz V lp (min ln 400):=fun i O=>hr i (Nat.lt_of_lt_of_le O (Nat.min_le_left _ _));generalize min ln 400=n at *;have WZ:V.Le V3:=l1.trans W;refine (Yt (V:=V3.ax [Yp]) (hr.le fun b o h=>WZ b o h) j e4 ⟨by simp,h4⟩ (Int.le_refl 0)).mono ?_;rintro r V4 l4 ⟨p,u,M0,gf,Y,w,I,t1,Z⟩;have LA:=gf;obtain ⟨_,_,_,_,_,_,_,_,_,_,_,_,_,_,_,_,_,_,_,_,_,_,_,_,_,_,rfl⟩:=CZ gf;have I5:V.Le V4:=fun b o h=>l4 b o (WZ b o h);clear hb e4 h4 l3 W N l2;obtain ⟨K,hK⟩:∃K:Nat,K=5000:=⟨5000,rfl⟩;rw [←hK] at w I;refine ⟨_,_,_,_,_,_,_,_,_,_,_,_,_,_,_,_,_,_,_,_,_,_,_,_,_,_,_,_,rfl,_,_,_,_,Z,fun V5 l5=>(uL (LA.le fun b o h=>l5 b o h) w I (by omega)).mono ?_⟩;rintro r V6 l6 ga;have Su:=ga;obtain ⟨_,_,_,_,_,_,_,_,_,_,_,_,_,_,_,_,_,_,_,_,_,_,_,_,_,_,rfl⟩:=dz ga;have KP:V.Le V6:=fun b o h=>l6 b o (l5 b o (I5 b o h));clear LA gf Z l5 l6;refine ⟨_,_,_,_,_,_,_,_,_,_,_,_,_,_,_,_,_,_,_,_,_,_,_,_,_,_,_,_,rfl,fun V7 l7 Ta e7 h7=>(Wh (V:=V7.ax [Ta]) (hr.le fun b o h=>l7 b o (KP b o h)) j e7 ⟨by simp,h7⟩ t1).mono ?_⟩;rintro r V8 l8 ⟨m,b8,gm,ZA,a0,t2,a4⟩;have WA:=gm;obtain ⟨_,_,_,_,_,_,_,_,_,_,_,_,rfl⟩:=gI gm;have W7:V6.Le V8:=fun b o h=>l8 b o (l7 b o h);obtain ⟨z1,z2,z3⟩:=a0.sz;have sm:eh K m:=⟨Sz.mono z1 (by omega),Sz.mono z2 (by omega),Sz.mono z3 (by omega)⟩;obtain ⟨d1,d2,d3⟩:=sm.ai (by omega);clear a0 z1 z2 z3;refine ⟨_,_,_,_,_,_,_,_,_,_,_,_,rfl,_,_,_,_,a4,fun V9 l9=>(rU (WA.le fun b o h=>l9 b o h) d1 d2 d3).mono ?_⟩;rintro r hZ a5 gl;have Sw:=gl;obtain ⟨_,_,_,_,_,_,_,_,_,_,_,_,rfl⟩:=gI gl;have Ja:V6.Le hZ:=fun b o h=>a5 b o (l9 b o (W7 b o h));refine ⟨_,_,_,_,_,_,_,_,_,_,_,_,rfl,fun gN bL=>(Lg (Su.le (Ja.trans bL)) (Sw.le bL) Y ZA w I sm (by omega)).mono ?_⟩;rintro r jg cY ⟨pa,na,ca,pb,nb,cb,rfl,fa,fb⟩;have X:=Ja.trans (bL.trans cY);clear Sw gl WA gm a4 l9 a5 bL cY Ja W7 e7 h7 l7 l8 d1 d2 d3;have int:∀x:Int,-4<=x/\x<=4->Sz K (x:Rat):=fun x h=>oM (Nat.lt_of_lt_of_le (show x.natAbs<2^3 by omega) (Nat.pow_le_pow_right (by decide) (by omega))) (by omega);refine ⟨_,_,_,_,_,_,_,rfl,fun ph W Tc a6 Od=>(Pk (V:=ph.ax [Tc]) (hr.le fun b o h=>W b o (X b o (KP b o h))) j a6 ⟨by simp,Od⟩ t2).mono ?_⟩;rintro r lC fo ⟨y,z,b9,D,P,Q,t3,a7⟩;have M:=D;obtain ⟨_,_,_,_,_,_,_,_,_,_,_,_,_,_,rfl⟩:=gJ D;have I6:jg.Le lC:=fun b o h=>fo b o (W b o h);refine ⟨_,_,_,_,_,_,_,_,_,_,_,_,_,_,rfl,_,_,_,_,a7,fun lD dY=>(mb (M.le fun b o h=>dY b o h) (int y P) (int z Q) (by omega)).mono ?_⟩;rintro r nG eU Wv;have Qa:pk nG r ((y:Rat),(z:Rat)):=Wv;obtain ⟨_,_,_,_,_,_,_,_,_,_,_,_,_,_,rfl,-⟩:=Wv;have EF:jg.Le nG:=fun b o h=>eU b o (dY b o (I6 b o h));clear M D a7 W fo dY eU I6 a6 Od;refine ⟨_,_,_,_,_,_,_,_,_,_,_,_,_,_,rfl,fun qH ew Td a8 WC=>(Pk (V:=qH.ax [Td]) (hr.le fun b o h=>ew b o (EF b o (X b o (KP b o h)))) j a8 ⟨by simp,WC⟩ t3).mono ?_⟩;rintro r wY fL ⟨E,F,c0,D,R,S,t4,a9⟩;have M:=D;obtain ⟨_,_,_,_,_,_,_,_,_,_,_,_,_,_,rfl⟩:=gJ D;have I9:nG.Le wY:=fun b o h=>fL b o (ew b o h);refine ⟨_,_,_,_,_,_,_,_,_,_,_,_,_,_,rfl,_,_,_,_,a9,fun zO gT=>(mb (M.le fun b o h=>gT b o h) (int E R) (int F S) (by omega)).mono ?_⟩;rintro r Bl lS Ww;have Qb:pk Bl r ((E:Rat),(F:Rat)):=Ww;obtain ⟨_,_,_,_,_,_,_,_,_,_,_,_,_,_,rfl,-⟩:=Ww;have EH:nG.Le Bl:=fun b o h=>lS b o (gT b o (I9 b o h));clear M D a9 ew fL gT lS I9 a8 WC;refine ⟨_,_,_,_,_,_,_,_,_,_,_,_,_,_,rfl,fun Br jT Te b0 b5=>(Pk (V:=Br.ax [Te]) (hr.le fun b o h=>jT b o (EH b o (EF b o (X b o (KP b o h))))) j b0 ⟨by simp,b5⟩ t4).mono ?_⟩;rintro r DL qI ⟨G,H,c3,D,T,U,t5,Nj⟩;have M:=D;obtain ⟨_,_,_,_,_,_,_,_,_,_,_,_,_,_,rfl⟩:=gJ D;have I_:Bl.Le DL:=fun b o h=>qI b o (jT b o h);refine ⟨_,_,_,_,_,_,_,_,_,_,_,_,_,_,rfl,_,_,_,_,Nj,fun GA lH=>(mb (M.le fun b o h=>lH b o h) (int G T) (int H U) (by omega)).mono ?_⟩;rintro r NT HY Wx;have Qc:pk NT r ((G:Rat),(H:Rat)):=Wx;obtain ⟨_,_,_,_,_,_,_,_,_,_,_,_,_,_,rfl,-⟩:=Wx;have EI:Bl.Le NT:=fun b o h=>HY b o (lH b o (I_ b o h));clear M D Nj jT qI lH HY I_ b0 b5;have I7:=EF.trans (EH.trans EI);have d:u.good:=Y.2
 refine ⟨_,_,_,_,_,_,_,_,_,_,_,_,_,_,rfl,fun Pj vq Yr Qi=>(D4 (ps:=[((y:Rat),(z:Rat)),((E:Rat),(F:Rat)),((G:Rat),(H:Rat))]) (Su.le (X.trans (I7.trans vq)))
  (jW.ES Qi (UX (sz:=6) (xs:=[_,_,_,_,_,_]) (ys:=[_,_,_,_,_,_]) (zs:=[_,_,_,_,_,_]) rfl rfl rfl (pk.le Qa (EH.trans (EI.trans vq))) (pk.le Qb (EI.trans vq)) (pk.le Qc vq) (by decide)))
  Y w I (fun q hq=>by
   simp only [List.mem_cons,List.not_mem_nil,or_false] at hq;rcases hq with rfl|rfl|rfl
   ·exact ⟨int y P,int z Q⟩
   ·exact ⟨int E R,int F S⟩
   ·exact ⟨int G T,int H U⟩) (show 3<=12 by decide) (by omega)).mono ?_⟩
 rintro r Sf Hj ⟨pc,nc,cc,rfl,fc⟩;have OD:=I7.trans (vq.trans Hj);clear Qi Qa Qb Qc;have P5:=cuts_inn (l:=p) (s:=u) (ps:=[((y:Rat),(z:Rat)),((E:Rat),(F:Rat)),((G:Rat),(H:Rat))])
 have Yz:=B0 (s:=u) (k:=K) w (ps:=[((y:Rat),(z:Rat)),((E:Rat),(F:Rat)),((G:Rat),(H:Rat))]) (fun q hq=>by
   simp only [List.mem_cons,List.not_mem_nil,or_false] at hq;rcases hq with rfl|rfl|rfl
   ·exact ⟨int y P,int z Q⟩
   ·exact ⟨int E R,int F S⟩
   ·exact ⟨int G T,int H U⟩)
 have cj:=cut_join (l:=p) (ps:=[((y:Rat),(z:Rat)),((E:Rat),(F:Rat)),((G:Rat),(H:Rat))]) d;have Yx:(ascL (cutsG p u [((y:Rat),(z:Rat)),((E:Rat),(F:Rat)),((G:Rat),(H:Rat))])).length<=3:=Nat.le_trans (BA _) (mS ..);have Tj:=(ascL_spec (cutsG p u [((y:Rat),(z:Rat)),((E:Rat),(F:Rat)),((G:Rat),(H:Rat))])).1;generalize ascL (cutsG p u [((y:Rat),(z:Rat)),((E:Rat),(F:Rat)),((G:Rat),(H:Rat))])=cs at *;have c4:=chop_len u cs;have Xp:eh 10000 p:=⟨w.1.mono (by omega),w.2.1.mono (by omega),w.2.2.mono (by omega)⟩;have j1:([(p,u)]:List (L3×Sp)).length<=1000:=show 1<=1000 by decide
 refine ⟨_,_,_,_,rfl,fun J=>⟨mV,(fun h=>nomatch h),fun _=>⟨mV,(fun h=>nomatch h),fun _ SW LQ=>(rR (fc.le LQ) (by rw [List.length_map];omega) (fun f c=>by obtain ⟨t,-,rfl⟩:=List.mem_map.1 c;exact Xp) (fun f c=>by
   obtain ⟨t,ht,rfl⟩:=List.mem_map.1 c;have:=Ai (k:=8*K+7) (s:=u) ⟨I.1.mono (by omega),I.2.mono (by omega)⟩ Yz t ht;exact ⟨this.1.mono (by omega),this.2.mono (by omega)⟩) (fun f c=>by
   obtain ⟨t,ht,rfl⟩:=List.mem_map.1 c;exact ⟨Y.1,chop_good d Tj P5 t ht⟩) (by rw [cj];exact j1) (fun i O=>Gj (by rw [List.length_map] at O;omega))).mono ?_⟩⟩⟩
 rintro r PC FV ⟨pd,nd,cd,rfl,fd⟩;rw [cj] at fd;have EG:=OD.trans (LQ.trans FV);have one:∀f∈[(p,u)],eh K f.1/\f.2.sz K:=fun f c=>by rw [List.mem_singleton.1 c];exact ⟨w,I⟩
 refine ⟨_,_,_,_,rfl,mV,(fun h=>nomatch h),fun _ XK QJ Wa M_=>(nH (fd.le QJ) (C0 M_ (Su.le (X.trans (EG.trans QJ)))) one (by omega) (show 1<4611686018427387904 by omega)).mono ?_⟩;rintro r SX KQ rfl;have hw:=(C0 M_ (Su.le (X.trans (EG.trans QJ)))).le KQ;have I8:=EG.trans (QJ.trans KQ);have Pm:=se (fa.le I8);have Pn:=se (fb.le I8);have la:=Pm.len;have lb:=Pn.len;have Wu:=side_good (l:=p) (m:=m) d;have Wy:=side_good (l:=p) (m:=revL m) d;have za:=qj w I sm;have zb:=qj w I sm.rev;have c5:(sideF p u m).length<=1:=by unfold sideF;split<;>simp
 have c6:(sideF p u (revL m)).length<=1:=by unfold sideF;split<;>simp
 have sj:=side_join (l:=p) (m:=m) d;generalize sideF p u m=A at *;generalize sideF p u (revL m)=B at *;have wn:i64.wrap ((na:Int)+(nb:Int))=((na+nb:Nat):Int):=by rw [aw (by omega)];rfl
 rw [wn];refine ⟨_,rfl,fun J=>⟨(fun h=>nomatch h),fun _=>⟨fun h=>absurd (of_decide_eq_true h) (by omega),fun _=>⟨fun h=>absurd (of_decide_eq_true h) (by omega),fun _=>⟨fun _ c7 c8=>BN.mono ?_,fun hz=>?_⟩⟩⟩⟩⟩
 ·rintro r c9 d0 rfl;exact ⟨_,rfl,fun d4 d5=>rfl⟩
 have hz:na+nb≠0:=fun e=>by rw [e] at hz;cases hz
 replace sj:=sj fun ⟨h1,h2⟩=>by rw [h1] at la;rw [h2] at lb;exact hz (by rw [la,lb];rfl)
 obtain ⟨xs,a1,a2,a3⟩:=rk Pm (by decide);obtain ⟨ys,b1,b2,b3⟩:=rk Pn (by decide)
 have oc:∀{zs:List Value} {C:List (L3×Sp)},Row 14 KY SX zs C->zs.length=C.length*14->∀v∈zs,v.oneCell'=true:=fun row hl v hv=>by
  obtain ⟨i,O,rfl⟩:=List.mem_iff_getElem.1 hv;exact p_ row (by decide) (fun xs a g=>J9 g) (m:=i) (by omega) (List.getElem?_eq_getElem O)
 rw [Nat.zero_add];refine ⟨xs,a1,by rw [a2,la],by omega,Nat.le_refl _,Nat.le_refl _,by rw [a2,la],oc a3 a2,fun Wb J' sp c1 k1 k2=>⟨ys,b1,by rw [b2,lb],by omega,k1,?_,by rw [b2,lb],oc b3 b2,fun Wc d6 b7 c2 k3 k4 d7 W3 We Qh=>?_⟩⟩
 ·rw [List.length_append,List.length_append,a2,←la];simp only [Nat.zero_mul,List.take_zero,List.length_nil,Nat.zero_add];exact k2
 have row:=oI (sp:=b7) (oI (vs:=[]) (sp:=sp) Row.nil a3 (by decide)) b3 (by decide);rw [List.nil_append,←la] at row;have hL:=jW.ES Qh (row.le fun _ _ g=>xi.le g W3);rw [List.length_append,←la,←lb] at hL
 have L:∀f∈A++B,f.1=p/\f.2.good/\f.2.sz 1000000:=fun f c=>by
  rcases List.mem_append.1 c with c|c
  ·exact ⟨(Wu f c).1,(Wu f c).2,(za f c).2.1.mono (by omega),(za f c).2.2.mono (by omega)⟩
  ·exact ⟨(Wy f c).1,(Wy f c).2,(zb f c).2.1.mono (by omega),(zb f c).2.2.mono (by omega)⟩
 refine (rR (Mk hL) (by rw [List.length_append];omega) (fun f c=>by rw [(L f c).1];exact Xp) (fun f c=>(L f c).2.2) (fun f c=>⟨by rw [(L f c).1];exact Y.1,(L f c).2.1⟩) (by rw [sj];exact j1) (fun i O=>Gj (by rw [List.length_append] at O;omega))).mono ?_;rintro r d8 Zs ⟨pe,ne,ce,rfl,Wp⟩;rw [sj] at Wp;refine ⟨_,_,_,_,rfl,fun J3 d9 W4=>BN.mono ?_⟩;rintro r e0 W5 rfl;refine ⟨_,rfl,fun _=>⟨mV,fun _ e1 W6=>(nH (Wp.le (W4.trans (W5.trans W6))) (hw.le (W3.trans (Zs.trans (W4.trans (W5.trans W6))))) one (by omega) (show 1<4611686018427387904 by omega)).mono ?_,(fun h=>nomatch h)⟩,(fun h=>nomatch h)⟩;rintro r e2 e3 rfl;exact ⟨_,rfl,fun SY e5=>rfl⟩
end Go.Proofs.Tryz
