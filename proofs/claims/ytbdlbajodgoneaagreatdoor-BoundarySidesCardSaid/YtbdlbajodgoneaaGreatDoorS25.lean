import Derived.Test.YtbdlbajodgoneaaGreatDoorS24
set_option linter.all false
open Go.IntKind (i64 u64 u32)
namespace Go.Proofs.Tryz
open Go.Eng Go.Big
set_option maxHeartbeats 4000000 in
def qF {V:ut}{y z:un}(hy:uD V 0 y)(hz:uD V 1 z){lp:OA}{ln lc:Nat}(hr:Jr V lp ln)(hc:ln<=lc):À 3 #[.slice lp ln lc] V λr W=>r=.bool true:=by
 refine pY V _ λV1 l1=>(J6 hc).s ?_;rintro r V2 l2 ⟨T,rfl,A,J⟩;refine ⟨T,_,_,_,_,rfl,A,J,λV3 l3 Sn e4 h4=>?_⟩;have c:min ln 400<=400:=Nat.min_le_right _ _;have hr:Jr V lp (min ln 400):=λi hi=>hr i (ł hi (Wj5 _ _));generalize min ln 400=n at *;have B:=l1.m (le_new l2 A l3);refine (Tg 1 (V:=V3.ao [Sn]) ω (hr.le B) c e4 ⟨ψ,h4⟩ (Wx9 0)).s ?_;rintro r V4 l4 ⟨q,S,t,F3,rfl,C,sl,R,t1,U⟩;obtain ⟨S',c8,sk,sa,ok,sz,dp⟩:=Yq R sl;have Wl:=B.m (Hi l4);have j:vG S' t:=⟨ok,sa,ω,λl hl=>(sk l hl).2,ω,ω⟩;have k:=j.oks;have FL:=j.len;have jl:=GM (iT t (aK t.cJ));have D:=CD λf e=>(j.um f e).2;have X:=CC λf e=>(j.um f e).2.1;have vz:∀x∈(â (iT t (aK t.cJ))).flatMap kF,Sz 100000000 x.1/\Sz 100000000 x.2:=λx=>end_sz j;have c9:=tm (â (iT t (aK t.cJ)));have vl:=zT ((â (iT t (aK t.cJ))).flatMap kF);refine ⟨q,rfl,lp,n,lc,F3,U,λV5 l5=>(yh j (C.le au)).s ?_⟩;rintro r V6 l6 ⟨pF,nF,cF,rfl,K⟩;have u:=(pW l5).m l6;refine ⟨pF,nF,cF,rfl,λV7 Y We e9 h9=>(HF (V:=V7.ao [We]) (hr.le ((Wl.m u).m Y)) c e9 ⟨ψ,h9⟩ t1 (RW.le (V:=V4) (V':=V7.ao _) (λb o g=>(u.m Y) b o g) C) ok).s ?_⟩;rintro r V8 l8 ⟨d,E,gp,Z,a6,t2,a7⟩;have L:ct V8 r d:=gp;obtain ⟨_,_,_,_,_,_,_,_,_,_,_,_,_,_,rfl⟩:=L.shape;have v:=Y.m (Hi l8);refine qxW ⟨rfl,lp,n,lc,E,a7,λV9 l9=>(yi (K.le (v.m (pW l9))) ω (λf e=>⟨Qr k e,D f e⟩) vz).s ?_⟩;rintro r M a8 ⟨pv,nv,cv,rfl,gv⟩;have uW:=(pW l9).m a8;have s:=u.m (v.m uW);have L:=ct.le L uW;have K:=K.le (v.m uW);have C:RW M q t:=C.le s;have XH:=Wl.m s;have d0:=gv.len;refine ⟨pv,nv,cv,rfl,λz V'=>z.2.1=lp/\z.2.2.1=n/\z.2.2.2.1=lc/\0<=z.2.2.2.2/\M.Le V'/\(z.1=true->0<nv),⟨λh eW cU Hw a9 b0=>(dL (V:=eW.ao [Hw]) 2 (hr.le (XH.m cU)) c a9 ⟨ψ,b0⟩ t2 ω).s ?_,λh=>⟨(false,lp,n,lc,E),σ,rfl,rfl,rfl,t2,Ó.Le.refl _,λh=>nomatch h⟩⟩,?_⟩
 ·have h:(nv:Int)>0:=Á h;rintro r gC dI ⟨x,m,rfl,x0,x1,t3,w⟩;exact ⟨x,rfl,lp,n,lc,m,w,(_,lp,n,lc,m),σ,rfl,rfl,rfl,t3,λb o g=>(cU.m (Hi dI)) b o g,λ_=>ω⟩
 rintro ⟨zb,zp,zn,zc,za⟩ iI c7 ⟨e1,e2,e3,ta,N,hD⟩;dsimp only at e1 e2 e3 ta hD;subst e1 e2 e3;dsimp only;refine ⟨rfl,λJ kK fH G b3 b4=>(dL (V:=kK.ao [G]) (nv:Int) (hr.le ((XH.m N).m fH)) c b3 ⟨ψ,b4⟩ ta (by have:=hD J;omega)).s ?_,λJ=>?_⟩
 all_goals first
  | (rintro r O fB ⟨x,m,rfl,x0,x1,t3,w⟩
     obtain ⟨H,rfl⟩:∃H:Nat,x=(H:Int):=⟨x.toNat,ω⟩;have lv:M.Le O:=N.m (fH.m (Hi fB));have ⟨ps,b1,p1,n1,c1,p2,n2,c2,b2,p3,n3,c3,p4,n4,c4,a,ha,a0,a1,a2,a3,a4,a5,g⟩:=lst_po (gv.le lv) (show H<_ by omega);obtain ⟨P,Q⟩:=vz _ (((Ol _).2 _).1 (ò (show H<(jU ((â (iT t (aK t.cJ))).flatMap kF)).length by omega)));refine ⟨_,rfl,zp,zn,zc,m,w,ps,Ź,_,_,_,_,_,_,_,_,_,_,_,_,_,_,a,ha,a0,a1,a2,a3,a4,a5,?_⟩;have lW:M.Le O.shut:=λb o h=>lv b o h;have gq:=ct.le (V':=O.shut) g λb o h=>h;generalize (jU ((â (iT t (aK t.cJ))).flatMap kF))[H]=d at *;generalize O.shut=W at *)
  | (have lW:=N
     have gq:=ct.le L N;have P:Sz 100000000 d.1:=Z.s ω;have Q:Sz 100000000 d.2:=a6.s ω;obtain ⟨W,rfl⟩:∃W,W=iI:=⟨_,rfl⟩)
 all_goals
  intro kf e_;refine (ui (C.le au) ok).s ?_;rintro r lu gX hA;obtain ⟨pa,na,ca,rfl,-⟩:=id hA;refine ⟨_,pa,na,ca,rfl,λmD gj=>(zC (RP.le gq au) P Q).s ?_⟩;rintro r nf je ga;have b5:gS nf r d:=ga;obtain ⟨_,_,_,_,_,_,_,_,_,_,_,_,_,_,rfl⟩:=b5.shape;refine qxW ⟨rfl,λkg il=>(WT j (p:=d) (hA.le au) (Qs.le ga il) P Q (hy.le au) (hz.le au)).s ?_⟩;rintro r qC nQ ⟨q1,k1,d1,ma,q2,k2,d2,mb,rfl,gs,b6,b7,I,b8,b9⟩;rw [LB b6 b7 (lv_pw k)] at gs;rw [LB b8 b9 (cm_pw k)] at I;refine ⟨q1,k1,d1,q2,k2,d2,.nilIface,rfl,λqN lZ=>(EK (p:=d) (K.le au) ω (λf e=>⟨Qr k e,X f e,(D f e).2⟩) (ct.le gq au) P Q).s ?_⟩;rintro r qD l_ ⟨q3,n3,c3,q4,n4,c4,rfl,gr,c0⟩;have za:∀x∈mF (GP d (â (iT t (aK t.cJ)))),Sz 100000 x.1/\Sz 100000 x.2:=λx hx=>TB j (.inl ((gK _).1.mem_iff.1 hx));have zb:∀x∈mF (Gk d (â (iT t (aK t.cJ)))),Sz 100000 x.1/\Sz 100000 x.2:=λx hx=>TB j (.inr ((gK _).1.mem_iff.1 hx))
  have la:(mF (GP d (â (iT t (aK t.cJ))))).length<=1000000:=by rw [(gK _).1.length_eq];have:=NI (p:=d) (F:=â (iT t (aK t.cJ)));omega
  have lb:(mF (Gk d (â (iT t (aK t.cJ))))).length<=1000000:=by rw [(gK _).1.length_eq];have:=Nj (p:=d) (F:=â (iT t (aK t.cJ)));omega
  refine ⟨q3,n3,c3,q4,n4,c4,rfl,λAa nt=>(QI XF (Y3 _) (hy.le au) (hz.le au)).s ?_⟩;rintro r A8 uV rfl;refine ⟨_,rfl,λ_=>⟨.inl rfl,λ_ MD Bj=>(pf (gr.le au) la za).s ?_,π⟩,π⟩;rintro r MQ yF ⟨q5,n5,c5,rfl,g5⟩;refine ⟨q5,n5,c5,rfl,λWx KI=>(qX (gs.le au) (g5.le KI) la za).s ?_⟩;rintro r YV H5 rfl;refine ⟨_,rfl,λ_ SH MJ=>(pf (c0.le au) lb zb).s ?_,π⟩;rintro r Z_ H6 ⟨q6,n6,c6,rfl,g6⟩;refine ⟨q6,n6,c6,rfl,λd3 H7=>(qX (I.le au) (g6.le H7) lb zb).s ?_⟩;rintro r V_ CG rfl;exact ⟨_,rfl,λd4 MK=>rfl⟩
end Go.Proofs.Tryz
namespace Go.Proofs.YtbdlbajodgoneaaGreatDoor.dD
open Go.ChangeShapes Go.WideShapes Go.ChangeAt Go.RowKit Go.Eng
section
abbrev Wh (b:Program->FuncId->Func->ChangeSpec->OpenClaim->Bool):Prop:=b Tryz.pinned.checked.prog 3 Tryz.f3 (OpenSpec.ofChange Rows.boundarySidesSpec).bare Rows.boundarySidesRow=true
def XV {b:Program->FuncId->Func->ChangeSpec->OpenClaim->md}(h:b Tryz.pinned.checked.prog 3 Tryz.f3 (OpenSpec.ofChange Rows.boundarySidesSpec).bare Rows.boundarySidesRow=true:=by kernel_rfl):Wh b:=h
def fact0:Wh λP f fn s c=>c.wf (OpenSpec.ofChange s):=XV
def fact1:Wh λP f fn s c=>laidOutB P:=XV
def fact2:Wh λP f fn s c=>mapsRowed P:=XV
def fact3:Wh λP f fn s c=>fn.params.all (P.readableRec ·):=XV
def fact4:Wh λP f fn s c=>namedTie P c.named s.vars:=XV
def fact5:Wh λP f fn s c=>(c.stops==[]):=XV
def fact6:Wh λP f fn s c=>(P.stops==[]):=XV
def fact7:Wh λP f fn s c=>(c.knobs==[]):=XV
def fact8:Wh λP f fn s c=>(P.stopKnobs==[]):=XV
abbrev fk2 (b:Program->FuncId->Func->ChangeSpec->OpenClaim->Bool):Prop:=b Tryz.pinned.checked.prog 3 Tryz.f3 (OpenSpec.ofChange Rows.boundarySidesSpec).bare Rows.boundarySidesRow=true
def mk2 {b:Program->FuncId->Func->ChangeSpec->OpenClaim->md}(h:b Tryz.pinned.checked.prog 3 Tryz.f3 (OpenSpec.ofChange Rows.boundarySidesSpec).bare Rows.boundarySidesRow=true:=by kernel_rfl):fk2 b:=h
def fact9:fk2 λP f fn s c=>(c.inPlace==P.inPlace f):=mk2
def fact10:fk2 λP f fn s c=>(c.unfollowed==P.unfollowed f):=mk2
def fact11:fk2 λP f fn s c=>(c.recurses==P.recurses f):=mk2
abbrev Q_ (b:Program->FuncId->Func->ChangeSpec->OpenClaim->Bool):Prop:=b Tryz.pinned.checked.prog 3 Tryz.f3 (OpenSpec.ofChange Rows.boundarySidesSpec).bare Rows.boundarySidesRow=true
def Sw {b:Program->FuncId->Func->ChangeSpec->OpenClaim->md}(h:b Tryz.pinned.checked.prog 3 Tryz.f3 (OpenSpec.ofChange Rows.boundarySidesSpec).bare Rows.boundarySidesRow=true:=by kernel_rfl):Q_ b:=h
def fact12:Q_ λP f fn s c=>(c.named==P.varsNamed f):=Sw
def fact13:Q_ λP f fn s c=>(c.maps==(fn.params.toList++s.plain.varTypes P).any (P.mapsRec ·)):=Sw
def fact14:Q_ λP f fn s c=>(c.ifaces==(fn.params.toList++s.plain.varTypes P).any (P.ifacesRec ·)):=Sw
def fact15:Q_ λP f fn s c=>(c.mapsOut==P.mapsAmong fn.resultTypes.toList):=Sw
def fact16:Q_ λP f fn s c=>(c.loops==(fn.params.toList++s.plain.varTypes P).any (P.loopsFrom ·)):=Sw
def fact17:Q_ λP f fn s c=>(c.wideKeys==(fn.params.toList++s.plain.varTypes P++fn.resultTypes.toList).any (P.wideKeysFrom ·)):=Sw
def fact18:Q_ λP f fn s c=>s.vars.all (P.varReadable ·):=Sw
def fact19:Q_ λP f fn s c=>fn.resultTypes.all (λt=>P.readableRec t&&decide (t<P.types.size)):=Sw
def fact20:Q_ λP f fn s c=>(c.ifacesOut==fn.resultTypes.toList.any (P.ifacesRec ·)):=Sw
def fact21:Q_ λP f fn s c=>(c.loopsOut==fn.resultTypes.toList.any (P.loopsFrom ·)):=Sw
def fact22:Q_ λP f fn s c=>(c.plainKeys==P.plainKeys):=Sw
def fact23:Q_ λP f fn s c=>c.shortTexts.isNone:=Sw
abbrev Xe (b:Program->FuncId->Func->ChangeSpec->OpenClaim->Bool):Prop:=b Tryz.pinned.checked.prog 3 Tryz.f3 (OpenSpec.ofChange Rows.boundarySidesSpec).bare Rows.boundarySidesRow=true
def Zz {b:Program->FuncId->Func->ChangeSpec->OpenClaim->md}(h:b Tryz.pinned.checked.prog 3 Tryz.f3 (OpenSpec.ofChange Rows.boundarySidesSpec).bare Rows.boundarySidesRow=true:=by kernel_rfl):Xe b:=h
def fact24:Xe λP f fn s c=>P.stopsHeard:=Zz
def fact25:Xe λP f fn s c=>P.mayEnter:=Zz
def fact26:Xe λP f fn s c=>(c.lifted==P.liftsFinal):=Zz
def fact27:Xe λP f fn s c=>(P.make==some c.make):=Zz
def fact28:Xe λP f fn s c=>(c.kinds==(if c.domain.isEmpty then [] else fn.params.toList.map λt=>match P.underlying t with|some (.int k)=>some k|_=>none)):=Zz
def fact29:Xe λP f fn s c=>(c.pinned==c.pinnedBy):=Zz
def fact30:Xe λP f fn s c=>(c.veiled==(fn.params.toList++s.plain.varTypes P++fn.resultTypes.toList).any (P.veiledRec ·)):=Zz
def fact31:Xe λP f fn s c=>c.veiledFits P fn.params.toList (fn.params.toList++s.plain.varTypes P++fn.resultTypes.toList):=Zz
end
section
def goes:false=Rows.boundarySidesRow.goesBy Tryz.pinned.checked.prog:=ζ
end
end Go.Proofs.YtbdlbajodgoneaaGreatDoor.dD
