/- A part of the proof (joined by program from: SpanB, NewA, SceneE, VLaw6, Law6A, Law6B, VLaw6C, SpanC, Law6C). -/
import Derived.Test.YtimkdinmcbepnaaGreatDoorK14
import Derived.Test.YtimkdinmcbepnaaGreatDoorK18
import Derived.Test.YtimkdinmcbepnaaGreatDoorK12
import Derived.Test.YtimkdinmcbepnaaGreatDoorK13
import Derived.Test.YtimkdinmcbepnaaGreatDoorK5
set_option linter.unusedVariables false
open Go.IntKind (i64 u64 u32)
/- Contracts: sets of intervals: read, joined, cut, written; the functions of package span. -/
namespace Go.Proofs.Tryz
open Go.Eng Go.Big
/-- A regular set with few ends and small numbers. -/
structure Ok6 (l:List Sp) (m:Nat):Prop where
 rg:reg l
 sz:∀s ∈ l,s.sz 10000
 fe:fe l<=m
 len:l.length<=m + 1
theorem Ok6.comb {a b:List Sp} {m n:Nat} (ha:Ok6 a m) (hb:Ok6 b n) (op:Int):Ok6 (combL op a b) (m + n):=
 ⟨comb_reg _ _ _,comb_sz (by decide) ha.sz hb.sz,Nat.le_trans (comb_fe op a b) (Nat.add_le_add ha.fe hb.fe),Nat.le_trans (comb_len op a b) (by have:=ha.fe; have:=hb.fe; omega)⟩
theorem ok6_full:Ok6 [fullS] 0:=⟨⟨fun s h=>by rw [List.mem_singleton.1 h]; exact ⟨⟨fun _=>rfl,fun _=>rfl⟩,rfl⟩,List.pairwise_singleton _ _⟩,fun s h=>by rw [List.mem_singleton.1 h]; exact ⟨szz _ (by decide),szz _ (by decide)⟩,by decide,by decide⟩
theorem c_U1 (a b:Bool) (W:View):Acts prog 127 #[.bool a,.bool b] W fun r _=>r=.bool (opB 1 a b):=
 vc_geo_Set_Union_1 a b W _ ⟨fun h V l=>by subst h; simp [opB],fun h V l=>by subst h; simp [opB]⟩
theorem c_I1 (a b:Bool) (W:View):Acts prog 128 #[.bool a,.bool b] W fun r _=>r=.bool (opB 2 a b):=
 vc_geo_Set_Intersect_1 a b W _ ⟨fun h V l=>by subst h; simp [opB],fun h V l=>by subst h; simp [opB]⟩
theorem c_D1 (a b:Bool) (W:View):Acts prog 132 #[.bool a,.bool b] W fun r _=>r=.bool (opB 3 a b):=
 vc_geo_Set_Subtract_1 a b W _ ⟨fun h V l=>by subst h; simp [opB],fun h V l=>by subst h; simp [opB]⟩
/-- A function that joins two sets. -/
def Joins (f:Nat) (op:Int):Prop:=∀{V:View} {p:OA} {n c:Nat} {q:OA} {m d:Nat} {A B:List Sp} {x y:Nat},Lst 8 RIv V p n A->Lst 8 RIv V q m B->Ok6 A x->Ok6 B y->x + y < 50 ->
 Acts prog f #[.slice p n c,.slice q m d] V fun r V'=>∃q m e,r=.slice q m e/\Lst 8 RIv V' q m (combL op A B)
theorem sweep_of {V:View} {p:OA} {n c:Nat} {q:OA} {m d:Nat} {A B:List Sp} {x y fa:Nat} {op:Int} (hA:Lst 8 RIv V p n A) (hB:Lst 8 RIv V q m B) (oA:Ok6 A x) (oB:Ok6 B y) (h:x + y < 50) (hf:∀a b (W:View),Acts prog fa #[.bool a,.bool b] W fun r _=>r=.bool (opB op a b)) :
  Acts prog 126 #[.agg #[.slice p n c,.slice q m d],.func (.func fa) #[] #[]] V fun r V'=>∃q m e,r=.slice q m e/\Lst 8 RIv V' q m (combL op A B):=
 c_sweep hA hB oA.rg.1 oB.rg.1 oA.sz oB.sz (by have:=oA.len; omega) (by have:=oB.len; omega) (by have:=oA.fe; have:=oB.fe; omega) hf
theorem c_Set_Union:Joins 61 1:=by
 intro V p n c q m d A B x y hA hB oA oB h
 refine vc_geo_Set_Union p n c q m d V _ fun V1 l1=>(sweep_of (hA.le l1 fun _ _ g=>RIv.le g l1) (hB.le l1 fun _ _ g=>RIv.le g l1) oA oB h c_U1).mono ?_
 rintro r V2 l2 ⟨q,m,e,rfl,g⟩
 exact ⟨_,_,_,rfl,fun V3 l3=>⟨_,_,_,rfl,g.le l3 fun _ _ g=>RIv.le g l3⟩⟩
theorem c_Set_Intersect:Joins 62 2:=by
 intro V p n c q m d A B x y hA hB oA oB h
 refine vc_geo_Set_Intersect p n c q m d V _ fun V1 l1=>(sweep_of (hA.le l1 fun _ _ g=>RIv.le g l1) (hB.le l1 fun _ _ g=>RIv.le g l1) oA oB h c_I1).mono ?_
 rintro r V2 l2 ⟨q,m,e,rfl,g⟩
 exact ⟨_,_,_,rfl,fun V3 l3=>⟨_,_,_,rfl,g.le l3 fun _ _ g=>RIv.le g l3⟩⟩
theorem c_Set_Subtract:Joins 66 3:=by
 intro V p n c q m d A B x y hA hB oA oB h
 refine vc_geo_Set_Subtract p n c q m d V _ fun V1 l1=>(sweep_of (hA.le l1 fun _ _ g=>RIv.le g l1) (hB.le l1 fun _ _ g=>RIv.le g l1) oA oB h c_D1).mono ?_
 rintro r V2 l2 ⟨q,m,e,rfl,g⟩
 exact ⟨_,_,_,rfl,fun V3 l3=>⟨_,_,_,rfl,g.le l3 fun _ _ g=>RIv.le g l3⟩⟩
theorem c_IvsOf {V:View} {p:OA} {n c:Nat} {ls:List Sp} (h:Lst 8 RSp V p n ls) (hn:ls.length<=1000) (hg:∀s ∈ ls,s.good) (hs:∀s ∈ ls,s.sz 10000) :
  Acts prog 88 #[.slice p n c] V fun r V'=>∃q m e,r=.tuple #[.slice q m e,.bool true]/\Lst 8 RIv V' q m ls:=by
 obtain rfl:=h.len
 refine vc_geo_IvsOf p _ c V _ ⟨fun h1=>absurd (of_decide_eq_true h1) (by omega),fun _=>⟨fun z V'=>∃j:Nat,z.2.2.2=(j:Int)/\j<=ls.length/\IR V' z.1 z.2.1 z.2.2.1 (ls.take j),
  fun z=>ls.length - z.2.2.2.toNat,⟨(0,0,[],0),by and_intros <;> rfl,0,rfl,Nat.zero_le _,IR.nil⟩,?_⟩⟩
 rintro ⟨z1,z2,vs,z4⟩ V1 l1 ⟨j,e4,jle,hir⟩
 dsimp only at e4 hir
 subst e4
 have zl:=hir.len
 rw [List.length_take] at zl
 refine ⟨rfl,fun hlt=>?_,fun hlt V4 l4 bk hb=>?_⟩
 ·have hlt:(j:Int) < ls.length:=of_decide_eq_true hlt
  have hi:j < ls.length:=by omega
  obtain ⟨ad,ha,xs,-,hf,hat⟩:=(h.le l1 fun _ _ g=>RSp.le g l1).at_ j hi
  have w:i64.wrap ((j:Int) + 1)=(j:Int) + 1:=i64w (by omega)
  dsimp only
  rw [Int.toNat_natCast,w]
  have hf0:=hf
  obtain ⟨_,_,_,_,_,_,_,_,_,_,_,_,_,_,ex⟩:=sp_shape hf
  have ex:=congrArg Array.toList (Value.agg.inj ex)
  dsimp only at ex
  subst ex
  have hgj:=hg _ (List.getElem_mem hi)
  refine ⟨isSome_addr ha,⟨by omega,by omega⟩,_,_,_,_,_,_,_,_,_,_,_,_,_,_,_,_,ad,ha,hat 0 _ rfl,hat 1 _ rfl,hat 2 _ rfl,hat 3 _ rfl,hat 4 _ rfl,hat 5 _ rfl,hat 6 _ rfl,hat 7 _ rfl,fun V2 l2=>(c_IvOf_ok (hf0.le l2) hgj.1 hgj.2 (hs _ (List.getElem_mem hi)) (by decide)).mono ?_⟩
  rintro r V3 l3 ⟨w,rfl,x1,x2,q,y1,y2,q',rfl,r1,r2⟩
  refine ⟨_,_,_,_,_,_,_,_,_,rfl,(fun h=>nomatch h),fun _=>⟨by omega,hir.le,hir.cap,rfl,one8,fun sp c' h1 h2=>⟨(z1 + 1,c',_,(j:Int) + 1),by dsimp only; omega,by and_intros <;> rfl,j + 1,rfl,hi,?_⟩⟩⟩
  dsimp only
  rw [List.take_add_one,List.getElem?_eq_getElem hi]
  exact (hir.mono (l2.trans l3)).snoc r1 r2 h1 h2
 ·have hlt:¬ (j:Int) < ls.length:=of_decide_eq_false hlt
  obtain rfl:j=ls.length:=by omega
  rw [List.take_length] at hir
  obtain rfl:=hir.len
  exact ⟨_,_,_,rfl,Lst.of_mrow hb (hir.row.le fun _ _ g=>RIv.le g l4) (by decide) hir.le⟩
theorem c_SetOf {V:View} {p:OA} {n c:Nat} {ls:List Sp} (h:Lst 8 RSp V p n ls) {m:Nat} (ho:Ok6 ls m) (hm:m < 100) :
  Acts prog 63 #[.slice p n c] V fun r V'=>∃q m e,r=.tuple #[.slice q m e,.bool true]/\Lst 8 RIv V' q m ls:=by
 have hn:=ho.len
 refine vc_geo_SetOf p n c V _ fun V1 l1=>(c_IvsOf (h.le l1 fun _ _ g=>RSp.le g l1) (by omega) ho.rg.1 ho.sz).mono ?_
 rintro r V2 l2 ⟨q,k,e,rfl,g⟩
 obtain rfl:=g.len
 refine ⟨_,_,_,_,rfl,(fun h=>nomatch h),fun _=>⟨fun z V'=>∃j:Nat,z=(j:Int)/\j<=ls.length,fun z=>ls.length - z.toNat,⟨0,by and_intros <;> rfl,0,rfl,Nat.zero_le _⟩,?_⟩⟩
 rintro z V4 l4 ⟨j,rfl,jle⟩
 refine ⟨rfl,fun hlt=>?_,fun hlt V10 l10=>⟨_,_,_,rfl,g.le (l4.trans l10) fun _ _ g=>RIv.le g (l4.trans l10)⟩⟩
 have hlt:(j:Int) < ls.length:=of_decide_eq_true hlt
 have hi:j < ls.length:=by omega
 have g4:=g.le l4 fun _ _ g=>RIv.le g l4
 obtain ⟨ad,ha,xs,-,⟨x1,x2,q1,y1,y2,q2,ex,r1,r2⟩,hat⟩:=g4.at_ j hi
 have ex:=congrArg Array.toList (Value.agg.inj ex)
 dsimp only at ex
 subst ex
 have w:i64.wrap ((j:Int) + 1)=((j + 1:Nat):Int):=by rw [i64w (by omega)]; rfl
 rw [Int.toNat_natCast,w]
 refine ⟨isSome_addr ha,⟨by omega,by omega⟩,_,_,_,_,_,_,_,_,ad,ha,hat 0 _ rfl,hat 1 _ rfl,hat 2 _ rfl,hat 3 _ rfl,hat 4 _ rfl,hat 5 _ rfl,hat 6 _ rfl,hat 7 _ rfl,fun h0=>?_,fun h0=>⟨((j + 1:Nat):Int),by dsimp only; omega,by and_intros <;> rfl,j + 1,rfl,hi⟩⟩
 have h0:(j:Int) > 0:=of_decide_eq_true h0
 obtain ⟨i,rfl⟩:∃i,j=i + 1:=⟨j - 1,by omega⟩
 have hi':i < ls.length:=by omega
 obtain ⟨b1,b2,b3⟩:=List.pairwise_iff_getElem.1 ho.rg.2 i (i + 1) hi' hi (by omega)
 have w2:i64.wrap (((i + 1:Nat):Int) - 1)=(i:Int):=by rw [i64w (by omega)]; omega
 rw [w2,Int.toNat_natCast]
 obtain ⟨ad',ha',xs,-,⟨u1,u2,p1,v1,v2,p2,ex,r1',r2'⟩,hat'⟩:=g4.at_ i hi'
 have ex:=congrArg Array.toList (Value.agg.inj ex)
 dsimp only at ex
 subst ex
 have hat7:=hat' 7 _ rfl
 have hat3:=hat' 3 _ rfl
 have hat4:=hat' 4 _ rfl
 have hat5:=hat' 5 _ rfl
 have A7:addrAdd (addrAdd q (i * 8)) 7=some (ad'.add 7):=by rw [ha']; rfl
 have A3:addrAdd (addrAdd q (i * 8)) 3=some (ad'.add 3):=by rw [ha']; rfl
 refine ⟨fun h=>(by rw [b2] at h; cases h),fun _=>⟨isSome_addr ha',⟨by omega,by omega⟩,by rw [ha']; rfl,_,⟨_,A7,hat7⟩,fun h=>(by rw [b1] at h; cases h),fun _=>⟨isSome_addr ha',⟨by omega,by omega⟩,by rw [ha']; rfl,v1,v2,p2,_,A3,by rw [adr_add2]; exact hat3,by rw [adr_add2]; exact hat4,by rw [adr_add2]; exact hat5,fun V7 l7=>(c_R_Cmp (r2'.le l7) (r1.le l7) (ho.sz _ (List.getElem_mem hi')).2 (ho.sz _ (List.getElem_mem hi)).1 (by decide)).mono ?_⟩⟩⟩
 rintro r V8 l8 rfl
 refine ⟨_,rfl,fun h=>?_,fun _=>⟨((i + 1 + 1:Nat):Int),by dsimp only; omega,by and_intros <;> rfl,i + 1 + 1,rfl,hi⟩⟩
 have h:=of_decide_eq_true h
 rcases cmpQ_or ls[i].hi ls[i + 1].lo with ⟨h1,e⟩ | ⟨h1,e⟩ | ⟨h1,e⟩ <;> rw [e] at h <;> grind
theorem c_All {V:View}:Acts prog 130 #[] V fun r V'=>r=.agg #[.int .i64 0,.int .i64 0,.pointer none,.int .i64 0,.int .i64 0,.pointer none,.bool true,.bool true]:=
 vc_geo_All V _ fun V1 l1=>rfl
theorem c_Set_Complement {V:View} {p:OA} {n c:Nat} {A:List Sp} {x:Nat} (hA:Lst 8 RIv V p n A) (oA:Ok6 A x) (h:x < 50) :
  Acts prog 64 #[.slice p n c] V fun r V'=>∃q m e,r=.slice q m e/\Lst 8 RIv V' q m (cpl A):=by
 refine vc_geo_Set_Complement p n c V _ fun V1 l1=>c_All.mono ?_
 rintro r V2 l2 rfl
 have L2:=l1.trans l2
 refine ⟨_,_,_,_,_,_,_,_,rfl,fun V3 l3 bk hb=>(c_Set_Subtract (V:=V3) (A:=[fullS]) (c:=1) (d:=c) (Lst.of_row (vs:=[.int .i64 0,.int .i64 0,.pointer none,.int .i64 0,.int .i64 0,.pointer none,.bool true,.bool true]) hb (row_one rfl ⟨_,_,_,_,_,_,rfl,RR.zero _,RR.zero _⟩)) (hA.le (L2.trans l3) fun _ _ g=>RIv.le g (L2.trans l3)) ok6_full oA (by omega)).mono ?_⟩
 rintro r V4 l4 ⟨q,m,e,rfl,g⟩
 exact ⟨_,_,_,rfl,fun _ V5 l5=>⟨_,_,_,rfl,g.le l5 fun _ _ g=>RIv.le g l5⟩⟩
/-! package span -/
theorem c_span_two {V:View} {p:OA} {n c:Nat} {q:OA} {m d:Nat} {A B:List Sp} {x y fa:Nat} {op:Int} (hA:Lst 8 RSp V p n A) (hB:Lst 8 RSp V q m B) (oA:Ok6 A x) (oB:Ok6 B y) (h:x + y < 50) (hf:Joins fa op) :
  Acts prog 60 #[.slice p n c,.slice q m d,.func (.func fa) #[] #[]] V fun r V'=>∃q m e,r=.tuple #[.slice q m e,.nilIface]/\Lst 8 RSp V' q m (combL op A B):=by
 have oC:=oA.comb oB op
 refine vc_span_two p n c q m d fa V _ fun V1 l1=>(c_SetOf (hA.le l1 fun _ _ g=>RSp.le g l1) oA (by omega)).mono ?_
 rintro r V2 l2 ⟨p1,n1,d1,rfl,g1⟩
 refine ⟨_,_,_,_,rfl,fun V3 l3=>(c_SetOf (hB.le (l1.trans (l2.trans l3)) fun _ _ g=>RSp.le g (l1.trans (l2.trans l3))) oB (by omega)).mono ?_⟩
 rintro r V4 l4 ⟨p2,n2,d2,rfl,g2⟩
 refine ⟨_,_,_,_,rfl,(fun h=>nomatch h),fun _=>⟨(fun h=>nomatch h),fun _ V7 l7=>(hf (g1.le (l3.trans (l4.trans l7)) fun _ _ g=>RIv.le g (l3.trans (l4.trans l7))) (g2.le l7 fun _ _ g=>RIv.le g l7) oA oB h).mono ?_⟩⟩
 rintro r V8 l8 ⟨p3,n3,d3,rfl,g3⟩
 refine ⟨_,_,_,rfl,fun V9 l9=>(c_Set_API (g3.le l9 fun _ _ g=>RIv.le g l9) (by have:=oC.len; omega) oC.sz (by decide)).mono ?_⟩
 rintro r V10 l10 ⟨p4,n4,d4,rfl,g4⟩
 exact ⟨_,_,_,rfl,fun V11 l11=>⟨_,_,_,rfl,g4.le l11 fun _ _ g=>RSp.le g l11⟩⟩
def SJoins (f:Nat) (op:Int):Prop:=∀{V:View} {p:OA} {n c:Nat} {q:OA} {m d:Nat} {A B:List Sp} {x y:Nat},Lst 8 RSp V p n A->Lst 8 RSp V q m B->Ok6 A x->Ok6 B y->x + y < 50 ->
 Acts prog f #[.slice p n c,.slice q m d] V fun r V'=>∃q m e,r=.tuple #[.slice q m e,.nilIface]/\Lst 8 RSp V' q m (combL op A B)
theorem c_span_Union:SJoins 13 1:=by
 intro V p n c q m d A B x y hA hB oA oB h
 refine vc_span_Union p n c q m d V _ fun V1 l1=>(c_span_two (hA.le l1 fun _ _ g=>RSp.le g l1) (hB.le l1 fun _ _ g=>RSp.le g l1) oA oB h c_Set_Union).mono ?_
 rintro r V2 l2 ⟨q,m,e,rfl,g⟩
 exact ⟨_,_,_,_,rfl,fun V3 l3=>⟨_,_,_,rfl,g.le l3 fun _ _ g=>RSp.le g l3⟩⟩
theorem c_span_Intersect:SJoins 14 2:=by
 intro V p n c q m d A B x y hA hB oA oB h
 refine vc_span_Intersect p n c q m d V _ fun V1 l1=>(c_span_two (hA.le l1 fun _ _ g=>RSp.le g l1) (hB.le l1 fun _ _ g=>RSp.le g l1) oA oB h c_Set_Intersect).mono ?_
 rintro r V2 l2 ⟨q,m,e,rfl,g⟩
 exact ⟨_,_,_,_,rfl,fun V3 l3=>⟨_,_,_,rfl,g.le l3 fun _ _ g=>RSp.le g l3⟩⟩
theorem c_span_Subtract:SJoins 16 3:=by
 intro V p n c q m d A B x y hA hB oA oB h
 refine vc_span_Subtract p n c q m d V _ fun V1 l1=>(c_span_two (hA.le l1 fun _ _ g=>RSp.le g l1) (hB.le l1 fun _ _ g=>RSp.le g l1) oA oB h c_Set_Subtract).mono ?_
 rintro r V2 l2 ⟨q,m,e,rfl,g⟩
 exact ⟨_,_,_,_,rfl,fun V3 l3=>⟨_,_,_,rfl,g.le l3 fun _ _ g=>RSp.le g l3⟩⟩
theorem c_span_Complement {V:View} {p:OA} {n c:Nat} {A:List Sp} {x:Nat} (hA:Lst 8 RSp V p n A) (oA:Ok6 A x) (h:x < 50) :
  Acts prog 15 #[.slice p n c] V fun r V'=>∃q m e,r=.tuple #[.slice q m e,.nilIface]/\Lst 8 RSp V' q m (cpl A):=by
 have oC:Ok6 (cpl A) (0 + x):=ok6_full.comb oA 3
 refine vc_span_Complement p n c V _ fun V1 l1=>(c_SetOf (hA.le l1 fun _ _ g=>RSp.le g l1) oA (by omega)).mono ?_
 rintro r V2 l2 ⟨p1,n1,d1,rfl,g1⟩
 refine ⟨_,_,_,_,rfl,(fun h=>nomatch h),fun _ V4 l4=>(c_Set_Complement (g1.le l4 fun _ _ g=>RIv.le g l4) oA h).mono ?_⟩
 rintro r V5 l5 ⟨p3,n3,d3,rfl,g3⟩
 refine ⟨_,_,_,rfl,fun V6 l6=>(c_Set_API (g3.le l6 fun _ _ g=>RIv.le g l6) (by have:=oC.len; omega) oC.sz (by decide)).mono ?_⟩
 rintro r V10 l10 ⟨p4,n4,d4,rfl,g4⟩
 exact ⟨_,_,_,rfl,fun V11 l11=>⟨_,_,_,rfl,g4.le l11 fun _ _ g=>RSp.le g l11⟩⟩
theorem c_SameAll {V:View} {p:OA} {n c:Nat} {q:OA} {m d:Nat} {A:List Sp} (hA:Lst 8 RSp V p n A) (hB:Lst 8 RSp V q m A) (hn:A.length<=1000) (hs:∀s ∈ A,s.sz 10000) :
  Acts prog 18 #[.slice p n c,.slice q m d] V fun r V'=>r=.bool true:=by
 obtain rfl:=hA.len
 obtain rfl:=hB.len
 refine vc_ref06_SameAll p _ c q _ d V _ ⟨fun h=>by simp at h,fun _=>⟨fun z V'=>∃j:Nat,z=(j:Int)/\j<=A.length,fun z=>A.length - z.toNat,⟨0,by and_intros <;> rfl,0,rfl,Nat.zero_le _⟩,?_⟩⟩
 rintro z V2 l2 ⟨j,rfl,jle⟩
 refine ⟨rfl,fun hlt=>?_,fun hlt V6 l6=>rfl⟩
 have hlt:(j:Int) < A.length:=of_decide_eq_true hlt
 have hi:j < A.length:=by omega
 obtain ⟨ad,ha,xs,-,hf,hat⟩:=(hA.le l2 fun _ _ g=>RSp.le g l2).at_ j hi
 obtain ⟨ad',ha',ys,-,hf',hat'⟩:=(hB.le l2 fun _ _ g=>RSp.le g l2).at_ j hi
 have hf0:=hf
 have hf0':=hf'
 obtain ⟨_,_,_,_,_,_,_,_,_,_,_,_,_,_,ex⟩:=sp_shape hf
 obtain ⟨_,_,_,_,_,_,_,_,_,_,_,_,_,_,ey⟩:=sp_shape hf'
 have ex:=congrArg Array.toList (Value.agg.inj ex)
 have ey:=congrArg Array.toList (Value.agg.inj ey)
 dsimp only at ex ey
 subst ex ey
 have w:i64.wrap ((j:Int) + 1)=((j + 1:Nat):Int):=by rw [i64w (by omega)]; rfl
 rw [Int.toNat_natCast,w]
 refine ⟨isSome_addr ha,⟨by omega,by omega⟩,_,_,_,_,_,_,_,_,_,_,_,_,_,_,_,_,ad,ha,hat 0 _ rfl,hat 1 _ rfl,hat 2 _ rfl,hat 3 _ rfl,hat 4 _ rfl,hat 5 _ rfl,hat 6 _ rfl,hat 7 _ rfl,isSome_addr ha',⟨by omega,by omega⟩,_,_,_,_,_,_,_,_,_,_,_,_,_,_,_,_,ad',ha',hat' 0 _ rfl,hat' 1 _ rfl,hat' 2 _ rfl,hat' 3 _ rfl,hat' 4 _ rfl,hat' 5 _ rfl,hat' 6 _ rfl,hat' 7 _ rfl,fun V3 l3=>(c_ref06_Same (hf0.le l3) (hf0'.le l3) (hs _ (List.getElem_mem hi)) (by decide)).mono ?_⟩
 rintro r V4 l4 rfl
 exact ⟨_,rfl,(fun h=>nomatch h),fun _=>⟨((j + 1:Nat):Int),by dsimp only; omega,by and_intros <;> rfl,j + 1,rfl,hi⟩⟩
end Go.Proofs.Tryz
/- A new block that is handed back; scene.New. -/
namespace Go.Proofs.Tryz
open Go.Eng Go.Big
/-- All that is there is hidden. -/
def hideAll (V:View):View:=⟨V.w,fun b=>b < V.w.heap.size,fun _=>False,fun _ h=>h,fun _ h=>h.elim⟩
/-- A block that is seen when all was hidden is new. -/
theorem acts_fresh {f:FuncId} {args:Array Value} {V:View} {o:Obj} (h:Acts prog f args (hideAll V) fun r V'=>∃bk,r=.pointer (some ⟨bk,0,none⟩)/\V'.blk bk o) :
  Acts prog f args V fun r V'=>∃bk,r=.pointer (some ⟨bk,0,none⟩)/\V.w.heap.size<=bk/\V'.blk bk o:=
 ⟨h.1,h.2.mono fun _ _ ⟨_,he,hx,bk,hr,hb⟩=>⟨_,he,⟨hx.size,fun b hb _=>hx.blk b hb (fun h=>h),hx.os,hx.tape,hx.out⟩,bk,hr,Nat.le_of_not_lt hb.1,fun hh=>hb.1 (V.hH bk hh),hb.2⟩⟩
theorem c_scene_New {V:View} {lp:OA} {ln lc:Nat} (hc:ln<=lc) :
  Acts prog 10 #[.slice lp ln lc] V fun r V'=>∃bk,r=.pointer (some ⟨bk,0,none⟩)/\V.w.heap.size<=bk/\V'.blk bk (.cells #[.slice lp (min ln 400) lc,.int .i64 0] 107 (0,0)):=by
 refine acts_fresh (vc_scene_New lp ln lc (hideAll V) _ ?_)
 have e:minI (ln:Int) 400=((min ln 400:Nat):Int):=by
  unfold minI
  simp only [Nat.min_def]
  split <;> split <;> omega
 rw [e,Int.toNat_natCast]
 have:=Nat.min_le_left ln 400
 exact ⟨⟨by omega,by omega⟩,fun V1 l1 bk hb=>⟨bk,rfl,hb⟩⟩
/-- What was seen is seen behind a new block that is hidden. -/
theorem le_fresh {V1 V2 V3:View} {bk:Nat} (l2:V1.Le V2) (hfr:V1.w.heap.size<=bk) (l3:(V2.hide bk).Le V3):V1.Le V3:=fun b o h=>l3 b o ⟨fun hh=>hh.elim (l2 b o h).1 fun e=>by
  have hlt:b < V1.w.heap.size:=by
   rcases Nat.lt_or_ge b V1.w.heap.size with h' | h'
   ·exact h'
   ·have:=h.2; rw [Array.getElem?_eq_none h'] at this; cases this
  have:=e.1
  omega,(l2 b o h).2⟩
end Go.Proofs.Tryz
/- Contracts: the tape's spans and fragments. -/
namespace Go.Proofs.Tryz
open Go.Eng Go.Big
theorem s_half:∀i:Fin 6,(mkRat ((i.1:Int) + 1) 2).num.sign=1/\Sz 10 (mkRat ((i.1:Int) + 1) 2):=by unfold Sz; decide +kernel
theorem rq0 (V:View):RQ V (.agg #[.bool false,.slice none 0 0,.slice none 0 0]) 0:=by have:=RQ.zero (V:=V); simpa using this
theorem sz0 (k:Nat) (hk:0 < k):Sz k (0:Rat):=⟨by show (0:Int).natAbs < _; exact Nat.lt_of_lt_of_le (by decide) (Nat.one_le_two_pow),Nat.one_lt_two_pow (by omega)⟩
theorem c_ref06_Full {V:View}:Acts prog 27 #[] V fun r V'=>RSs V' r ⟨0,0,true,true⟩:=
 vc_ref06_Full V _ fun V1 l1=>⟨_,_,_,_,_,_,_,_,_,_,_,_,_,_,rfl,rq0 _,rq0 _⟩
theorem rs_shape {V:View} {v:Value} {s:Sp} (h:RSs V v s):∃b p n c p' n' c' d q m e q' m' e',v=.agg #[.bool b,.slice p n c,.slice p' n' c',.bool d,.slice q m e,.slice q' m' e',.bool s.a,.bool s.b]:=by
 obtain ⟨_,_,_,_,_,_,_,_,_,_,_,_,_,_,e,-⟩:=h; exact ⟨_,_,_,_,_,_,_,_,_,_,_,_,_,_,e⟩
theorem c_S {V:View} {tb:Nat} {p:OA} {n c:Nat} {at_:Int} (hr:Rdl V p n) (hn:n<=400) (hw:TpAt V tb p n c at_) (hx:V.X tb) (h0:0<=at_) :
  Acts prog 87 #[.pointer (some ⟨tb,0,none⟩)] V fun r V'=>∃(s:Sp) (at':Int),RSs V' r s/\s.can/\s.emp=false/\s.sz 40/\0<=at'/\TpAt V' tb p n c at':=by
 refine vc_scene_Tape_S tb p n c at_ V _ hw hx fun V1 l1 bk1 e1 h1=>(c_Q (V:=V1.lend [bk1]) (hr.le fun b o h=>l1 b o h) hn e1 ⟨by simp,h1⟩ h0).mono ?_
 rintro r V2 l2 ⟨lo,at1,hq,sq,t1,hw1⟩
 have hq0:=hq
 obtain ⟨qa,qb,qc,qd,qe,qf,rfl⟩:=hq.shape
 refine ⟨_,_,_,_,_,_,_,rfl,_,_,_,_,hw1,fun V3 l3 bk7 e3 h3=>(c_Next (V:=V3.lend [bk7]) 6 (hr.le fun b o h=>l3 b o (l2 b o (l1 b o h))) hn e3 ⟨by simp,h3⟩ t1 (by omega) (by omega)).mono ?_⟩
 rintro r V4 l4 ⟨x,at2,rfl,x0,x1,t2,hw2⟩
 obtain ⟨i,rfl⟩:∃i:Nat,x=i:=⟨x.toNat,by omega⟩
 obtain ⟨z1,z2⟩:=s_half ⟨i,by omega⟩
 dsimp only at z1 z2
 have w1:i64.wrap (1 + (i:Int))=(i:Int) + 1:=by rw [i64w (by omega)]; omega
 refine ⟨_,rfl,_,_,_,_,hw2,fun V5 l5=>?_⟩
 rw [w1]
 refine (c_num_Part ((i:Int) + 1) 2 (by omega) (by omega) (by omega) (by omega)).mono ?_
 generalize mkRat ((i:Int) + 1) 2=q at *
 rintro r V6 l6 gp
 have gp0:=gp
 obtain ⟨_,_,_,_,_,_,rfl⟩:=gp.shape
 have l27:∀{V7:View},V6.Le V7->V2.Le V7:=fun l7 b o h=>l7 b o (l6 b o (l5 b o (l4 b o (l3 b o h))))
 refine ⟨_,_,_,_,_,_,_,rfl,fun V7 l7=>(c_num_Plus (hq0.le (l27 l7)) (gp0.le l7) sq z2 (by omega)).mono ?_⟩
 rintro r V8 l8 gh
 have gh0:=gh
 obtain ⟨ga,gb,gc,gd,ge,gf',rfl⟩:=gh.shape
 have sh:Sz 21 (lo + q):=sq.add z2
 have l02:∀{V9:View},V8.Le V9->V.Le V9:=fun l9 b o h=>l9 b o (l8 b o (l7 b o (l6 b o (l5 b o (l4 b o (l3 b o (l2 b o (l1 b o h))))))))
 refine ⟨_,_,_,_,_,_,_,rfl,fun V9 l9 bk17 e9 h9=>(c_Next (V:=V9.lend [bk17]) 8 (hr.le fun b o h=>l02 l9 b o h) hn e9 ⟨by simp,h9⟩ t2 (by omega) (by omega)).mono ?_⟩
 rintro r V10 l10 ⟨y,at3,rfl,y0,y1,t3,hw3⟩
 have l8_10:∀{V11:View},V10.shut.Le V11->V8.Le V11:=fun l11 b o h=>l11 b o (l10 b o (l9 b o h))
 have l2_10:∀{V11:View},V10.shut.Le V11->V2.Le V11:=fun l11=>(l27 l7).trans (l8.trans (l8_10 l11))
 have full:∀(V11 W:View),V10.shut.Le V11->V11.Le W->∀at4,0<=at4->TpAt W tb p n c at4->∃(s:Sp) (at':Int),RSs W (.agg #[.bool (decide (lo.num < 0)),.slice qa qb qc,.slice qd qe qf,.bool (decide ((lo + q).num < 0)),.slice ga gb gc,.slice gd ge gf',.bool false,.bool false]) s/\s.can/\s.emp=false/\s.sz 40/\0<=at'/\TpAt W tb p n c at':=fun V11 W l11 lw at4 t4 e4=>
  ⟨⟨lo,lo + q,false,false⟩,at4,⟨_,_,_,_,_,_,_,_,_,_,_,_,_,_,rfl,hq0.le ((l2_10 l11).trans lw),gh0.le ((l8_10 l11).trans lw)⟩,⟨(fun h=>nomatch h),(fun h=>nomatch h)⟩,by
   have e:cmpQ lo (lo + q)=- q.num.sign:=by
    rw [cmpQ_swap]
    unfold cmpQ
    rw [show lo + q - lo=q from by grind]
   unfold Sp.emp
   dsimp only
   rw [e,z1]
   rfl,⟨Sz.mono sq (by omega),Sz.mono sh (by omega)⟩,t4,e4⟩
 refine ⟨_,rfl,_,_,_,_,hw3,fun _ V11 l11 e11=>?_,fun _=>⟨fun _ V12 l12 e12=>?_,fun _=>⟨fun _ V13 l13 bk21 e13 h13=>(c_Next (V:=V13.lend [bk21]) 4 (hr.le fun b o h=>l13 b o (l10 b o (l02 l9 b o h))) hn e13 ⟨by simp,h13⟩ t3 (by omega) (by omega)).mono ?_,fun _ V19 l19 e19=>full _ _ l19 (View.Le.refl _) at3 t3 e19⟩⟩⟩
 ·exact ⟨⟨0,lo + q,true,false⟩,at3,⟨_,_,_,_,_,_,_,_,_,_,_,_,_,_,rfl,rq0 _,gh0.le (l8_10 l11)⟩,⟨fun _=>rfl,(fun h=>nomatch h)⟩,rfl,⟨sz0 _ (by omega),Sz.mono sh (by omega)⟩,t3,e11⟩
 ·exact ⟨⟨lo,0,false,true⟩,at3,⟨_,_,_,_,_,_,_,_,_,_,_,_,_,_,rfl,hq0.le (l2_10 l12),rq0 _⟩,⟨(fun h=>nomatch h),fun _=>rfl⟩,rfl,⟨Sz.mono sq (by omega),sz0 _ (by omega)⟩,t3,e12⟩
 ·rintro r V14 l14 ⟨z,at4,rfl,-,-,t4,hw4⟩
  refine ⟨_,rfl,_,_,_,_,hw4,fun _ V15 l15=>c_ref06_Full.mono ?_,fun _ V18 l18 e18=>full _ _ l13 (fun b o h=>l18 b o (l14 b o h)) at4 t4 e18⟩
  rintro r V16 l16 gf
  have gf0:=gf
  obtain ⟨_,_,_,_,_,_,_,_,_,_,_,_,_,_,rfl⟩:=rs_shape gf
  exact ⟨_,_,_,_,_,_,_,_,_,_,_,_,_,_,_,_,rfl,fun V17 l17 e17=>⟨⟨0,0,true,true⟩,at4,gf0.le l17,⟨fun _=>rfl,fun _=>rfl⟩,rfl,⟨sz0 _ (by omega),sz0 _ (by omega)⟩,t4,e17⟩⟩
end Go.Proofs.Tryz
/- By program: the conditions of the functions, from their loaded code. -/
namespace Go.Proofs.Tryz
open Go.Eng
open Go.Value renaming int→I,pointer→P,slice→S,agg→A,bool→B,tuple→T
open Go.IntKind renaming i64→J,u64→U,u32→W
set_option maxRecDepth 100000
theorem vc_law06_made (a:Nat) (e:OA) (f g:Nat) (i:Int) (V:View) (R:VR) (hw100000:V.w.heap[a]?=some (.cells #[S e f g,I J i] 107 (0,0))) (hx100000:V.X a) (h:(∀d,V.Le d->∀b:Nat,(d.w.heap[b]?=some (.cells #[S e f g,I J i] 107 (0,0)))->(d.H b)->Acts prog 25 #[P (some ⟨b,0,none⟩),I J 4] (d.lend [b]) fun z l=>∃m n o,z=S m n o/\∃p q r,∃s,l.w.heap[b]?=some (.cells #[S p q r,I J s] 107 (0,0))/\(∀t,l.shut.Le t->Acts prog 20 #[I J 1,S m n o,S none 0 0] t fun a0 a1=>∃u x y,a0=S u x y/\(∀k,a1.Le k->k.w.heap[a]?=some (.cells #[S p q r,I J s] 107 (0,0))->R (S u x y) k)))):
 Acts prog 12 #[P (some ⟨a,0,none⟩)] V R:=
 fn_does (LF:=LF0) (RF:=[1000010]) (β0:=(upd1 (fun _=>0) 100000 a)) tab_ok mixed [] [] func12 (by kernel_rfl) [(0,.c (.ptr 100000 0))] [(100000,⟨.lit [.v (S e f g),.v (I J i)],107⟩)] (by kernel_rfl) ⟨⟨hw100000,hx100000⟩,trivial,trivial⟩ h (by kernel_rfl)
theorem vc_law06_unit (b c:Int) (V:View) (R:VR) (h:(Ca V 19 #[I J b] fun a9 b0=>∃d,∃e f g,∃i k l,a9=A #[B d,S e f g,S i k l]/\(Ca b0 28 #[A #[B d,S e f g,S i k l]] fun b1 b2=>∃m,∃n o p,∃q r s,b1=A #[B m,S n o p,S q r s]/\(Ca b2 19 #[I J c] fun b3 b4=>∃t,∃u w x,∃y z a0,b3=A #[B t,S u w x,S y z a0]/\(Ca b4 28 #[A #[B t,S u w x,S y z a0]] fun b5 b6=>∃a1,∃a2 a3 a4,∃a5 a6 a7,b5=A #[B a1,S a2 a3 a4,S a5 a6 a7]/\(∀a,b6.Le a->∀a8:Nat,(a.blk a8 (.cells #[B m,S n o p,S q r s,B a1,S a2 a3 a4,S a5 a6 a7,B false,B false] 77 (0,0)))->R (S (some ⟨a8,0,none⟩) 1 1) a)))))):
 Acts prog 67 #[I J b,I J c] V R:=
 fd (LF:=LF0) (RF:=[1000010]) [] [] func67 h
theorem vc_law06_known (V:View) (R:VR) (h:(Ca V 67 #[I J 0,I J 1] fun a5 a6=>∃e f g,a5=S e f g/\(Ca a6 67 #[I J 1,I J 2] fun a7 a8=>∃i k l,a7=S i k l/\(Ca a8 13 #[S e f g,S i k l] fun a9 b0=>∃m n o,∃a,a9=T #[S m n o,a]/\(Ca b0 67 #[I J 0,I J 1] fun b1 b2=>∃p q r,b1=S p q r/\(Ca b2 67 #[I J 1,I J 2] fun b3 b4=>∃s t u,b3=S s t u/\(Ca b4 14 #[S p q r,S s t u] fun b5 c=>∃b6 w b7,∃b,b5=T #[S b6 w b7,b]/\(IsIface a)/\(((isNilI a)=true->(IsIface b)/\(((isNilI b)=true->(Ca c 67 #[I J 0,I J 2] fun b8 b9=>∃x y z,b8=S x y z/\(Ca b9 18 #[S m n o,S x y z] fun c0 a0=>∃d,c0=B d/\((d=true->(Rt a0 R (B ((w:Int) == (0:Int)))))/\(d=false->(Rt a0 R (B false)))))))/\((isNilI b)=false->(Rt c R (B false)))))/\((isNilI a)=false->(Rt c R (B false))))))))))):
 Acts prog 17 #[] V R:=
 fd (LF:=LF0) (RF:=[1000010]) [] [] func17 h
end Go.Proofs.Tryz
/- Law 06: SpanAlgebra. -/
namespace Go.Proofs.Tryz
open Go.Eng Go.Big
/-- Any row as it grows. -/
structure GR {α:Type} (sz:Nat) (R:View->Value->α->Prop) (V:View) (n c:Nat) (vs:List Value) (l:List α):Prop where
 len:n=l.length
 le:n<=c
 cap:c * sz<=vs.length
 row:Row sz R V vs l
theorem GR.nil {α:Type} {sz:Nat} {R:View->Value->α->Prop} {V:View}:GR sz R V 0 0 [] []:=⟨rfl,Nat.le_refl _,by simp,Row.nil⟩
theorem GR.mono {α:Type} {sz:Nat} {R:View->Value->α->Prop} {V V':View} {n c:Nat} {vs:List Value} {l:List α} (h:GR sz R V n c vs l) (m:∀v a,R V v a->R V' v a):GR sz R V' n c vs l:=⟨h.len,h.le,h.cap,h.row.le m⟩
theorem GR.snoc {α:Type} {sz:Nat} {R:View->Value->α->Prop} {V:View} {n c:Nat} {vs:List Value} {l:List α} (h:GR sz R V n c vs l) {xs:List Value} {a:α} (hx:xs.length=sz) (ha:R V (.agg xs.toArray) a) (h0:0 < sz) {sp:List Value} {c':Nat} (h1:n + 1<=c') (h2:c' * sz<=(n + 1) * sz + sp.length) :
  GR sz R V (n + 1) c' (vs.take (n * sz)++xs++sp) (l++[a]):=by
 have hn:=h.len
 have hc:=h.cap
 have hl:n * sz<=c * sz:=Nat.mul_le_mul_right _ h.le
 refine ⟨by rw [List.length_append,hn]; rfl,h1,?_,?_⟩
 ·have ht:(vs.take (n * sz)).length=n * sz:=by rw [List.length_take]; omega
  rw [List.length_append,List.length_append,ht,hx]
  rw [Nat.succ_mul] at h2
  exact h2
 ·have:=h.row.snoc (sp:=sp) hx ha h0
  rw [← hn] at this
  exact this
theorem one8s {b:Bool} {p:OA} {n c:Nat} {p':OA} {n' c':Nat} {d:Bool} {q:OA} {m e:Nat} {q':OA} {m' e':Nat} {x y:Bool}:∀v ∈ ([.bool b,.slice p n c,.slice p' n' c',.bool d,.slice q m e,.slice q' m' e',.bool x,.bool y]:List Value),v.oneCell'=true:=by
 intro v hm
 simp only [List.mem_cons,List.not_mem_nil,or_false] at hm
 rcases hm with rfl | rfl | rfl | rfl | rfl | rfl | rfl | rfl <;> rfl
theorem c_Ss {V:View} {tb:Nat} {p:OA} {n c:Nat} {at_:Int} (k:Int) (hr:Rdl V p n) (hn:n<=400) (hw:TpAt V tb p n c at_) (hx:V.X tb) (h0:0<=at_) (hk:0<=k) (hk2:k<=100) :
  Acts prog 25 #[.pointer (some ⟨tb,0,none⟩),.int .i64 k] V fun r V'=>∃(q:OA) (m e:Nat) (l:List Sp) (at':Int),r=.slice q m e/\RSl V' q m l/\(l.length:Int)<=k/\(∀s ∈ l,s.good/\s.sz 40)/\0<=at'/\TpAt V' tb p n c at':=by
 have w:i64.wrap (k + 1)=k + 1:=i64w (by omega)
 refine vc_scene_Tape_Ss tb p n c at_ k V _ hw hx fun V1 l1 bk1 e1 h1=>?_
 rw [w]
 refine (c_Next (V:=V1.lend [bk1]) (k + 1) (hr.le fun b o h=>l1 b o h) hn e1 ⟨by simp,h1⟩ h0 (by omega) (by omega)).mono ?_
 rintro r V2 l2 ⟨x,at1,rfl,x0,x1,t1,hw1⟩
 refine ⟨x,rfl,_,_,_,_,hw1,fun z V'=>∃l:List Sp,GR 8 RSs V' z.1 z.2.1 z.2.2.1 l/\0<=z.2.2.2.1/\(l.length:Int) + z.2.2.2.1<=k/\(∀s ∈ l,s.good/\s.sz 40)/\z.2.2.2.2.1=p/\z.2.2.2.2.2.1=n/\z.2.2.2.2.2.2.1=c/\0<=z.2.2.2.2.2.2.2,
  fun z=>z.2.2.2.1.toNat,⟨(0,0,[],x,p,n,c,at1),by and_intros <;> rfl,[],GR.nil,x0,by show ((0:Nat):Int) + x<=k; omega,fun s h=>(by cases h),rfl,rfl,rfl,t1⟩,?_⟩
 rintro ⟨z1,z2,vs,x',p',n',c',at2⟩ V3 l3 ⟨l,hs,y0,y1,hg,e1,e2,e3,t2⟩
 dsimp only at hs y0 y1 e1 e2 e3 t2
 subst e1 e2 e3
 have sl:=hs.len
 refine ⟨rfl,fun hlt V4 l4 bk9 e9 h9=>?_,fun hlt V6 l6 bk23 e6 hb=>?_⟩
 ·have hlt:x' > 0:=of_decide_eq_true hlt
  refine (c_S (V:=V4.lend [bk9]) (hr.le fun b o h=>l4 b o (l3 b o (l2 b o (l1 b o h)))) hn e9 ⟨by simp,h9⟩ t2).mono ?_
  rintro r V5 l5 ⟨s,at3,hs5,cn,em,sz,t3,hw5⟩
  have hs50:=hs5
  obtain ⟨_,_,_,_,_,_,_,_,_,_,_,_,_,_,rfl⟩:=rs_shape hs5
  dsimp only
  refine ⟨_,_,_,_,_,_,_,_,_,_,_,_,_,_,_,_,rfl,_,_,_,_,hw5,by omega,hs.le,hs.cap,rfl,one8s,fun sp c2 h1 h2=>⟨(z1 + 1,c2,_,x' - 1,p',n',c',at3),by dsimp only; omega,by and_intros <;> first | rfl | exact i64w (by omega),l++[s],
   (hs.mono (V':=V5.shut) fun _ _ g=>RSs.le g fun b o h=>l5 b o (l4 b o h)).snoc rfl (hs50.le (le_shut' _)) (by decide) h1 h2,by dsimp only; omega,by rw [List.length_append]; simp; omega,fun t ht=>?_,rfl,rfl,rfl,t3⟩⟩
  rcases List.mem_append.1 ht with ht | ht
  ·exact hg t ht
  ·rw [List.mem_singleton.1 ht]; exact ⟨⟨cn,em⟩,sz⟩
 ·subst sl
  exact ⟨_,_,_,l,at2,rfl,lst_rsl (Lst.of_mrow hb (hs.row.le fun _ _ g=>RSs.le g l6) (by decide) hs.le),by omega,hg,t2,e6⟩
theorem sz_up {s:Sp} (h:s.sz 40):s.sz 10000:=⟨h.1.mono (by decide),h.2.mono (by decide)⟩
theorem c_made {V:View} {tb:Nat} {p:OA} {n c:Nat} {at_:Int} (hr:Rdl V p n) (hn:n<=400) (hw:TpAt V tb p n c at_) (hx:V.X tb) (h0:0<=at_) :
  Acts prog 12 #[.pointer (some ⟨tb,0,none⟩)] V fun r V'=>∃(q:OA) (m e:Nat) (l:List Sp) (at':Int),r=.slice q m e/\RSl V' q m l/\Ok6 l 8/\(∀s ∈ l,s.sz 40)/\0<=at'/\TpAt V' tb p n c at':=by
 refine vc_law06_made tb p n c at_ V _ hw hx fun V1 l1 bk1 e1 h1=>(c_Ss (V:=V1.lend [bk1]) 4 (hr.le fun b o h=>l1 b o h) hn e1 ⟨by simp,h1⟩ h0 (by decide) (by decide)).mono ?_
 rintro r V2 l2 ⟨q,m,e,l,at1,rfl,hl,ll,hg,t1,hw1⟩
 refine ⟨_,_,_,rfl,_,_,_,_,hw1,fun V3 l3=>(c_ref06_Combine (op:=1) (la':=l) (lb':=[]) (hl.le fun b o h=>l3 b o h) ⟨rfl,fun i hi=>absurd hi (Nat.not_lt_zero i)⟩ (by simp; omega) (fun s h=>(hg s h).2) (fun s h=>by cases h) (by decide)).mono ?_⟩
 rintro r V4 l4 ⟨q',m',e',rfl,g⟩
 have hsz:∀s ∈ combL 1 l [],s.sz 40:=comb_sz (by decide) (fun s h=>(hg s h).2) (fun s h=>by cases h)
 have f1:=comb_fe 1 l []
 have f2:=fe_le l
 have f3:fe []=0:=rfl
 exact ⟨_,_,_,rfl,fun V5 l5 hw5=>⟨_,_,_,combL 1 l [],at1,rfl,g.le l5,⟨comb_reg _ _ _,fun s h=>sz_up (hsz s h),by omega,by have:=comb_len 1 l []; omega⟩,hsz,t1,hw5⟩⟩
/-- The span from a to b. -/
def spU (a b:Int):Sp:=⟨(a:Rat),(b:Rat),false,false⟩
theorem c_unit {V:View} (a b:Int) (ha:-100<=a/\a<=100) (hb:-100<=b/\b<=100) (sa:Sz 10 (a:Rat)) (sb:Sz 10 (b:Rat)):Acts prog 67 #[.int .i64 a,.int .i64 b] V fun r V'=>∃q m e,r=.slice q m e/\Lst 8 RSp V' q m [spU a b]:=by
 refine vc_law06_unit a b V _ fun V1 l1=>(c_num_Of a (by omega) (by omega)).mono ?_
 rintro r V2 l2 g1
 have g10:=g1
 obtain ⟨_,_,_,_,_,_,rfl⟩:=g1.shape
 refine ⟨_,_,_,_,_,_,_,rfl,fun V3 l3=>(c_ref01_ToQ (g10.le l3) sa (by decide)).mono ?_⟩
 rintro r V4 l4 g2
 have g20:=g2
 obtain ⟨_,_,_,_,_,_,_,rfl⟩:=g2.shape
 refine ⟨_,_,_,_,_,_,_,rfl,fun V5 l5=>(c_num_Of b (by omega) (by omega)).mono ?_⟩
 rintro r V6 l6 g3
 have g30:=g3
 obtain ⟨_,_,_,_,_,_,rfl⟩:=g3.shape
 refine ⟨_,_,_,_,_,_,_,rfl,fun V7 l7=>(c_ref01_ToQ (g30.le l7) sb (by decide)).mono ?_⟩
 rintro r V8 l8 g4
 have g40:=g4
 obtain ⟨_,_,_,_,_,_,_,rfl⟩:=g4.shape
 refine ⟨_,_,_,_,_,_,_,rfl,fun V9 l9 bk hbk=>⟨_,_,_,rfl,Lst.of_row (vs:=[.bool _,.slice _ _ _,.slice _ _ _,.bool _,.slice _ _ _,.slice _ _ _,.bool false,.bool false]) hbk (row_one rfl ?_)⟩⟩
 exact ⟨_,_,_,_,_,_,_,_,_,_,_,_,_,_,rfl,⟨(fun h=>nomatch h),fun _=>g20.le (l5.trans (l6.trans (l7.trans (l8.trans l9))))⟩,⟨(fun h=>nomatch h),fun _=>g40.le l9⟩⟩
theorem ok6_one {a b:Int} (h:(a:Rat) < (b:Rat)) (sa:Sz 10 (a:Rat)) (sb:Sz 10 (b:Rat)):Ok6 [spU a b] 2:=
 ⟨⟨fun s hs=>by rw [List.mem_singleton.1 hs]; exact ⟨⟨(fun h=>nomatch h),(fun h=>nomatch h)⟩,by rw [Sp.emp_iff]; exact .inr (.inr h)⟩,List.pairwise_singleton _ _⟩,fun s hs=>by rw [List.mem_singleton.1 hs]; exact ⟨sa.mono (by decide),sb.mono (by decide)⟩,fe_le _,by simp⟩
theorem uni_012:combL 1 [spU 0 1] [spU 1 2]=[spU 0 2]:=by
 refine reg_eq (endsL ([spU 0 1]++[spU 1 2])++[1]) (comb_reg _ _ _) (ok6_one (by decide) (sz_int (by decide) (by decide)) (sz_int (by decide) (by decide))).rg fun t ht=>?_
 simp only [List.mem_append,not_or,List.mem_singleton] at ht
 rw [comb_inB _ _ _ ht.1]
 have h1:=ht.2
 have e0:((0:Int):Rat)=0:=rfl
 have e1:((1:Int):Rat)=1:=rfl
 have e2:((2:Int):Rat)=2:=rfl
 unfold inB spU Sp.innB opB
 rw [e0,e1,e2]
 simp
 grind
theorem int_012:combL 2 [spU 0 1] [spU 1 2]=[]:=by
 refine reg_eq (endsL ([spU 0 1]++[spU 1 2])++[1]) (comb_reg _ _ _) ⟨fun s h=>(by cases h),List.Pairwise.nil⟩ fun t ht=>?_
 simp only [List.mem_append,not_or,List.mem_singleton] at ht
 rw [comb_inB _ _ _ ht.1]
 have h1:=ht.2
 have e0:((0:Int):Rat)=0:=rfl
 have e1:((1:Int):Rat)=1:=rfl
 have e2:((2:Int):Rat)=2:=rfl
 unfold inB spU Sp.innB opB
 rw [e0,e1,e2]
 simp
 grind
theorem c_known6 {V:View}:Acts prog 17 #[] V fun r V'=>r=.bool true:=by
 have s0:Sz 10 ((0:Int):Rat):=sz_int (by decide) (by decide)
 have s1:Sz 10 ((1:Int):Rat):=sz_int (by decide) (by decide)
 have s2:Sz 10 ((2:Int):Rat):=sz_int (by decide) (by decide)
 have o01:Ok6 [spU 0 1] 2:=ok6_one (by decide) s0 s1
 have o12:Ok6 [spU 1 2] 2:=ok6_one (by decide) s1 s2
 have o02:Ok6 [spU 0 2] 2:=ok6_one (by decide) s0 s2
 refine vc_law06_known V _ fun V1 l1=>(c_unit 0 1 (by decide) (by decide) s0 s1).mono ?_
 rintro r V2 l2 ⟨p1,n1,c1,rfl,g1⟩
 refine ⟨_,_,_,rfl,fun V3 l3=>(c_unit 1 2 (by decide) (by decide) s1 s2).mono ?_⟩
 rintro r V4 l4 ⟨p2,n2,c2,rfl,g2⟩
 have L3:=l3.trans l4
 refine ⟨_,_,_,rfl,fun V5 l5=>(c_span_Union (g1.le (L3.trans l5) fun _ _ g=>RSp.le g (L3.trans l5)) (g2.le l5 fun _ _ g=>RSp.le g l5) o01 o12 (by decide)).mono ?_⟩
 rintro r V6 l6 ⟨p3,n3,c3,rfl,g3⟩
 refine ⟨_,_,_,_,rfl,fun V7 l7=>(c_unit 0 1 (by decide) (by decide) s0 s1).mono ?_⟩
 rintro r V8 l8 ⟨p4,n4,c4,rfl,g4⟩
 refine ⟨_,_,_,rfl,fun V9 l9=>(c_unit 1 2 (by decide) (by decide) s1 s2).mono ?_⟩
 rintro r V10 l10 ⟨p5,n5,c5,rfl,g5⟩
 have L9:=l9.trans l10
 refine ⟨_,_,_,rfl,fun V11 l11=>(c_span_Intersect (g4.le (L9.trans l11) fun _ _ g=>RSp.le g (L9.trans l11)) (g5.le l11 fun _ _ g=>RSp.le g l11) o01 o12 (by decide)).mono ?_⟩
 rintro r V12 l12 ⟨p6,n6,c6,rfl,g6⟩
 rw [uni_012] at g3
 rw [int_012] at g6
 have n60:n6=0:=g6.len
 subst n60
 refine ⟨_,_,_,_,rfl,.inl rfl,fun _=>⟨.inl rfl,fun _ V13 l13=>(c_unit 0 2 (by decide) (by decide) s0 s2).mono ?_,(fun h=>nomatch h)⟩,(fun h=>nomatch h)⟩
 rintro r V14 l14 ⟨p7,n7,c7,rfl,g7⟩
 have L7:=l7.trans (l8.trans (l9.trans (l10.trans (l11.trans (l12.trans (l13.trans l14))))))
 refine ⟨_,_,_,rfl,fun V15 l15=>(c_SameAll (g3.le (L7.trans l15) fun _ _ g=>RSp.le g (L7.trans l15)) (g7.le l15 fun _ _ g=>RSp.le g l15) (by decide) o02.sz).mono ?_⟩
 rintro r V16 l16 rfl
 exact ⟨_,rfl,fun _ V17 l17=>rfl,(fun h=>nomatch h)⟩
end Go.Proofs.Tryz
/- Law 06: SpanAlgebra (printed by mkalg.py). -/
namespace Go.Proofs.Tryz
open Go.Eng Go.Big
theorem up {V V':View} {p:OA} {n:Nat} {l:List Sp} (h:Lst 8 RSp V p n l) (e:V.Le V'):Lst 8 RSp V' p n l:=h.le e fun _ _ g=>RSp.le g e
end Go.Proofs.Tryz
/- By program: the conditions of the functions, from their loaded code. -/
namespace Go.Proofs.Tryz
open Go.Eng
open Go.Value renaming int→I,pointer→P,slice→S,agg→A,bool→B,tuple→T
open Go.IntKind renaming i64→J,u64→U,u32→W
set_option maxRecDepth 100000
theorem vc_geo_Join_1 (a c:Bool) (V:View) (R:VR) (h:(Rt V R (B a))):
 Acts prog 152 #[B a,B c] V R:=
 fd (LF:=LF0) (RF:=[1000010]) [] [] func152 h
theorem vc_geo_Join (a:OA) (b c:Nat) (V:View) (R:VR) (h:(Ca V 126 #[A #[S a b c,S none 0 0],.func (.func 152) #[] #[]] fun i k=>∃d e f,i=S d e f/\(Rt k R (S d e f)))):
 Acts prog 89 #[S a b c] V R:=
 fd (LF:=LF0) (RF:=[1000010]) [] [] func89 h
theorem vc_span_Join (c:OA) (d e:Nat) (V:View) (R:VR) (h:(Ca V 88 #[S c d e] fun u a=>∃f g i,∃b,u=T #[S f g i,B b]/\(((!b)=true->(∃k,(∃l,(some ⟨1,0,none⟩:OA)=some l/\a.at l (k))/\(Rt a R (T #[S none 0 0,k]))))/\((!b)=false->(Ca a 89 #[S f g i] fun w x=>∃n o p,w=S n o p/\(Ca x 65 #[S n o p] fun y z=>∃q r s,y=S q r s/\(Rt z R (T #[S q r s,.nilIface])))))))):
 Acts prog 26 #[S c d e] V R:=
 fd (LF:=LF0) (RF:=[1000010]) [] [] func26 h
theorem vc_law06_SpanCombines (b3:OA) (b4 b5:Nat) (V:View) (R:VR) (h:(∀a3,V.Le a3->Acts prog 10 #[S b3 b4 b5] a3 fun n5 b6=>∃p:Nat,∃b7 b8 b9,∃c0,n5=P (some ⟨p,0,none⟩)/\a3.w.heap.size<=p/\b6.blk p (.cells #[S b7 b8 b9,I J c0] 107 (0,0))/\(∀q:View,(b6.hide p).Le q->∀e:Nat,(q.w.heap[e]?=some (.cells #[S b7 b8 b9,I J c0] 107 (0,0)))->(q.H e)->Acts prog 25 #[P (some ⟨e,0,none⟩),I J 5] (q.lend [e]) fun n6 c1=>∃a4 a5 a6,n6=S a4 a5 a6/\∃c2 c3 c4,∃c5,c1.w.heap[e]?=some (.cells #[S c2 c3 c4,I J c5] 107 (0,0))/\(∀r,c1.shut.Le r->∀f:Nat,(r.w.heap[f]?=some (.cells #[S c2 c3 c4,I J c5] 107 (0,0)))->(r.H f)->Acts prog 12 #[P (some ⟨f,0,none⟩)] (r.lend [f]) fun n7 c6=>∃a b c,n7=S a b c/\∃c7 c8 c9,∃d0,c6.w.heap[f]?=some (.cells #[S c7 c8 c9,I J d0] 107 (0,0))/\(∀s,c6.shut.Le s->∀g:Nat,(s.w.heap[g]?=some (.cells #[S c7 c8 c9,I J d0] 107 (0,0)))->(s.H g)->Acts prog 12 #[P (some ⟨g,0,none⟩)] (s.lend [g]) fun n8 d1=>∃i k l,n8=S i k l/\∃n9 o0 o1,∃o2,d1.w.heap[g]?=some (.cells #[S n9 o0 o1,I J o2] 107 (0,0))/\(∀d2,d1.shut.Le d2->Acts prog 11 #[S a b c] d2 fun o3 o4=>∃m n o,o3=S m n o/\(Ca o4 11 #[S i k l] fun o5 o6=>∃t u x,o5=S t u x/\(Ca o6 11 #[S a4 a5 a6] fun o7 o8=>∃d3 d4 d5,o7=S d3 d4 d5/\(Ca o8 26 #[S d3 d4 d5] fun o9 p0=>∃d6 d7 d8,∃y,o9=T #[S d6 d7 d8,y]/\(Ca p0 13 #[S m n o,S t u x] fun p1 p2=>∃d9 e0 e1,∃z,p1=T #[S d9 e0 e1,z]/\(Ca p2 14 #[S m n o,S t u x] fun p3 p4=>∃e2 e3 e4,∃a0,p3=T #[S e2 e3 e4,a0]/\(Ca p4 16 #[S m n o,S t u x] fun p5 p6=>∃e5 e6 e7,∃a1,p5=T #[S e5 e6 e7,a1]/\(Ca p6 15 #[S m n o] fun p7 d=>∃e8 e9 f0,∃a2,p7=T #[S e8 e9 f0,a2]/\(IsIface y)/\(((!isNilI y)=true->(Rt d R (B false)))/\((!isNilI y)=false->(IsIface z)/\(((!isNilI z)=true->(Rt d R (B false)))/\((!isNilI z)=false->(IsIface a0)/\(((!isNilI a0)=true->(Rt d R (B false)))/\((!isNilI a0)=false->(IsIface a1)/\(((!isNilI a1)=true->(Rt d R (B false)))/\((!isNilI a1)=false->(IsIface a2)/\(((!isNilI a2)=true->(Rt d R (B false)))/\((!isNilI a2)=false->(Ca d 17 #[] fun p8 f6=>∃a7,p8=B a7/\((a7=true->(Ca f6 20 #[I J 1,S a4 a5 a6,S none 0 0] fun p9 q0=>∃f7 f8 f9,p9=S f7 f8 f9/\(Ca q0 11 #[S f7 f8 f9] fun q1 q2=>∃g0 g1 g2,q1=S g0 g1 g2/\(Ca q2 18 #[S d6 d7 d8,S g0 g1 g2] fun q3 g3=>∃a8,q3=B a8/\((a8=true->(Ca g3 20 #[I J 1,S a b c,S i k l] fun q4 q5=>∃g4 g5 g6,q4=S g4 g5 g6/\(Ca q5 11 #[S g4 g5 g6] fun q6 q7=>∃g7 g8 g9,q6=S g7 g8 g9/\(Ca q7 18 #[S d9 e0 e1,S g7 g8 g9] fun q8 i0=>∃a9,q8=B a9/\((a9=true->(Ca i0 20 #[I J 2,S a b c,S i k l] fun q9 r0=>∃i1 i2 i3,q9=S i1 i2 i3/\(Ca r0 11 #[S i1 i2 i3] fun r1 r2=>∃i4 i5 i6,r1=S i4 i5 i6/\(Ca r2 18 #[S e2 e3 e4,S i4 i5 i6] fun r3 i7=>∃b0,r3=B b0/\((b0=true->(Ca i7 20 #[I J 3,S a b c,S i k l] fun r4 r5=>∃i8 i9 k0,r4=S i8 i9 k0/\(Ca r5 11 #[S i8 i9 k0] fun r6 r7=>∃k1 k2 k3,r6=S k1 k2 k3/\(Ca r7 18 #[S e5 e6 e7,S k1 k2 k3] fun r8 k4=>∃b1,r8=B b1/\((b1=true->(Ca k4 27 #[] fun r9 t0=>∃k5,∃k6 k7 k8,∃k9 l0 l1,∃l2,∃l3 l4 l5,∃l6 l7 l8,∃l9,∃m0,r9=A #[B k5,S k6 k7 k8,S k9 l0 l1,B l2,S l3 l4 l5,S l6 l7 l8,B l9,B m0]/\(∀b2,t0.Le b2->∀m1:Nat,(b2.blk m1 (.cells #[B k5,S k6 k7 k8,S k9 l0 l1,B l2,S l3 l4 l5,S l6 l7 l8,B l9,B m0] 45 (0,0)))->Acts prog 20 #[I J 3,S (some ⟨m1,0,none⟩) 1 1,S a b c] b2 fun t1 t2=>∃m2 m3 m4,t1=S m2 m3 m4/\∀t7:C->Value,(Ca t2 11 #[S m2 m3 m4] fun t3 t4=>∃m5 m6 m7,t3=S m5 m6 m7/\(Ca t4 18 #[S e8 e9 f0,S m5 m6 m7] fun t5 t6=>∃m8,t5=B m8/\(Rt t6 R (B m8)))))))/\(b1=false->(Rt k4 R (B false))))))))/\(b0=false->(Rt i7 R (B false))))))))/\(a9=false->(Rt i0 R (B false))))))))/\(a8=false->(Rt g3 R (B false))))))))/\(a7=false->(Rt f6 R (B false)))))))))))))))))))))))))))):
 Acts prog 5 #[S b3 b4 b5] V R:=
 fd (LF:=LF0) (RF:=[1000010]) [] [] func5 h
end Go.Proofs.Tryz
/- Contracts: Join, Full. -/
namespace Go.Proofs.Tryz
open Go.Eng Go.Big
theorem c_J1 (a b:Bool) (W:View):Acts prog 152 #[.bool a,.bool b] W fun r _=>r=.bool ((fun x _=>x:Bool->Bool->Bool) a b):=
 vc_geo_Join_1 a b W _ fun V l=>rfl
theorem c_geo_Join {V:View} {p:OA} {n c:Nat} {A:List Sp} (hA:Lst 8 RIv V p n A) (hg:∀s ∈ A,s.good) (hs:∀s ∈ A,s.sz 10000) (hn:A.length<=1000) (hf:fe A < 50) :
  Acts prog 89 #[.slice p n c] V fun r V'=>∃q m e,r=.slice q m e/\Lst 8 RIv V' q m (combL 1 A []):=by
 refine vc_geo_Join p n c V _ fun V1 l1=>(c_sweepG (op:=1) (acc:=fun x _=>x) (fun t=>by simp [opB,inB]) (hA.le l1 fun _ _ g=>RIv.le g l1) (Lst.nil (p:=none)) hg (fun s h=>by cases h) hs (fun s h=>by cases h) hn (by decide) (by have:fe []=0:=rfl; omega) c_J1).mono ?_
 rintro r V2 l2 ⟨q,m,e,rfl,g⟩
 exact ⟨_,_,_,rfl,fun V3 l3=>⟨_,_,_,rfl,g.le l3 fun _ _ g=>RIv.le g l3⟩⟩
theorem c_span_Join {V:View} {p:OA} {n c:Nat} {A:List Sp} (hA:Lst 8 RSp V p n A) (hg:∀s ∈ A,s.good) (hs:∀s ∈ A,s.sz 10000) (hn:A.length<=20) :
  Acts prog 26 #[.slice p n c] V fun r V'=>∃q m e,r=.tuple #[.slice q m e,.nilIface]/\Lst 8 RSp V' q m (combL 1 A []):=by
 have hf:=fe_le A
 have hcl:=comb_len 1 A []
 have f0:fe []=0:=rfl
 refine vc_span_Join p n c V _ fun V1 l1=>(c_IvsOf (hA.le l1 fun _ _ g=>RSp.le g l1) (by omega) hg hs).mono ?_
 rintro r V2 l2 ⟨p1,n1,d1,rfl,g1⟩
 refine ⟨_,_,_,_,rfl,(fun h=>nomatch h),fun _ V4 l4=>(c_geo_Join (g1.le l4 fun _ _ g=>RIv.le g l4) hg hs (by omega) (by omega)).mono ?_⟩
 rintro r V5 l5 ⟨p3,n3,d3,rfl,g3⟩
 refine ⟨_,_,_,rfl,fun V6 l6=>(c_Set_API (g3.le l6 fun _ _ g=>RIv.le g l6) (by omega) (comb_sz (by decide) hs fun s h=>by cases h) (by decide)).mono ?_⟩
 rintro r V10 l10 ⟨p4,n4,d4,rfl,g4⟩
 exact ⟨_,_,_,rfl,fun V11 l11=>⟨_,_,_,rfl,g4.le l11 fun _ _ g=>RSp.le g l11⟩⟩
theorem RSs.full (V:View):RSs V (.agg #[.bool false,.slice none 0 0,.slice none 0 0,.bool false,.slice none 0 0,.slice none 0 0,.bool true,.bool true]) fullS:=
 ⟨_,_,_,_,_,_,_,_,_,_,_,_,_,_,rfl,RQ.zero,RQ.zero⟩
end Go.Proofs.Tryz
/- Law 06: SpanCombines (printed by mkcomb.py). -/
namespace Go.Proofs.Tryz
open Go.Eng Go.Big
theorem c_Full {V:View}:Acts prog 27 #[] V fun r V'=>r=.agg #[.bool false,.slice none 0 0,.slice none 0 0,.bool false,.slice none 0 0,.slice none 0 0,.bool true,.bool true]:=
 vc_ref06_Full V _ fun V1 l1=>rfl
theorem fullz:∀s ∈ [fullS],s.sz 40:=fun s h=>by rw [List.mem_singleton.1 h]; exact ⟨szz _ (by decide),szz _ (by decide)⟩
set_option maxHeartbeats 1000000 in
theorem c_SpanCombines {V:View} {lp:OA} {ln lc:Nat} (hr:Rdl V lp ln) (hc:ln<=lc) :
  Acts prog 5 #[.slice lp ln lc] V fun r V'=>r=.bool true:=by
 refine vc_law06_SpanCombines lp ln lc V _ fun V1 l1=>(c_scene_New hc).mono ?_
 rintro r V2 l2 ⟨bk1,rfl,hfr,hb⟩
 refine ⟨bk1,_,_,_,_,rfl,hfr,hb,fun V3 l3 bk4 e4 h4=>?_⟩
 have l13:V1.Le V3:=le_fresh l2 hfr l3
 have hmin:min ln 400<=400:=Nat.min_le_right _ _
 replace hr:Rdl V lp (min ln 400):=fun i hi=>hr i (Nat.lt_of_lt_of_le hi (Nat.min_le_left _ _))
 generalize min ln 400=n at *
 replace hr:=hr.le (l1.trans l13)
 clear l1 l2 l3 l13 hfr hb
 refine (c_Ss (V:=V3.lend [bk4]) 5 (hr.le fun b o h=>h) hmin e4 ⟨by simp,h4⟩ (Int.le_refl 0) (by decide) (by decide)).mono ?_
 rintro r V4 l4 ⟨ql,ml,dl,LL,at1,rfl,gl,ll,hgl,t1,hw1⟩
 refine ⟨_,_,_,rfl,_,_,_,_,hw1,fun V5 l5 bk8 e5 h5=>(c_made (V:=V5.lend [bk8]) (hr.le fun b o h=>l5 b o (l4 b o h)) hmin e5 ⟨by simp,h5⟩ t1).mono ?_⟩
 rintro r V6 l6 ⟨qa,ma,da,A,at2,rfl,ga,oa,sa,t2,hw2⟩
 have L4:V3.Le V6:=fun b o h=>l6 b o (l5 b o (l4 b o h))
 replace gl:=gl.le (V':=V6) fun b o h=>l6 b o (l5 b o h)
 replace hr:=hr.le L4
 refine ⟨_,_,_,rfl,_,_,_,_,hw2,fun V7 l7 bk12 e7 h7=>(c_made (V:=V7.lend [bk12]) (hr.le fun b o h=>l7 b o h) hmin e7 ⟨by simp,h7⟩ t2).mono ?_⟩
 rintro r V8 l8 ⟨qb,mb,db,B,at3,rfl,gb,ob,sb,t3,hw3⟩
 have L6:V6.Le V8:=fun b o h=>l8 b o (l7 b o h)
 replace gl:=gl.le L6
 replace ga:=ga.le L6
 have sl:∀s ∈ LL,s.sz 40:=fun s h=>(hgl s h).2
 have fa:=oa.len
 have fb:=ob.len
 have f0:fe []=0:=rfl
 have fl:=fe_le LL
 clear L4 L6 hr l4 l5 l6 l7 l8 e4 e5 e7 h4 h5 h7 t1 t2 t3
 refine ⟨_,_,_,rfl,_,_,_,_,hw3,fun V9 l9=>(c_ref06_WriteAll (RSl.le ga fun b o h=>l9 b o h).lst (by omega) sa (by decide)).mono ?_⟩
 rintro r V10 l10 ⟨pa,na,ca,rfl,ha⟩
 have L9:View.Le V8 V10:=fun b o h=>l10 b o (l9 b o h)
 replace gl:=gl.le L9
 replace ga:=ga.le L9
 replace gb:=gb.le L9
 refine ⟨_,_,_,rfl,fun V11 l11=>(c_ref06_WriteAll (RSl.le gb fun b o h=>l11 b o h).lst (by omega) sb (by decide)).mono ?_⟩
 rintro r V12 l12 ⟨pb,nb,cb,rfl,hb⟩
 have L11:View.Le V10 V12:=fun b o h=>l12 b o (l11 b o h)
 replace gl:=gl.le L11
 replace ga:=ga.le L11
 replace gb:=gb.le L11
 replace ha:=up ha L11
 refine ⟨_,_,_,rfl,fun V13 l13=>(c_ref06_WriteAll (RSl.le gl fun b o h=>l13 b o h).lst (by omega) sl (by decide)).mono ?_⟩
 rintro r V14 l14 ⟨pl,nl,cl,rfl,hl⟩
 have L13:View.Le V12 V14:=fun b o h=>l14 b o (l13 b o h)
 replace gl:=gl.le L13
 replace ga:=ga.le L13
 replace gb:=gb.le L13
 replace ha:=up ha L13
 replace hb:=up hb L13
 refine ⟨_,_,_,rfl,fun V15 l15=>(c_span_Join (up hl l15) (fun s h=>(hgl s h).1) (fun s h=>sz_up (sl s h)) (by omega)).mono ?_⟩
 rintro r V16 l16 ⟨pj,nj,cj,rfl,hj⟩
 have L15:=l15.trans l16
 replace gl:=gl.le L15
 replace ga:=ga.le L15
 replace gb:=gb.le L15
 replace ha:=up ha L15
 replace hb:=up hb L15
 replace hl:=up hl L15
 refine ⟨_,_,_,_,rfl,fun V17 l17=>(c_span_Union (up ha l17) (up hb l17) oa ob (by decide)).mono ?_⟩
 rintro r V18 l18 ⟨pu,nu,cu,rfl,hu⟩
 have L17:=l17.trans l18
 replace gl:=gl.le L17
 replace ga:=ga.le L17
 replace gb:=gb.le L17
 replace ha:=up ha L17
 replace hb:=up hb L17
 replace hl:=up hl L17
 replace hj:=up hj L17
 have ou:=oa.comb ob 1
 refine ⟨_,_,_,_,rfl,fun V19 l19=>(c_span_Intersect (up ha l19) (up hb l19) oa ob (by decide)).mono ?_⟩
 rintro r V20 l20 ⟨pi,ni,ci,rfl,hi⟩
 have L19:=l19.trans l20
 replace gl:=gl.le L19
 replace ga:=ga.le L19
 replace gb:=gb.le L19
 replace ha:=up ha L19
 replace hb:=up hb L19
 replace hl:=up hl L19
 replace hj:=up hj L19
 replace hu:=up hu L19
 have oi:=oa.comb ob 2
 refine ⟨_,_,_,_,rfl,fun V21 l21=>(c_span_Subtract (up ha l21) (up hb l21) oa ob (by decide)).mono ?_⟩
 rintro r V22 l22 ⟨pd,nd,cd,rfl,hd⟩
 have L21:=l21.trans l22
 replace gl:=gl.le L21
 replace ga:=ga.le L21
 replace gb:=gb.le L21
 replace ha:=up ha L21
 replace hb:=up hb L21
 replace hl:=up hl L21
 replace hj:=up hj L21
 replace hu:=up hu L21
 replace hi:=up hi L21
 have od:=oa.comb ob 3
 refine ⟨_,_,_,_,rfl,fun V23 l23=>(c_span_Complement (up ha l23) oa (by decide)).mono ?_⟩
 rintro r V24 l24 ⟨pc,nc,cc,rfl,hc⟩
 have L23:=l23.trans l24
 replace gl:=gl.le L23
 replace ga:=ga.le L23
 replace gb:=gb.le L23
 replace ha:=up ha L23
 replace hb:=up hb L23
 replace hl:=up hl L23
 replace hj:=up hj L23
 replace hu:=up hu L23
 replace hi:=up hi L23
 replace hd:=up hd L23
 have oc:=ok6_full.comb oa 3
 refine ⟨_,_,_,_,rfl,.inl rfl,(fun h=>nomatch h),fun _=>⟨.inl rfl,(fun h=>nomatch h),fun _=>⟨.inl rfl,(fun h=>nomatch h),fun _=>⟨.inl rfl,(fun h=>nomatch h),fun _=>⟨.inl rfl,(fun h=>nomatch h),fun _ V25 l25=>c_known6.mono ?_⟩⟩⟩⟩⟩
 rintro r V26 l26 rfl
 have L25:=l25.trans l26
 replace gl:=gl.le L25
 replace ga:=ga.le L25
 replace gb:=gb.le L25
 replace ha:=up ha L25
 replace hb:=up hb L25
 replace hl:=up hl L25
 replace hj:=up hj L25
 replace hu:=up hu L25
 replace hi:=up hi L25
 replace hd:=up hd L25
 replace hc:=up hc L25
 have oj:(∀s ∈ combL 1 LL [],s.sz 40)/\(combL 1 LL []).length<=1000:=⟨comb_sz (by decide) sl fun s h=>(by cases h),by have:=comb_len 1 LL []; omega⟩
 refine ⟨_,rfl,fun _ V27 l27=>(c_ref06_Combine (V:=V27) (op:=1) (la':=LL) (lb':=[]) (gl.le l27) ⟨rfl,fun i hi=>absurd hi (Nat.not_lt_zero i)⟩ (by rw [List.length_nil]; omega) sl (fun s h=>by cases h) (by decide)).mono ?_,(fun h=>nomatch h)⟩
 rintro r V28 l28 ⟨p27,n27,c27,rfl,gg⟩
 have L27:=l27.trans l28
 replace gl:=gl.le L27
 replace ga:=ga.le L27
 replace gb:=gb.le L27
 replace ha:=up ha L27
 replace hb:=up hb L27
 replace hl:=up hl L27
 replace hj:=up hj L27
 replace hu:=up hu L27
 replace hi:=up hi L27
 replace hd:=up hd L27
 replace hc:=up hc L27
 refine ⟨_,_,_,rfl,fun V29 l29=>(c_ref06_WriteAll (gg.le l29).lst oj.2 oj.1 (by decide)).mono ?_⟩
 rintro r V30 l30 ⟨p29,n29,c29,rfl,gg⟩
 have L29:=l29.trans l30
 replace gl:=gl.le L29
 replace ga:=ga.le L29
 replace gb:=gb.le L29
 replace ha:=up ha L29
 replace hb:=up hb L29
 replace hl:=up hl L29
 replace hj:=up hj L29
 replace hu:=up hu L29
 replace hi:=up hi L29
 replace hd:=up hd L29
 replace hc:=up hc L29
 refine ⟨_,_,_,rfl,fun V31 l31=>(c_SameAll (up hj l31) (up gg l31) oj.2 (fun s h=>sz_up (oj.1 s h))).mono ?_⟩
 rintro r V32 l32 rfl
 have L31:=l31.trans l32
 clear gg
 replace gl:=gl.le L31
 replace ga:=ga.le L31
 replace gb:=gb.le L31
 replace ha:=up ha L31
 replace hb:=up hb L31
 replace hl:=up hl L31
 replace hj:=up hj L31
 replace hu:=up hu L31
 replace hi:=up hi L31
 replace hd:=up hd L31
 replace hc:=up hc L31
 refine ⟨_,rfl,fun _ V33 l33=>(c_ref06_Combine (V:=V33) (op:=1) (la':=A) (lb':=B) (ga.le l33) (gb.le l33) (by omega) sa sb (by decide)).mono ?_,(fun h=>nomatch h)⟩
 rintro r V34 l34 ⟨p33,n33,c33,rfl,gg⟩
 have L33:=l33.trans l34
 replace gl:=gl.le L33
 replace ga:=ga.le L33
 replace gb:=gb.le L33
 replace ha:=up ha L33
 replace hb:=up hb L33
 replace hl:=up hl L33
 replace hj:=up hj L33
 replace hu:=up hu L33
 replace hi:=up hi L33
 replace hd:=up hd L33
 replace hc:=up hc L33
 refine ⟨_,_,_,rfl,fun V35 l35=>(c_ref06_WriteAll (gg.le l35).lst (Nat.le_trans ou.len (by decide)) (comb_sz (by decide) sa sb) (by decide)).mono ?_⟩
 rintro r V36 l36 ⟨p35,n35,c35,rfl,gg⟩
 have L35:=l35.trans l36
 replace gl:=gl.le L35
 replace ga:=ga.le L35
 replace gb:=gb.le L35
 replace ha:=up ha L35
 replace hb:=up hb L35
 replace hl:=up hl L35
 replace hj:=up hj L35
 replace hu:=up hu L35
 replace hi:=up hi L35
 replace hd:=up hd L35
 replace hc:=up hc L35
 refine ⟨_,_,_,rfl,fun V37 l37=>(c_SameAll (up hu l37) (up gg l37) (Nat.le_trans ou.len (by decide)) ou.sz).mono ?_⟩
 rintro r V38 l38 rfl
 have L37:=l37.trans l38
 clear gg
 replace gl:=gl.le L37
 replace ga:=ga.le L37
 replace gb:=gb.le L37
 replace ha:=up ha L37
 replace hb:=up hb L37
 replace hl:=up hl L37
 replace hj:=up hj L37
 replace hu:=up hu L37
 replace hi:=up hi L37
 replace hd:=up hd L37
 replace hc:=up hc L37
 refine ⟨_,rfl,fun _ V39 l39=>(c_ref06_Combine (V:=V39) (op:=2) (la':=A) (lb':=B) (ga.le l39) (gb.le l39) (by omega) sa sb (by decide)).mono ?_,(fun h=>nomatch h)⟩
 rintro r V40 l40 ⟨p39,n39,c39,rfl,gg⟩
 have L39:=l39.trans l40
 replace gl:=gl.le L39
 replace ga:=ga.le L39
 replace gb:=gb.le L39
 replace ha:=up ha L39
 replace hb:=up hb L39
 replace hl:=up hl L39
 replace hj:=up hj L39
 replace hu:=up hu L39
 replace hi:=up hi L39
 replace hd:=up hd L39
 replace hc:=up hc L39
 refine ⟨_,_,_,rfl,fun V41 l41=>(c_ref06_WriteAll (gg.le l41).lst (Nat.le_trans oi.len (by decide)) (comb_sz (by decide) sa sb) (by decide)).mono ?_⟩
 rintro r V42 l42 ⟨p41,n41,c41,rfl,gg⟩
 have L41:=l41.trans l42
 replace gl:=gl.le L41
 replace ga:=ga.le L41
 replace gb:=gb.le L41
 replace ha:=up ha L41
 replace hb:=up hb L41
 replace hl:=up hl L41
 replace hj:=up hj L41
 replace hu:=up hu L41
 replace hi:=up hi L41
 replace hd:=up hd L41
 replace hc:=up hc L41
 refine ⟨_,_,_,rfl,fun V43 l43=>(c_SameAll (up hi l43) (up gg l43) (Nat.le_trans oi.len (by decide)) oi.sz).mono ?_⟩
 rintro r V44 l44 rfl
 have L43:=l43.trans l44
 clear gg
 replace gl:=gl.le L43
 replace ga:=ga.le L43
 replace gb:=gb.le L43
 replace ha:=up ha L43
 replace hb:=up hb L43
 replace hl:=up hl L43
 replace hj:=up hj L43
 replace hu:=up hu L43
 replace hi:=up hi L43
 replace hd:=up hd L43
 replace hc:=up hc L43
 refine ⟨_,rfl,fun _ V45 l45=>(c_ref06_Combine (V:=V45) (op:=3) (la':=A) (lb':=B) (ga.le l45) (gb.le l45) (by omega) sa sb (by decide)).mono ?_,(fun h=>nomatch h)⟩
 rintro r V46 l46 ⟨p45,n45,c45,rfl,gg⟩
 have L45:=l45.trans l46
 replace gl:=gl.le L45
 replace ga:=ga.le L45
 replace gb:=gb.le L45
 replace ha:=up ha L45
 replace hb:=up hb L45
 replace hl:=up hl L45
 replace hj:=up hj L45
 replace hu:=up hu L45
 replace hi:=up hi L45
 replace hd:=up hd L45
 replace hc:=up hc L45
 refine ⟨_,_,_,rfl,fun V47 l47=>(c_ref06_WriteAll (gg.le l47).lst (Nat.le_trans od.len (by decide)) (comb_sz (by decide) sa sb) (by decide)).mono ?_⟩
 rintro r V48 l48 ⟨p47,n47,c47,rfl,gg⟩
 have L47:=l47.trans l48
 replace gl:=gl.le L47
 replace ga:=ga.le L47
 replace gb:=gb.le L47
 replace ha:=up ha L47
 replace hb:=up hb L47
 replace hl:=up hl L47
 replace hj:=up hj L47
 replace hu:=up hu L47
 replace hi:=up hi L47
 replace hd:=up hd L47
 replace hc:=up hc L47
 refine ⟨_,_,_,rfl,fun V49 l49=>(c_SameAll (up hd l49) (up gg l49) (Nat.le_trans od.len (by decide)) od.sz).mono ?_⟩
 rintro r V50 l50 rfl
 have L49:=l49.trans l50
 clear gg
 replace gl:=gl.le L49
 replace ga:=ga.le L49
 replace gb:=gb.le L49
 replace ha:=up ha L49
 replace hb:=up hb L49
 replace hl:=up hl L49
 replace hj:=up hj L49
 replace hu:=up hu L49
 replace hi:=up hi L49
 replace hd:=up hd L49
 replace hc:=up hc L49
 refine ⟨_,rfl,fun _ V51 l51=>c_Full.mono ?_,(fun h=>nomatch h)⟩
 rintro r V52 l52 rfl
 have L51:=l51.trans l52
 replace gl:=gl.le L51
 replace ga:=ga.le L51
 replace gb:=gb.le L51
 replace ha:=up ha L51
 replace hb:=up hb L51
 replace hl:=up hl L51
 replace hj:=up hj L51
 replace hu:=up hu L51
 replace hi:=up hi L51
 replace hd:=up hd L51
 replace hc:=up hc L51
 refine ⟨_,_,_,_,_,_,_,_,_,_,_,_,_,_,_,_,rfl,fun V53 l53 bk hb=>(c_ref06_Combine (V:=V53) (op:=3) (la':=[fullS]) (lb':=A) (lst_rsl (Lst.of_row (vs:=[.bool false,.slice none 0 0,.slice none 0 0,.bool false,.slice none 0 0,.slice none 0 0,.bool true,.bool true]) hb (row_one rfl (RSs.full _)))) (ga.le l53) (by rw [List.length_singleton]; omega) fullz sa (by decide)).mono ?_⟩
 rintro r V54 l54 ⟨p53,n53,c53,rfl,gg⟩
 replace hc:=up hc (l53.trans l54)
 refine ⟨_,_,_,rfl,fun _ V55 l55=>(c_ref06_WriteAll (gg.le l55).lst (Nat.le_trans oc.len (by decide)) (comb_sz (by decide) fullz sa) (by decide)).mono ?_⟩
 rintro r V56 l56 ⟨p55,n55,c55,rfl,gg⟩
 replace hc:=up hc (l55.trans l56)
 refine ⟨_,_,_,rfl,fun V57 l57=>(c_SameAll (up hc l57) (up gg l57) (Nat.le_trans oc.len (by decide)) oc.sz).mono ?_⟩
 rintro r V58 l58 rfl
 exact ⟨_,rfl,fun V59 l59=>rfl⟩
end Go.Proofs.Tryz
