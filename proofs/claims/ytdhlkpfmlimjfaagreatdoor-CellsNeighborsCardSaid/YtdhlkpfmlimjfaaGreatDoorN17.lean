import Derived.Test.YtdhlkpfmlimjfaaGreatDoorN16
import Derived.Test.YtdhlkpfmlimjfaaGreatDoorN15
import Derived.Test.YtdhlkpfmlimjfaaGreatDoorN9
set_option linter.unusedVariables false
open Go.IntKind (i64 u64 u32)
namespace Go.Proofs.Tryz
open Go.Eng Go.Big
theorem AD (V:View):RQ V (.agg #[.bool false,.slice none 0 0,.slice none 0 0]) 0:=by have:=RQ.zero (V:=V);simpa using this
set_option maxHeartbeats 1000000 in
theorem zO {V:View}{p q:OA}{n c m e:Nat}{cuts:List Rat}{marks:List Bool}(hc:Lst 3 RQ V p n cuts)(hm:Lst 1 Rr V q m marks)(hlen:marks.length=cuts.length+1)(hn:cuts.length<100000000) :
  Acts prog 127 #[.slice p n c,.slice q m e] V fun r V'=>∃p' n' c',r=.slice p' n' c'/\Lst 8 lf V' p' n' (BT cuts marks):=by
 obtain rfl:=hc.len;obtain rfl:=hm.len
 refine xO p _ c q _ e V _ ⟨fun z V'=>∃i:Nat,z.2.2.2=(i:Int)/\i<=marks.length/\z.1=(b_ cuts marks i).length/\z.1<=z.2.1/\z.2.1*8<=z.2.2.1.length/\Row 8 lf V' z.2.2.1 (b_ cuts marks i),fun z=>marks.length-z.2.2.2.toNat,
  ⟨(0,0,[],0),by and_intros<;>rfl,0,rfl,Nat.zero_le _,rfl,Nat.le_refl _,Nat.le_refl _,Row.nil⟩,?_⟩
 rintro ⟨f,z2,vs,z4⟩ V1 O ⟨i,e4,b3,P,K,Z,hx⟩;dsimp only at e4 P K Z hx;subst e4;refine ⟨rfl,fun y=>?_,fun y V5 l5 bk hb=>?_⟩
 ·have y:(i:Int)<marks.length:=of_decide_eq_true y;have hi:i<marks.length:=by omega
  have w:i64.wrap ((i:Int)+1)=(i:Int)+1:=i64w (by omega);have b4:=Gz cuts marks i;have R:marks.getD i false=marks[i]:=by rw [List.getD_eq_getElem?_getD,List.getElem?_eq_getElem hi];rfl
  have S:marks[i]=false->b_ cuts marks (i+1)=b_ cuts marks i:=fun h=>by
   show (if marks.getD i false=true then _ else _)=_;rw [R,h];rfl
  have l:marks[i]=true->b_ cuts marks (i+1)=if 0<i/\marks.getD (i-1) false=true/\0<(b_ cuts marks i).length then qI (b_ cuts marks i) (cN cuts i) else b_ cuts marks i++[cN cuts i]:=fun h=>by
   show (if marks.getD i false=true then _ else _)=_;rw [R,h];rfl
  dsimp only;rw [Int.toNat_natCast,w];obtain ⟨ad,ha,a0⟩:=Mk (hm.le O fun _ _ g=>g) hi;refine ⟨bF ha,⟨by omega,by omega⟩,marks[i],⟨ad,ha,a0⟩,fun hb=>?_,fun hb=>?_⟩
  ·rw [Bool.not_eq_true'] at hb;exact ⟨(f,z2,vs,(i:Int)+1),by dsimp only;omega,by and_intros<;>rfl,i+1,rfl,hi,by dsimp only;rw [S hb];exact P,K,Z,by dsimp only;rw [S hb];exact hx⟩
  ·rw [Bool.not_eq_false'] at hb;have l:=l hb;generalize b_ cuts marks i=out at *;generalize hO:b_ cuts marks (i+1)=out' at *;refine ⟨fun z V'=>RQ V' (.agg #[.bool z.1,.slice z.2.1 z.2.2.1 z.2.2.2.1,.slice z.2.2.2.2.1 z.2.2.2.2.2.1 z.2.2.2.2.2.2.1]) ((cN cuts i).lo)/\RQ V' (.agg #[.bool z.2.2.2.2.2.2.2.1,.slice z.2.2.2.2.2.2.2.2.1 z.2.2.2.2.2.2.2.2.2.1 z.2.2.2.2.2.2.2.2.2.2.1,.slice z.2.2.2.2.2.2.2.2.2.2.2.1 z.2.2.2.2.2.2.2.2.2.2.2.2.1 z.2.2.2.2.2.2.2.2.2.2.2.2.2.1]) (0)/\z.2.2.2.2.2.2.2.2.2.2.2.2.2.2.1=decide (i=0)/\z.2.2.2.2.2.2.2.2.2.2.2.2.2.2.2=decide (i=cuts.length),⟨fun s=>?_,fun s=>⟨(false,none,0,0,none,0,0,false,none,0,0,none,0,0,(i:Int)==0,(i:Int)==(cuts.length:Int)),by and_intros<;>rfl,?_⟩⟩,?_⟩
   ·have s:(i:Int)>0:=of_decide_eq_true s;have k:i-1<cuts.length:=by omega
    have T:i64.wrap ((i:Int)-1)=((i-1:Nat):Int):=by rw [i64w (by omega)];omega
    rw [T,Int.toNat_natCast];obtain ⟨U,b1,p3,n3,c3,p4,n4,c4,t,A,b0,L,b2⟩:=vv (hc.le O fun _ _ g=>g.le O) k;refine ⟨bF t,⟨by omega,by omega⟩,_,_,_,_,_,_,_,U,t,b0,L,b2,(b1,p3,n3,c3,p4,n4,c4,false,none,0,0,none,0,0,(i:Int)==0,(i:Int)==(cuts.length:Int)),by and_intros<;>rfl,?_,AD _,?_,?_⟩
    ·show RQ V1 _ (if 0<i then cuts.getD (i-1) 0 else 0);rw [if_pos (by omega),eZ k];exact A
    ·show ((i:Int)==0)=decide (i=0);rw [Bool.eq_iff_iff,beq_iff_eq,decide_eq_true_eq];omega
    ·show ((i:Int)==(cuts.length:Int))=decide (i=cuts.length);rw [Bool.eq_iff_iff,beq_iff_eq,decide_eq_true_eq];omega
   ·have s:¬(i:Int)>0:=of_decide_eq_false s;refine ⟨?_,AD _,?_,?_⟩
    ·show RQ V1 _ (if 0<i then cuts.getD (i-1) 0 else 0);rw [if_neg (by omega)];exact AD _
    ·show ((i:Int)==0)=decide (i=0);rw [Bool.eq_iff_iff,beq_iff_eq,decide_eq_true_eq];omega
    ·show ((i:Int)==(cuts.length:Int))=decide (i=cuts.length);rw [Bool.eq_iff_iff,beq_iff_eq,decide_eq_true_eq];omega
   ·rintro ⟨x1,x2,x3,x4,x5,x6,x7,x8,x9,a1,a2,a3,a4,a5,b5,b6⟩ V2 l2 ⟨hA,hB,hC,hD⟩;dsimp only at hA hB hC hD;subst hC hD;refine ⟨rfl,fun z V'=>RQ V' (.agg #[.bool z.1,.slice z.2.1 z.2.2.1 z.2.2.2.1,.slice z.2.2.2.2.1 z.2.2.2.2.2.1 z.2.2.2.2.2.2.1]) ((cN cuts i).lo)/\RQ V' (.agg #[.bool z.2.2.2.2.2.2.2.1,.slice z.2.2.2.2.2.2.2.2.1 z.2.2.2.2.2.2.2.2.2.1 z.2.2.2.2.2.2.2.2.2.2.1,.slice z.2.2.2.2.2.2.2.2.2.2.2.1 z.2.2.2.2.2.2.2.2.2.2.2.2.1 z.2.2.2.2.2.2.2.2.2.2.2.2.2.1]) ((cN cuts i).hi)/\z.2.2.2.2.2.2.2.2.2.2.2.2.2.2.1=decide (i=0)/\z.2.2.2.2.2.2.2.2.2.2.2.2.2.2.2=decide (i=cuts.length),⟨fun s=>?_,fun s=>⟨(x1,x2,x3,x4,x5,x6,x7,x8,x9,a1,a2,a3,a4,a5,decide (i=0),decide (i=cuts.length)),by and_intros<;>rfl,hA,?_,rfl,rfl⟩⟩,?_⟩
    ·have s:(i:Int)<cuts.length:=of_decide_eq_true s;have k:i<cuts.length:=by omega
     obtain ⟨U,b1,p3,n3,c3,p4,n4,c4,t,A,b0,L,b2⟩:=vv (hc.le (O.trans l2) fun _ _ g=>g.le (O.trans l2)) k;refine ⟨bF t,⟨by omega,by omega⟩,_,_,_,_,_,_,_,U,t,b0,L,b2,(x1,x2,x3,x4,x5,x6,x7,b1,p3,n3,c3,p4,n4,c4,decide (i=0),decide (i=cuts.length)),by and_intros<;>rfl,hA,?_,rfl,rfl⟩;show RQ V2 _ (if i<cuts.length then cuts.getD i 0 else 0);rw [if_pos k,eZ k];exact A
    ·have s:¬(i:Int)<cuts.length:=of_decide_eq_false s;show RQ V2 _ (if i<cuts.length then cuts.getD i 0 else 0);rw [if_neg (by omega)];exact hB
    ·rintro ⟨y1,y2,y3,y4,y5,y6,y7,D,E,F,G,H,u,I,b7,b8⟩ V3 l3 ⟨kA,kB,kC,kD⟩;dsimp only at kA kB kC kD;subst kC kD;refine ⟨rfl,fun z _=>z=decide (0<i/\marks.getD (i-1) false=true/\0<out.length),⟨fun s=>?_,fun s=>⟨false,by and_intros<;>rfl,?_⟩⟩,?_⟩
     ·have s:(i:Int)>0:=of_decide_eq_true s;have k:i-1<marks.length:=by omega
      have T:i64.wrap ((i:Int)-1)=((i-1:Nat):Int):=by rw [i64w (by omega)];omega
      have a6:marks.getD (i-1) false=marks[i-1]:=by rw [List.getD_eq_getElem?_getD,List.getElem?_eq_getElem k];rfl
      rw [T,Int.toNat_natCast,a6];obtain ⟨U,t,SD⟩:=Mk (hm.le (O.trans (l2.trans l3)) fun _ _ g=>g) k;refine ⟨bF t,⟨by omega,by omega⟩,marks[i-1],⟨U,t,SD⟩,fun M=>⟨_,by and_intros<;>rfl,?_⟩,fun M=>⟨false,by and_intros<;>rfl,?_⟩⟩
      ·dsimp only;rw [M,decide_eq_decide];constructor
       ·intro h;exact ⟨by omega,rfl,by omega⟩
       ·rintro ⟨_,_,h⟩;omega
      ·dsimp only;rw [M];simp
     ·have s:¬(i:Int)>0:=of_decide_eq_false s;dsimp only;rw [decide_eq_false];rintro ⟨h,_⟩;omega
     ·rintro z V4 l4 rfl;have gA:lf V4 (.agg #[.bool y1,.slice y2 y3 y4,.slice y5 y6 y7,.bool D,.slice E F G,.slice H u I,.bool (decide (i=0)),.bool (decide (i=cuts.length))]) (cN cuts i):=⟨_,_,_,_,_,_,_,_,_,_,_,_,_,_,rfl,kA.le l4,kB.le l4⟩;have B:=hx.le (V':=V4) fun _ _ g=>lf.le g (l2.trans (l3.trans l4));refine ⟨rfl,fun J=>?_,fun J=>?_⟩
      ·have J:=of_decide_eq_true J;rw [if_pos J] at l;have T:i64.wrap ((f:Int)-1)=((f-1:Nat):Int):=by rw [i64w (by omega)];omega
       rw [T,Int.toNat_natCast];have W:0<out.length:=J.2.2;have b9:=B.kR (by decide);have X:out.length-1<out.length:=by omega
       have a7:out.getLastD Sp.zero=out[out.length-1]:=by
        rw [List.getLastD_eq_getLast?,List.getLast?_eq_getElem?,List.getElem?_eq_getElem X];rfl
       obtain ⟨c0,-,a8,a9⟩:=B.at_ (out.length-1) X;obtain ⟨b,s1,s2,s3,s4,s5,s6,d,t1,t2,t3,t4,t5,t6,ex,A,c1⟩:=pC a8;subst ex;have sv:=nQ (vs:=vs) (xs:=[.bool D,.slice E F G,.slice H u I]) (o:=(f-1)*8+3) (by simp only [List.length_cons,List.length_nil];omega)
       have Zo:(fa vs ((f-1)*8+3) [.bool D,.slice E F G,.slice H u I]).length=vs.length:=by
        rw [sv];simp only [List.length_append,List.length_take,List.length_drop,List.length_cons,List.length_nil];omega
       have sg:∀r,r<(f-1)*8+3\/(f-1)*8+6<=r->(fa vs ((f-1)*8+3) [.bool D,.slice E F G,.slice H u I])[r]?=vs[r]?:=by
        intro r Y;rw [sv,List.append_assoc];have Q:(vs.take ((f-1)*8+3)).length=(f-1)*8+3:=by rw [List.length_take];omega
        rcases Y with Y|Y
        ·rw [List.getElem?_append_left (by omega),List.getElem?_take,if_pos Y]
        ·rw [List.getElem?_append_right (by omega),List.getElem?_append_right (by rw [Q];simp only [List.length_cons,List.length_nil];omega),List.getElem?_drop,Q];congr 1;simp only [List.length_cons,List.length_nil];omega
       have sm:∀j x,([.bool D,.slice E F G,.slice H u I]:List Value)[j]?=some x->(fa vs ((f-1)*8+3) [.bool D,.slice E F G,.slice H u I])[(f-1)*8+3+j]?=some x:=by
        intro j x C;have N:=(List.getElem?_eq_some_iff.1 C).1;have Q:(vs.take ((f-1)*8+3)).length=(f-1)*8+3:=by rw [List.length_take];omega
        rw [sv,List.append_assoc,List.getElem?_append_right (by omega),Q,Nat.add_sub_cancel_left,List.getElem?_append_left N];exact C
       generalize fa vs ((f-1)*8+3) [.bool D,.slice E F G,.slice H u I]=us at *;refine ⟨⟨by omega,by omega⟩,K,by omega,⟨by omega,by omega⟩,K,by omega,(f,z2,us.set ((f-1)*8+7) (.bool (decide (i=cuts.length))),(i:Int)+1),by dsimp only;omega,by and_intros<;>rfl,i+1,rfl,hi,?_,K,?_,?_⟩
       ·dsimp only;rw [hO,l,uM W];exact P
       ·dsimp only;rw [List.length_set,Zo];exact Z
       ·dsimp only;rw [hO,l];unfold qI;rw [a7];refine JH B W (xs:=[.bool b,.slice s1 s2 s3,.slice s4 s5 s6,.bool D,.slice E F G,.slice H u I,.bool out[out.length-1].a,.bool (cN cuts i).b]) rfl ⟨_,_,_,_,_,_,_,_,_,_,_,_,_,_,rfl,A,kB.le l4⟩ ?_ ?_
        ·intro r Y;rw [List.getElem?_set_ne (by omega),sg r (by omega)]
        ·intro j x C;have N:=(List.getElem?_eq_some_iff.1 C).1;have c2:j<8:=N;by_cases h7:j=7
         ·subst h7;rw [show (out.length-1)*8+7=(f-1)*8+7 by omega,List.getElem?_set_self (by omega)];exact C
         ·rw [List.getElem?_set_ne (by omega)];by_cases h3:j<3\/j=6
          ·rw [sg _ (by omega)];have hc:=a9 j x;have:j=0\/j=1\/j=2\/j=6:=by omega
           rcases this with rfl|rfl|rfl|rfl<;>exact hc C
          ·have:j=3\/j=4\/j=5:=by omega
           rcases this with rfl|rfl|rfl
           ·have:=sm 0 x C;rw [show (out.length-1)*8+3=(f-1)*8+3+0 by omega];exact this
           ·have:=sm 1 x C;rw [show (out.length-1)*8+4=(f-1)*8+3+1 by omega];exact this
           ·have:=sm 2 x C;rw [show (out.length-1)*8+5=(f-1)*8+3+2 by omega];exact this
      ·have J:=of_decide_eq_false J;rw [if_neg J] at l;refine ⟨by omega,K,Z,rfl,?_,fun sp c' h1 h2=>⟨(f+1,c',_,(i:Int)+1),by dsimp only;omega,by and_intros<;>rfl,i+1,rfl,hi,?_,h1,?_,?_⟩⟩
       ·intro v oA;simp only [List.mem_cons,List.not_mem_nil,or_false] at oA;rcases oA with rfl|rfl|rfl|rfl|rfl|rfl|rfl|rfl<;>rfl
       ·dsimp only;rw [hO,l,List.length_append,P];rfl
       ·dsimp only;have Q:(vs.take (f*8)).length=f*8:=by rw [List.length_take];omega
        rw [List.length_append,List.length_append,Q];simp only [List.length_cons,List.length_nil];omega
       ·dsimp only;rw [hO,l];have:=B.snoc (sp:=sp) rfl gA (by decide);rw [←P] at this;exact this
 ·have y:¬(i:Int)<marks.length:=of_decide_eq_false y;obtain rfl:i=marks.length:=by omega
  subst P;exact ⟨_,_,_,rfl,Lst.of_mrow hb (hx.le fun _ _ g=>lf.le g l5) (by decide) K⟩
end Go.Proofs.Tryz
namespace Go.Proofs.Tryz
open Go.Eng Go.Big
set_option linter.unusedSectionVars false
theorem M5 {a b:List Rat}{i:Nat}(h:a.length<=i):(a++b).getD i 0=b.getD (i-a.length) 0:=by
 rw [List.getD_eq_getElem?_getD,List.getElem?_append_right h,List.getD_eq_getElem?_getD]
theorem M4 {a b:List Rat}{i:Nat}(h:i<a.length):(a++b).getD i 0=a.getD i 0:=by
 rw [List.getD_eq_getElem?_getD,List.getElem?_append_left h,List.getD_eq_getElem?_getD]
def asc (c:List Rat):Prop:=c.Pairwise (·< ·)
theorem Cc {x q:Rat}:∀{o:List Rat},q∈cX x o↔q=x\/q∈o:=by
 intro o
 induction o with
 | nil=>simp [cX]
 | cons y r ih=>
  unfold cX;split
  ·rw [List.mem_cons,ih,List.mem_cons];constructor
   ·rintro (h|h|h)
    ·exact .inr (.inl h)
    ·exact .inl h
    ·exact .inr (.inr h)
   ·rintro (h|h|h)
    ·exact .inr (.inl h)
    ·exact .inl h
    ·exact .inr (.inr h)
  ·split
   ·rename_i e;subst e;exact ⟨.inr,fun h=>h.elim (fun e=>by subst e;simp) id⟩
   ·rw [List.mem_cons]
theorem ID {x:Rat}:∀{o:List Rat},asc o->asc (cX x o):=by
 intro o
 induction o with
 | nil=>intro _;simp [cX,asc]
 | cons y r ih=>
  intro h;obtain ⟨b,d⟩:=List.pairwise_cons.1 h;unfold cX;split
  ·rename_i c;refine List.pairwise_cons.2 ⟨fun q a=>?_,ih d⟩;rcases Cc.1 a with rfl|a
   ·exact c
   ·exact b q a
  ·split
   ·exact h
   ·rename_i e f;refine List.pairwise_cons.2 ⟨fun q a=>?_,h⟩;rcases List.mem_cons.1 a with rfl|a
    ·grind
    ·have:=b q a;grind
def Sp.ng (s:Sp)(q:Rat):Prop:=(s.a=false/\q=s.lo)\/(s.b=false/\q=s.hi)
theorem JR {s:Sp}{o:List Rat}{q:Rat}:q∈dQ s o 2↔s.ng q\/q∈o:=by
 show q∈(if s.b=true then (if s.a=true then o else cX s.lo o) else cX s.hi (if s.a=true then o else cX s.lo o))↔_;unfold Sp.ng;cases s.a<;>cases s.b<;>simp [Cc]
 ·constructor
  ·rintro (h|h|h)
   ·exact .inl (.inr h)
   ·exact .inl (.inl h)
   ·exact .inr h
  ·rintro ((h|h)|h)
   ·exact .inr (.inl h)
   ·exact .inl h
   ·exact .inr (.inr h)
theorem JQ {s:Sp}{o:List Rat}(h:asc o):asc (dQ s o 2):=by
 show asc (if s.b=true then (if s.a=true then o else cX s.lo o) else cX s.hi (if s.a=true then o else cX s.lo o));cases s.a<;>cases s.b<;>simp [ID,h]
theorem yF:∀(ss:List Sp)(o:List Rat),(asc o->asc (ss.foldl (fun o s=>dQ s o 2) o))/\∀q,q∈(ss.foldl (fun o s=>dQ s o 2) o)↔q∈o\/∃s∈ss,s.ng q:=by
 intro ss
 induction ss with
 | nil=>exact fun o=>⟨id,fun q=>by simp⟩
 | cons s r ih=>
  intro o;refine ⟨fun h=>(ih _).1 (JQ h),fun q=>?_⟩;rw [List.foldl_cons,(ih _).2,JR];constructor
  ·rintro ((h|h)|⟨t,a,b⟩)
   ·exact .inr ⟨s,by simp,h⟩
   ·exact .inl h
   ·exact .inr ⟨t,by simp [a],b⟩
  ·rintro (h|⟨t,a,b⟩)
   ·exact .inl (.inr h)
   ·rcases List.mem_cons.1 a with rfl|a
    ·exact .inl (.inl b)
    ·exact .inr ⟨t,a,b⟩
theorem BR (ss:List Sp):asc (cL ss):=(yF ss []).1 List.Pairwise.nil
theorem Ic {ss:List Sp}{q:Rat}:q∈cL ss↔∃s∈ss,s.ng q:=by
 have:=(yF ss []).2 q;simpa [cL] using this
section
variable {c:List Rat} (h:asc c)
include h
theorem qf {i j:Nat}(hij:i<j)(hj:j<c.length):c.getD i 0<c.getD j 0:=by
 rw [eZ (by omega),eZ hj];exact List.pairwise_iff_getElem.1 h i j (by omega) hj hij
theorem HH {i j:Nat}(hij:i<=j)(hj:j<c.length):c.getD i 0<=c.getD j 0:=by
 rcases Nat.lt_or_ge i j with a|a
 ·have:=qf h a hj;grind
 ·obtain rfl:i=j:=by omega
  grind
omit h
theorem KL {i:Nat}{t:Rat}:(cN c i).fI t↔(0<i->c.getD (i-1) 0<t)/\(i≠c.length->i<c.length->t<c.getD i 0)/\(i≠c.length->c.length<i->t<0):=by
 unfold cN Sp.fI;simp only [decide_eq_true_eq];constructor
 ·rintro ⟨d,a⟩;refine ⟨fun b=>?_,fun f e=>?_,fun f e=>?_⟩
  ·rcases d with d|d
   ·omega
   ·rwa [if_pos b] at d
  ·rcases a with a|a
   ·exact absurd a f
   ·rwa [if_pos e] at a
  ·rcases a with a|a
   ·exact absurd a f
   ·rwa [if_neg (by omega)] at a
 ·rintro ⟨d,a,f⟩;refine ⟨?_,?_⟩
  ·by_cases b:i=0
   ·exact .inl b
   ·rw [if_pos (by omega)];exact .inr (d (by omega))
  ·by_cases b:i=c.length
   ·exact .inl b
   ·refine .inr ?_;by_cases e:i<c.length
    ·rw [if_pos e];exact a b e
    ·rw [if_neg e];exact f b (by omega)
theorem lR {i:Nat}(hi:i<=c.length){t:Rat}:(cN c i).fI t↔(0<i->c.getD (i-1) 0<t)/\(i<c.length->t<c.getD i 0):=by
 rw [KL];exact ⟨fun ⟨a,b,_⟩=>⟨a,fun h=>b (by omega) h⟩,fun ⟨a,b⟩=>⟨a,fun _ h=>b h,fun _ h=>by omega⟩⟩
include h
theorem Io {i:Nat}(hi:i<=c.length):(cN c i).fR:=by
 refine ⟨⟨fun e=>?_,fun e=>?_⟩,Sp.ig.2 ?_⟩
 ·have e:i=0:=of_decide_eq_true e;subst e;rfl
 ·have e:i=c.length:=of_decide_eq_true e;subst e;exact if_neg (Nat.lt_irrefl _)
 ·by_cases a:i=0
  ·exact .inl (decide_eq_true a)
  ·by_cases b:i=c.length
   ·exact .inr (.inl (decide_eq_true b))
   ·refine .inr (.inr ?_);show (if 0<i then c.getD (i-1) 0 else 0)<(if i<c.length then c.getD i 0 else 0);rw [if_pos (by omega),if_pos (by omega)];exact qf h (by omega) (by omega)
theorem M3 {t:Rat}(ht:t∉c):∃i,i<=c.length/\(cN c i).fI t:=by
 have key:∀k,k<=c.length->(∀j,j<k->c.getD j 0<t)\/∃i,i<=c.length/\(cN c i).fI t:=by
  intro k
  induction k with
  | zero=>exact fun _=>.inl fun j b=>absurd b (Nat.not_lt_zero j)
  | succ k ih=>
   intro hk;rcases ih (by omega) with g|g
   ·by_cases a:c.getD k 0<t
    ·refine .inl fun j b=>?_;rcases Nat.lt_or_ge j k with d|d
     ·exact g j d
     ·obtain rfl:j=k:=by omega
      exact a
    ·refine .inr ⟨k,by omega,(lR (by omega)).2 ⟨fun e=>g _ (by omega),fun _=>?_⟩⟩
     have f:c.getD k 0≠t:=by
      rintro rfl;rw [eZ (by omega)] at ht;exact ht (List.getElem_mem _)
     grind
   ·exact .inr g
 rcases key c.length (Nat.le_refl _) with g|g
 ·exact ⟨c.length,Nat.le_refl _,(lR (Nat.le_refl _)).2 ⟨fun e=>g _ (by omega),fun e=>by omega⟩⟩
 ·exact g
theorem lT {i:Nat}(hi:i<=c.length){t u x:Rat}(ht:(cN c i).fI t)(hu:(cN c i).fI u)(hx:x∈c):(x<t↔x<u)/\(t<x↔u<x)/\x≠t:=by
 obtain ⟨t1,t2⟩:=(lR hi).1 ht;obtain ⟨d,e⟩:=(lR hi).1 hu;obtain ⟨j,b,rfl⟩:=List.getElem_of_mem hx;rw [←eZ b];rcases Nat.lt_or_ge j i with a|a
 ·have:=HH h (show j<=i-1 by omega) (by omega);have:=t1 (by omega);have:=d (by omega);grind
 ·have:=HH h a b;have:=t2 (by omega);have:=e (by omega);grind
theorem Jr {i:Nat}(hi:i<=c.length):(cN c i).fI ((ch c).getD i 0):=by
 rw [lR hi];unfold ch;by_cases a:c.length=0
 ·exact ⟨fun _=>by omega,fun _=>by omega⟩
 ·rw [if_neg a];have b:=ve c (show 1<=c.length by omega);by_cases d:i=c.length
  ·subst d;rw [M5 (by omega),b,Nat.sub_self];refine ⟨fun _=>?_,fun _=>by omega⟩;show _<c.getD (c.length-1) 0+((1:Int):Rat);grind
  ·rw [M4 (by omega)];unfold xd;by_cases e:i=0
   ·subst e;refine ⟨fun _=>by omega,fun _=>?_⟩;show c.getD 0 0-((1:Int):Rat)<_;grind
   ·obtain ⟨m,rfl⟩:∃m,i=m+1:=⟨i-1,by omega⟩;have:=qf h (show m<m+1 by omega) (by omega)
    have f:((List.range (c.length-1)).map fun k=>(c.getD k 0+c.getD (k+1) 0)*((2:Int):Rat)⁻¹).getD m 0=(c.getD m 0+c.getD (m+1) 0)*((2:Int):Rat)⁻¹:=by
     rw [List.getD_eq_getElem?_getD,List.getElem?_map,List.getElem?_range (by omega)];rfl
    rw [List.getD_cons_succ,f,Nat.add_sub_cancel];generalize c.getD m 0=x at *;generalize c.getD (m+1) 0=y at *;exact ⟨fun _=>by grind,fun _=>by grind⟩
omit h
theorem fk:(ch c).length=c.length+1:=by
 unfold ch;by_cases a:c.length=0
 ·rw [if_pos a,a];rfl
 ·rw [if_neg a,List.length_append,ve c (by omega)];rfl
end
section
variable {c:List Rat} {ms:List Bool}
structure FI (c:List Rat) (ms:List Bool) (i:Nat):Prop where
 r:xg (b_ c ms i)
 mem:∀t,t∉c->(qM (b_ c ms i) t↔∃j,j<i/\ms.getD j false=true/\(cN c j).fI t)
 top:0<i->i<=c.length->∀s∈b_ c ms i,s.b=false/\s.hi<=c.getD (i-1) 0
 str:0<i->i<=c.length->ms.getD (i-1) false=false->∀s∈b_ c ms i,s.hi<c.getD (i-1) 0
 last:0<i->i<=c.length->ms.getD (i-1) false=true->∃l0 l,b_ c ms i=l0++[l]/\l.hi=c.getD (i-1) 0
theorem qN {ss:List Sp}{s:Sp}{t:Rat}:qM (ss++[s]) t↔qM ss t\/s.fI t:=by
 unfold qM;constructor
 ·rintro ⟨x,a,b⟩;rcases List.mem_append.1 a with a|a
  ·exact .inl ⟨x,a,b⟩
  ·obtain rfl:x=s:=by simpa using a
   exact .inr b
 ·rintro (⟨x,a,b⟩|b)
  ·exact ⟨x,by simp [a],b⟩
  ·exact ⟨s,by simp,b⟩
theorem CL {ss:List Sp}{s:Sp}(h:xg ss)(hs:s.fR)(hb:∀x∈ss,x.HK s):xg (ss++[s]):=by
 refine ⟨fun x a=>?_,List.pairwise_append.2 ⟨h.2,by simp,fun x a y b=>?_⟩⟩
 ·rcases List.mem_append.1 a with a|a
  ·exact h.1 x a
  ·obtain rfl:x=s:=by simpa using a
   exact hs
 ·obtain rfl:y=s:=by simpa using b
  exact hb x a
theorem JC {ss:List Sp}{s:Sp}(h:xg (ss++[s])):xg ss/\s.fR/\∀x∈ss,x.HK s:=by
 obtain ⟨b,-,c⟩:=List.pairwise_append.1 h.2;exact ⟨⟨fun x a=>h.1 x (by simp [a]),b⟩,h.1 s (by simp),fun x a=>c x a s (by simp)⟩
theorem zZ {P:Nat->Prop}{i:Nat}:(∃j,j<i+1/\P j)↔(∃j,j<i/\P j)\/P i:=by
 constructor
 ·rintro ⟨j,b,a⟩;rcases Nat.lt_or_ge j i with h|h
  ·exact .inl ⟨j,h,a⟩
  ·obtain rfl:j=i:=by omega
   exact .inr a
 ·rintro (⟨j,b,a⟩|a)
  ·exact ⟨j,by omega,a⟩
  ·exact ⟨i,by omega,a⟩
theorem KH (h:asc c){i:Nat}(hi:i<=c.length)(F:FI c ms i):FI c ms (i+1):=by
 have z:=Io h hi;have A:i<c.length->(cN c i).hi=c.getD i 0:=fun j=>if_pos j;have B:0<i->(cN c i).lo=c.getD (i-1) 0:=fun j=>if_pos j;have C:0<i->(cN c i).a=false:=fun j=>decide_eq_false (by omega);have G:i<c.length->(cN c i).b=false:=fun j=>decide_eq_false (by omega);by_cases hm:ms.getD i false=true
 ·have w:¬ms.getD i false=false:=by rw [hm];decide
  by_cases j:0<i/\ms.getD (i-1) false=true
  ·obtain ⟨H,l,el,E⟩:=F.last j.1 hi j.2
   have e:b_ c ms (i+1)=H++[⟨l.lo,(cN c i).hi,l.a,(cN c i).b⟩]:=by
    rw [b_,if_pos hm,if_pos ⟨j.1,j.2,by rw [el];simp⟩,el];simp [qI]
   have I:=F.r;rw [el] at I;obtain ⟨f1,f2,f3⟩:=JC I;have m:l.b=false:=(F.top j.1 hi l (by rw [el];simp)).1
   have u:(⟨l.lo,(cN c i).hi,l.a,(cN c i).b⟩:Sp).fR:=by
    refine ⟨⟨f2.1.1,z.1.2⟩,Sp.ig.2 ?_⟩;dsimp only
    cases ha:l.a with
    | true=>exact .inl rfl
    | false=>
     cases hb:(cN c i).b with
     | true=>exact .inr (.inl rfl)
     | false=>
      have n:=nh f2.2 ha m;have q:=nh z.2 (C j.1) hb;rw [B j.1] at q;exact .inr (.inr (by grind))
   refine ⟨?_,fun t v=>?_,fun _ d s f=>?_,fun _ d k=>?_,fun _ d _=>?_⟩
   ·rw [e];exact CL f1 u fun x k=>⟨(f3 x k).1,(f3 x k).2.1,(f3 x k).2.2⟩
   ·rw [e,zZ,←F.mem t v,qN,el,qN,or_assoc];refine or_congr Iff.rfl ?_
    have hk:(cN c i).fI t↔c.getD (i-1) 0<t/\((cN c i).b=true\/t<(cN c i).hi):=by
     unfold Sp.fI;rw [C j.1,B j.1];simp
    have J:t≠c.getD (i-1) 0:=by
     rintro rfl;rw [eZ (by omega)] at v;exact v (List.getElem_mem _)
    rw [hk];show (l.a=true\/l.lo<t)/\((cN c i).b=true\/t<(cN c i).hi)↔((l.a=true\/l.lo<t)/\(l.b=true\/t<l.hi))\/_;rw [E,m]
    have n:l.a=true\/l.lo<c.getD (i-1) 0:=by
     cases ha:l.a with
     | true=>exact .inl rfl
     | false=>have:=nh f2.2 ha m;rw [E] at this;exact .inr this
    have q:(cN c i).b=true\/c.getD (i-1) 0<(cN c i).hi:=by
     cases hb:(cN c i).b with
     | true=>exact .inl rfl
     | false=>have:=nh z.2 (C j.1) hb;rw [B j.1] at this;exact .inr this
    constructor
    ·rintro ⟨D,o⟩;by_cases g:t<c.getD (i-1) 0
     ·exact .inl ⟨D,.inr g⟩
     ·exact .inr ⟨hm,by grind,o⟩
    ·rintro (⟨D,o⟩|⟨-,D,o⟩)
     ·have L:t<c.getD (i-1) 0:=by
       rcases o with o|o
       ·cases o
       ·exact o
      exact ⟨D,q.imp_right fun q=>by grind⟩
     ·exact ⟨n.imp_right fun n=>by grind,o⟩
   ·rw [e] at f;rw [Nat.add_sub_cancel];rcases List.mem_append.1 f with f|f
    ·have b:=f3 s f;refine ⟨b.1,?_⟩;have n:l.lo<c.getD (i-1) 0:=by have:=nh f2.2 b.2.1 m;rwa [E] at this
     have q:=qf h (show i-1<i by omega) d;have:=b.2.2;grind
    ·obtain rfl:s=_:=by simpa using f
     refine ⟨G d,?_⟩;show (cN c i).hi<=_;rw [A d];grind
   ·rw [Nat.add_sub_cancel] at k;exact absurd k w
   ·rw [Nat.add_sub_cancel];exact ⟨H,_,e,A d⟩
  ·have e:b_ c ms (i+1)=b_ c ms i++[cN c i]:=by
    rw [b_,if_pos hm,if_neg (fun g=>j ⟨g.1,g.2.1⟩)]
   have hb:∀x∈b_ c ms i,x.HK (cN c i):=fun x k=>by
    by_cases p:0<i
    ·have K:ms.getD (i-1) false=false:=by
      cases hq:ms.getD (i-1) false with
      | false=>rfl
      | true=>exact absurd ⟨p,hq⟩ j
     exact ⟨(F.top p hi x k).1,C p,by rw [B p];exact F.str p hi K x k⟩
    ·obtain rfl:i=0:=by omega
     cases k
   refine ⟨?_,fun t v=>?_,fun _ d s f=>?_,fun _ d k=>?_,fun _ d _=>?_⟩
   ·rw [e];exact CL F.r z hb
   ·rw [e,zZ,←F.mem t v,qN];exact or_congr Iff.rfl ⟨fun g=>⟨hm,g⟩,fun g=>g.2⟩
   ·rw [e] at f;rw [Nat.add_sub_cancel];rcases List.mem_append.1 f with f|f
    ·refine ⟨(hb s f).1,?_⟩;by_cases p:0<i
     ·have n:=(F.top p hi s f).2;have q:=qf h (show i-1<i by omega) d;grind
     ·obtain rfl:i=0:=by omega
      cases f
    ·obtain rfl:s=_:=by simpa using f
     refine ⟨G d,?_⟩;rw [A d];grind
   ·rw [Nat.add_sub_cancel] at k;exact absurd k w
   ·rw [Nat.add_sub_cancel];exact ⟨_,_,e,A d⟩
 ·have e:b_ c ms (i+1)=b_ c ms i:=by rw [b_,if_neg hm]
  have y:i<c.length->∀s∈b_ c ms i,s.b=false/\s.hi<c.getD i 0:=fun d s f=>by
   by_cases p:0<i
   ·obtain ⟨n,q⟩:=F.top p hi s f;have M:=qf h (show i-1<i by omega) d;exact ⟨n,by grind⟩
   ·obtain rfl:i=0:=by omega
    cases f
  refine ⟨by rw [e];exact F.r,fun t v=>?_,fun _ d s f=>?_,fun _ d k s f=>?_,fun _ d k=>?_⟩
  ·rw [e,zZ,F.mem t v];exact ⟨.inl,fun g=>g.elim id fun g=>absurd g.1 hm⟩
  ·rw [e] at f;rw [Nat.add_sub_cancel];obtain ⟨n,q⟩:=y d s f;exact ⟨n,by grind⟩
  ·rw [e] at f;rw [Nat.add_sub_cancel];exact (y d s f).2
  ·rw [Nat.add_sub_cancel] at k;exact absurd k hm
theorem fi (h:asc c):∀{i:Nat},i<=c.length+1->FI c ms i:=by
 intro i
 induction i with
 | zero=>exact fun _=>⟨⟨(fun _ h=>by cases h),List.Pairwise.nil⟩,(fun t _=>⟨(fun ⟨_,h,_⟩=>by cases h),(fun ⟨_,h,_⟩=>absurd h (Nat.not_lt_zero _))⟩),(fun h=>absurd h (Nat.lt_irrefl _)),(fun h=>absurd h (Nat.lt_irrefl _)),(fun h=>absurd h (Nat.lt_irrefl _))⟩
 | succ i ih=>exact fun a=>KH h (by omega) (ih (by omega))
end
def Sp.Ac (s:Sp)(t:Rat):Bool:=(s.a||decide (s.lo<t))&&(s.b||decide (t<s.hi))
def nH (ss:List Sp)(t:Rat):Bool:=ss.any fun s=>s.Ac t
theorem oW {s:Sp}{t:Rat}:s.Ac t=true↔s.fI t:=by unfold Sp.Ac Sp.fI;simp
theorem ij {ss:List Sp}{t:Rat}:nH ss t=true↔qM ss t:=by
 unfold nH qM;rw [List.any_eq_true];exact ⟨fun ⟨s,a,b⟩=>⟨s,a,oW.1 b⟩,fun ⟨s,a,b⟩=>⟨s,a,oW.2 b⟩⟩
theorem E_ {a b:Bool}(h:a=true↔b=true):a=b:=by cases a<;>cases b<;>simp at h<;>rfl
theorem Ff {ss:List Sp}{t:Rat}(h:∀s∈ss,¬s.ng t):(mT ss t==2)=nH ss t:=by
 induction ss with
 | nil=>rfl
 | cons s r c=>
  have c:=c fun x j=>h x (by simp [j]);have f:=h s (by simp)
  have hb:s.Ac t=decide (sr (s.la t) (s.lb t)=2)/\(sr (s.la t) (s.lb t)≠0->sr (s.la t) (s.lb t)=2):=by
   unfold Sp.ng at f;unfold Sp.Ac Sp.la Sp.lb sr;rcases gy t s.lo with ⟨g,d⟩|⟨g,d⟩|⟨g,d⟩<;>rcases gy t s.hi with ⟨h2,e2⟩|⟨h2,e2⟩|⟨h2,e2⟩<;>rw [d,e2]<;>cases ha:s.a<;>cases hb:s.b<;>simp [ha,hb] at f⊢<;> grind
  have e:nH (s::r) t=(s.Ac t||nH r t):=rfl;rw [e,←c,hb.1];by_cases i:sr (s.la t) (s.lb t)=0
  ·simp [mT,i]
  ·have:=hb.2 i;simp [mT,this]
def Kp (op:Int)(x y:Bool):Bool:=if op=2 then x&&y else if op=3 then x&&!y else if op=4 then x != y else x||y
def iS (op:Int)(a b:List Sp)(c:List Rat):List Bool:=(ch c).map fun t=>Kp op (mT a t==2) (mT b t==2)
def bX (op:Int)(a b:List Sp):List Sp:=BT (cL (a++b)) (iS op a b (cL (a++b)))
theorem qL (op:Int)(a b:List Sp)(c:List Rat):(iS op a b c).length=c.length+1:=by unfold iS;rw [List.length_map,fk]
theorem uk (op:Int)(a b:List Sp):xg (bX op a b):=by
 unfold bX BT;rw [qL];exact (fi (BR _) (Nat.le_refl _)).r
theorem Fp {ss:List Sp}{c:List Rat}(h:asc c)(hc:∀s∈ss,∀q,s.ng q->q∈c){i:Nat}(hi:i<=c.length){t u:Rat}(ht:(cN c i).fI t)(hu:(cN c i).fI u):nH ss t=nH ss u:=by
 induction ss with
 | nil=>rfl
 | cons s r f=>
  have f:=f fun x g=>hc x (by simp [g]);have e:∀t,nH (s::r) t=(s.Ac t||nH r t):=fun _=>rfl;rw [e,e,f];congr 1;have d:=hc s (by simp);unfold Sp.Ac;cases ha:s.a<;>cases hb:s.b<;>simp
  ·have j:=lT h hi ht hu (d s.lo (.inl ⟨ha,rfl⟩));have k:=lT h hi ht hu (d s.hi (.inr ⟨hb,rfl⟩));rw [decide_eq_decide.2 j.1,decide_eq_decide.2 k.2.1]
  ·exact (lT h hi ht hu (d s.lo (.inl ⟨ha,rfl⟩))).1
  ·exact (lT h hi ht hu (d s.hi (.inr ⟨hb,rfl⟩))).2.1
theorem oN (op:Int)(a b:List Sp){t:Rat}(ht:t∉cL (a++b)):nH (bX op a b) t=Kp op (nH a t) (nH b t):=by
 have g:=BR (a++b);have m:∀s∈a++b,∀q,s.ng q->q∈cL (a++b):=fun s d q p=>Ic.2 ⟨s,d,p⟩;unfold bX BT;generalize cL (a++b)=c at ht g m;rw [qL];have o:∀s∈a,∀q,s.ng q->q∈c:=fun s d=>m s (by simp [d]);have hb:∀s∈b,∀q,s.ng q->q∈c:=fun s d=>m s (by simp [d])
 have mk:∀j,j<=c.length->(cN c j).fI t->(iS op a b c).getD j false=Kp op (nH a t) (nH b t):=fun j h k=>by
  have l:=Jr g h;have f:(ch c).getD j 0∉c:=fun hm=>(lT g h l l hm).2.2 rfl;unfold iS;rw [List.getD_eq_getElem?_getD,List.getElem?_map,List.getElem?_eq_getElem (by rw [fk];omega)];have e:(ch c)[j]'(by rw [fk];omega)=(ch c).getD j 0:=by rw [List.getD_eq_getElem?_getD,List.getElem?_eq_getElem (by rw [fk];omega)];rfl
  simp only [Option.map_some,Option.getD_some,e];rw [Ff (fun s d he=>f (o s d _ he)),Ff (fun s d he=>f (hb s d _ he)),Fp g o h l k,Fp g hb h l k]
 refine E_ ?_;rw [ij,(fi g (Nat.le_refl _)).mem t ht];constructor
 ·rintro ⟨j,h,n,r⟩;rw [←mk j (by omega) r];exact n
 ·intro n;obtain ⟨i,u,k⟩:=M3 g ht;exact ⟨i,by omega,by rw [mk i u k];exact n,k⟩
theorem NW {xs ys:List Sp}(E:List Rat)(hx:xg xs)(hy:xg ys)(h:∀t,t∉E->nH xs t=nH ys t):xs=ys:=
 Ew (E:=E) hx hy fun t a=>by rw [←ij,←ij,h t a]
end Go.Proofs.Tryz
namespace Go.Proofs.Tryz
open Go.Eng Go.Big
theorem j7 {s u:Sp}{t:Rat}:(s.meet u).fI t↔s.fI t/\u.fI t:=by
 have c:Co s.lo u.lo<t↔s.lo<t/\u.lo<t:=by
  unfold Co;rcases gy u.lo s.lo with ⟨h,e⟩|⟨h,e⟩|⟨h,e⟩<;>rw [e]<;>simp<;>grind
 have d:t<Cp s.hi u.hi↔t<s.hi/\t<u.hi:=by
  unfold Cp;rcases gy u.hi s.hi with ⟨h,e⟩|⟨h,e⟩|⟨h,e⟩<;>rw [e]<;>simp<;>grind
 unfold Sp.fI Sp.meet;cases s.a<;>cases s.b<;>cases u.a<;>cases u.b<;>simp [c,d]<;>grind
theorem Ln {s:Sp}(h:s.fR):xg [s]:=⟨fun x a=>(show x=s by simpa using a)▸h,by simp⟩
theorem jV {s u:Sp}(hs:s.can)(hu:u.can):bX 2 [s] [u]=if (s.meet u).emp=true then [] else [s.meet u]:=by
 have key:∀t,nH (bX 2 [s] [u]) t=true->t∉cL ([s]++[u])->(s.meet u).fI t:=fun t h c=>by
  rw [oN _ _ _ c] at h;have h:(nH [s] t&&nH [u] t)=true:=h;rw [Bool.and_eq_true] at h;have e:∀x:Sp,nH [x] t=x.Ac t:=fun x=>by unfold nH;simp
  rw [e,e,oW,oW] at h;exact j7.2 h
 refine NW (cL ([s]++[u])) (uk _ _ _) ?_ fun t c=>?_
 ·split
  ·exact ⟨(fun _ h=>by cases h),List.Pairwise.nil⟩
  ·rename_i h;exact Ln ⟨Sp.uU hs hu,by simpa using h⟩
 ·refine E_ ⟨fun h=>?_,fun h=>?_⟩
  ·have hk:=key t h c;split
   ·rename_i he;obtain ⟨a,b⟩:=hk;generalize s.meet u=m at he a b;unfold Sp.emp at he;rw [Bool.and_eq_true,Bool.and_eq_true,Bool.not_eq_true',Bool.not_eq_true',decide_eq_true_eq] at he;obtain ⟨⟨d,hb⟩,g⟩:=he;rw [d] at a;rw [hb] at b;have a:=a.resolve_left (by decide);have b:=b.resolve_left (by decide);rcases gy m.lo m.hi with ⟨h,e⟩|⟨h,e⟩|⟨h,e⟩
    ·omega
    ·grind
    ·grind
   ·exact ij.2 ⟨_,by simp,hk⟩
  ·rw [oN _ _ _ c];show (nH [s] t&&nH [u] t)=true;split at h
   ·cases h
   ·obtain ⟨x,f,hi⟩:=ij.1 h;obtain rfl:x=s.meet u:=by simpa using f
    obtain ⟨a,b⟩:=j7.1 hi;rw [Bool.and_eq_true];exact ⟨ij.2 ⟨s,by simp,a⟩,ij.2 ⟨u,by simp,b⟩⟩
theorem kt {l:L3}(h:Nz l)(t:Rat):aj l (dE l t) (dS l t)=0/\Ap l (dE l t) (dS l t)=t:=by
 have a:=h.norm;have b:=Rat.mul_inv_cancel _ a;unfold aj Ap dE dS;unfold eG at *;constructor<;>grind
theorem N7 {l m:L3}(h:aV l m≠0):aj l (NC l m) (ND l m)=0/\aj m (NC l m) (ND l m)=0:=by
 have a:=Rat.mul_inv_cancel _ h;unfold aj NC ND;constructor
 ·have e:(l.1:Rat)*(((l.2.1:Rat)*(m.2.2:Rat)-(l.2.2:Rat)*(m.2.1:Rat))*(aV l m)⁻¹)+(l.2.1:Rat)*(((l.2.2:Rat)*(m.1:Rat)-(l.1:Rat)*(m.2.2:Rat))*(aV l m)⁻¹)+(l.2.2:Rat)=(l.2.2:Rat)*(1-aV l m*(aV l m)⁻¹):=by
   generalize hc:(aV l m)⁻¹=c;unfold aV;grind
  rw [e,a];grind
 ·have e:(m.1:Rat)*(((l.2.1:Rat)*(m.2.2:Rat)-(l.2.2:Rat)*(m.2.1:Rat))*(aV l m)⁻¹)+(m.2.1:Rat)*(((l.2.2:Rat)*(m.1:Rat)-(l.1:Rat)*(m.2.2:Rat))*(aV l m)⁻¹)+(m.2.2:Rat)=(m.2.2:Rat)*(1-aV l m*(aV l m)⁻¹):=by
   generalize hc:(aV l m)⁻¹=c;unfold aV;grind
  rw [e,a];grind
def ovB (l:L3)(s:Sp)(m:L3)(t:Sp):Bool:=FG m l&&!(s.meet (GX m t l)).emp
theorem Fe (l:L3):lL (lL l)=lL l:=by
 unfold lL;by_cases h:l.1<0\/l.1=0/\l.2.1<0
 ·rw [if_pos h,if_neg];unfold revL;dsimp only;omega
 ·rw [if_neg h,if_neg h]
theorem Je {l:L3}(h:okL l=true):okL (lL l)=true:=by
 unfold lL;split
 ·unfold okL revL iM at *;simp only [Int.natAbs_neg];rw [Bool.and_eq_true,decide_eq_true_iff,decide_eq_true_iff] at h ⊢;exact ⟨fun e=>h.1 ⟨by omega,by omega⟩,h.2⟩
 ·exact h
theorem j_ {l:L3}(h:okL l=true):¬(l.1=0/\l.2.1=0):=by
 unfold okL at h;rw [Bool.and_eq_true,decide_eq_true_iff] at h;exact h.1
theorem jq {s:Sp}:s.emp=false↔∃t,s.fI t:=by
 constructor
 ·intro h;obtain ⟨c,d⟩:=Sp.FT h;refine ⟨s.dw,?_,?_⟩
  ·cases ha:s.a
   ·exact .inr (c ha)
   ·exact .inl rfl
  ·cases hb:s.b
   ·exact .inr (d hb)
   ·exact .inl rfl
 ·rintro ⟨t,c,d⟩;rw [Sp.ig];rcases c with c|c
  ·exact .inl c
  ·rcases d with d|d
   ·exact .inr (.inl d)
   ·exact .inr (.inr (by grind))
theorem jn {l:L3}{s:Sp}{m:L3} :
  (cA l s m=true->∀t,(bZ l s m).fI t↔s.fI t/\0<aj m (dE l t) (dS l t))/\(s.emp=false->cA l s m=false->∀t,s.fI t->¬0<aj m (dE l t) (dS l t)):=by
 have key:bN m l≠0->∀t,(bZ l s m).fI t↔s.fI t/\0<gR m l+bN m l*t:=fun a t=>by
  have k:=Rat.mul_inv_cancel _ a;unfold bZ;rcases gG (bN m l) with ⟨h,e⟩|⟨h,e⟩|⟨h,e⟩
  ·exact absurd h a
  ·rw [e];show (s.meet ⟨bY m l,0,false,true⟩).fI t↔_;rw [j7];have f:bN m l*(t-bY m l)=gR m l+bN m l*t:=by unfold bY;grind
   have:(⟨bY m l,0,false,true⟩:Sp).fI t↔bY m l<t:=by unfold Sp.fI;simp
   rw [this,←f];refine and_congr_right fun _=>⟨fun g=>Rat.mul_pos h (by grind),fun g=>?_⟩;by_cases c:bY m l<t
   ·exact c
   ·have:=Rat.mul_nonneg (show 0<=bN m l by grind) (show 0<=bY m l-t by grind);grind
  ·rw [e];show (s.meet ⟨0,bY m l,true,false⟩).fI t↔_;rw [j7];have f:-bN m l*(bY m l-t)=gR m l+bN m l*t:=by unfold bY;grind
   have:(⟨0,bY m l,true,false⟩:Sp).fI t↔t<bY m l:=by unfold Sp.fI;simp
   rw [this,←f];refine and_congr_right fun _=>⟨fun g=>Rat.mul_pos (by grind) (by grind),fun g=>?_⟩;by_cases c:t<bY m l
   ·exact c
   ·have:=Rat.mul_nonneg (show 0<=-bN m l by grind) (show 0<=t-bY m l by grind);grind
 by_cases a:bN m l=0
 ·have i:bZ l s m=s:=by unfold bZ;rw [a];rfl
  have b:cA l s m=decide ((gR m l).num.sign>0):=by unfold cA;rw [a];rfl
  constructor
  ·intro hb t;rw [i,qW,a];rw [b] at hb;have hb:(gR m l).num.sign>0:=by simpa using hb
   have:0<gR m l:=by
    rcases gG (gR m l) with ⟨h,e⟩|⟨h,e⟩|⟨h,e⟩
    ·omega
    ·exact h
    ·omega
   exact ⟨fun h=>⟨h,by grind⟩,fun h=>h.1⟩
  ·intro _ hb t _ d;rw [qW,a] at d;rw [b] at hb;have hb:¬(gR m l).num.sign>0:=by simpa using hb
   rcases gG (gR m l) with ⟨h,e⟩|⟨h,e⟩|⟨h,e⟩
   ·grind
   ·omega
   ·grind
 ·have b:cA l s m=!(bZ l s m).emp:=by
   unfold cA;rcases gG (bN m l) with ⟨h,e⟩|⟨h,e⟩|⟨h,e⟩
   ·exact absurd h a
   ·rw [e];rfl
   ·rw [e];rfl
  constructor
  ·intro _ t;rw [qW];exact key a t
  ·intro _ hb t j d;rw [qW] at d;rw [b] at hb;have:=jq.2 ⟨t,(key a t).2 ⟨j,d⟩⟩;rw [this] at hb;cases hb
theorem gL {l:L3}{s:Sp}{m:L3}(hs:s.fR)(hb:cA l s m=true):(bZ l s m).fR:=⟨H7 hs.1,H5 hs.2 hb⟩
abbrev Sd:=L3×Sp
def cg:List Sd->L3->Sp->Option Sp
 | [],_,v=>some v
 | s::c,l,v=>if cA l v s.1 then cg c l (bZ l v s.1) else none
theorem qQ:∀{c:List Sd} {l:L3} {v w:Sp},v.fR->cg c l v=some w->w.fR/\∀t,w.fI t↔v.fI t/\∀s∈c,0<aj s.1 (dE l t) (dS l t)
 | [],_,v,w,h,e=>by cases e;exact ⟨h,fun t=>⟨fun g=>⟨g,fun s hs=>by cases hs⟩,fun g=>g.1⟩⟩
 | s::c,l,v,w,h,e=>by
  unfold cg at e;split at e
  ·rename_i hb;obtain ⟨g1,g2⟩:=qQ (gL h hb) e;refine ⟨g1,fun t=>?_⟩;rw [g2,(jn.1 hb t)];simp only [List.forall_mem_cons,and_assoc]
  ·cases e
theorem qP:∀{c:List Sd} {l:L3} {v:Sp},v.fR->cg c l v=none->∀t,v.fI t->¬∀s∈c,0<aj s.1 (dE l t) (dS l t)
 | [],_,v,h,e=>by cases e
 | s::c,l,v,h,e=>by
  intro t ht hall;unfold cg at e;split at e
  ·rename_i hb;exact qP (gL h hb) e t ((jn.1 hb t).2 ⟨ht,hall s (List.mem_cons_self ..)⟩) fun u hu=>hall u (List.mem_cons_of_mem _ hu)
  ·rename_i hb;exact jn.2 h.2 (by simpa using hb) t ht (hall s (List.mem_cons_self ..))
theorem uf (l:L3):lL l=l\/lL l=revL l:=by unfold lL;split;exact .inr rfl;exact .inl rfl
theorem rev_rev (l:L3):revL (revL l)=l:=by unfold revL;simp
theorem tm (l:L3):Sec.dirL (revL l)=(-(Sec.dirL l).1,-(Sec.dirL l).2):=by unfold Sec.dirL revL;simp only [Rat.intCast_neg]
theorem Ak {l:L3}(h:okL l=true):(Sec.dirL l).1≠0\/(Sec.dirL l).2≠0:=by
 have:=j_ h;unfold Sec.dirL;by_cases e:l.2.1=0
 ·right;intro a;have:(l.1:Rat)=0:=by grind
  exact j_ h ⟨by exact_mod_cast this,e⟩
 ·left;show (l.2.1:Rat)≠0;exact_mod_cast e
theorem JL {l m:L3}(ol:okL l=true)(om:okL m=true){p:Sec.V2}(h1:aj l p.1 p.2=0)(h2:aj m p.1 p.2=0)(hc:Sec.cr (Sec.dirL l) (Sec.dirL m)=0):l=m\/l=revL m:=by
 have a:∀{x:L3},aj x p.1 p.2=0->aj (lL x) p.1 p.2=0:=fun {x} h=>by
  rcases uf x with e|e<;>rw [e]
  ·exact h
  ·rw [val_rev];grind
 have b:Sec.cr (Sec.dirL (lL l)) (Sec.dirL (lL m))=0:=by
  unfold Sec.cr at *;rcases uf l with e|e<;>rcases uf m with e'|e'<;>rw [e,e']<;>(try rw [tm l])<;>(try rw [tm m])<;>(try dsimp only)<;>grind
 have:=Sec.Hd (Je ol) (Je om) (Fe l) (Fe m) (a h1) (a h2) b;rcases uf l with e|e<;>rcases uf m with e'|e'<;>rw [e,e'] at this
 ·exact .inl this
 ·exact .inr this
 ·right;rw [←this,rev_rev]
 ·left;have:=congrArg revL this;rwa [rev_rev,rev_rev] at this
theorem H_ {M:List L3}(hk:∀m∈M,okL m=true){q:Sec.V2}(hq:Sec.pos M q):Sec.Ro M:=by
 intro l d m hm c p f g h;rcases JL (hk l d) (hk m hm) f g h with e|e
 ·exact c e
 ·have a:=hq l d;have b:=hq m hm;rw [e,val_rev] at a;grind
theorem tC {l:L3}(h:Nz l){x y:Rat}(hp:aj l x y=0):∃t,x=dE l t/\y=dS l t:=by
 have a:=Rat.mul_inv_cancel _ h.norm;unfold aj at hp;refine ⟨Ap l x y,?_,?_⟩
 ·unfold dE Ap eG at *;grind
 ·unfold dS Ap eG at *;grind
def fullSp:Sp:=⟨0,0,true,true⟩
theorem bu:fullSp.fR:=⟨⟨fun _=>rfl,fun _=>rfl⟩,rfl⟩
theorem oR (t:Rat):fullSp.fI t:=⟨.inl rfl,.inl rfl⟩
structure CanC (M:List L3) (c:List Sd):Prop where
 pos:∃q,Sec.pos M q
 mem:∀s∈c,s.1∈M/\s.2.fR/\∀t,s.2.fI t↔∀m∈M,m≠s.1->0<aj m (dE s.1 t) (dS s.1 t)
 all:∀l∈M,Sec.Es M l->∃v,(l,v)∈c
 asc:c.Pairwise fun s u=>Sec.ang (Sec.dirL s.1) (Sec.dirL u.1)<0
def lU (x:Sd):List Sd->List Sd
 | []=>[x]
 | s::r=>if Sec.ang (Sec.dirL s.1) (Sec.dirL x.1)<0 then s::lU x r else x::s::r
def lq (c:List Sd)(l:L3):List Sd:=c.filterMap fun s=>if cA s.1 s.2 l then some (s.1,bZ s.1 s.2 l) else none
def eI:List Sd->L3->Int
 | [],_=>-1
 | s::c,l=>if (aj l (dE s.1 s.2.dw) (dS s.1 s.2.dw)).num.sign≠0 then (aj l (dE s.1 s.2.dw) (dS s.1 s.2.dw)).num.sign else if s.1=l then 1 else eI c l
def clipC (c:List Sd)(l:L3):Option (List Sd):=
 match cg c l fullSp with
 | some v=>some (lU (l,v) (lq c l))
 | none=>if 0<eI c l then some c else none
theorem jX {x y:Sd}:∀{r:List Sd},y∈lU x r↔y=x\/y∈r
 | []=>by simp [lU]
 | s::r=>by
  unfold lU;split
  ·rw [List.mem_cons,jX,List.mem_cons];exact or_left_comm
  ·rw [List.mem_cons]
theorem zA {a b d:Sec.V2}(h:Sec.ang a b<0)(h':Sec.ang b d<0):Sec.ang a d<0:=by
 by_cases q:Sec.ang a d<0
 ·exact q
 ·exact absurd h (Sec.MO _ _ _ q (Sec.zy _ _ h'))
theorem B9 {x:Sd}:∀{r:List Sd},(r.Pairwise fun s u=>Sec.ang (Sec.dirL s.1) (Sec.dirL u.1)<0)->(∀s∈r,Sec.ang (Sec.dirL s.1) (Sec.dirL x.1)≠0)->(lU x r).Pairwise fun s u=>Sec.ang (Sec.dirL s.1) (Sec.dirL u.1)<0
 | [],_,_=>List.pairwise_singleton ..
 | s::r,h,hn=>by
  obtain ⟨h1,h2⟩:=List.pairwise_cons.1 h;unfold lU;split
  ·rename_i b;refine List.pairwise_cons.2 ⟨fun y a=>?_,B9 h2 fun u hu=>hn u (List.mem_cons_of_mem _ hu)⟩;rcases jX.1 a with rfl|a
   ·exact b
   ·exact h1 y a
  ·rename_i b
   have c:Sec.ang (Sec.dirL x.1) (Sec.dirL s.1)<0:=by
    rcases Sec.HD (Sec.dirL s.1) (Sec.dirL x.1) with g|g|g
    ·exact absurd g b
    ·exact absurd g (hn s (List.mem_cons_self ..))
    ·exact g
   refine List.pairwise_cons.2 ⟨fun y a=>?_,h⟩;rcases List.mem_cons.1 a with rfl|a
   ·exact c
   ·exact zA c (h1 y a)
theorem uq {c:List Sd}{l:L3}{y:Sd}:y∈lq c l↔∃s∈c,cA s.1 s.2 l=true/\y=(s.1,bZ s.1 s.2 l):=by
 unfold lq;rw [List.mem_filterMap];constructor
 ·rintro ⟨s,a,e⟩;split at e
  ·rename_i hb;cases e;exact ⟨s,a,hb,rfl⟩
  ·cases e
 ·rintro ⟨s,a,hb,rfl⟩;exact ⟨s,a,by rw [if_pos hb]⟩
theorem BK {c:List Sd}{l:L3}(h:c.Pairwise fun s u=>Sec.ang (Sec.dirL s.1) (Sec.dirL u.1)<0):(lq c l).Pairwise fun s u=>Sec.ang (Sec.dirL s.1) (Sec.dirL u.1)<0:=by
 unfold lq;refine List.Pairwise.filterMap _ ?_ h;intro a b d x e y f;split at e
 ·split at f
  ·cases e;cases f;exact d
  ·cases f
 ·cases e
theorem CA {l s:L3}(hl:Sec.nz (Sec.dirL s))(h:Sec.ang (Sec.dirL s) (Sec.dirL l)=0){p r:Sec.V2}(p0:aj l p.1 p.2=0)(p1:0<aj s p.1 p.2)(r0:aj s r.1 r.2=0)(r1:0<aj l r.1 r.2):False:=by
 obtain ⟨c,b,e⟩:=Sec.HE hl h;have d:(s.2.1:Rat)=c*(l.2.1:Rat):=congrArg Prod.fst e;have a:-(s.1:Rat)=c*-(l.1:Rat):=congrArg Prod.snd e;have a:(s.1:Rat)=c*(l.1:Rat):=by grind
 have key:∀x:Sec.V2,aj s x.1 x.2=c*(aj l x.1 x.2-(l.2.2:Rat))+(s.2.2:Rat):=fun x=>by unfold aj;rw [d,a];grind
 have k:=Sec.mp b r1;rw [key] at p1 r0;rw [p0] at p1;generalize aj l r.1 r.2=z at *;grind
section
variable {M:List L3} {c:List Sd} (h:CanC M c) (hk:∀m ∈ M,okL m=true)
include h hk
theorem CanC.int {p:Sec.V2}(hp:∀s∈c,0<aj s.1 p.1 p.2):Sec.pos M p:=by
 obtain ⟨q,a⟩:=h.pos;refine Sec.Vk (H_ hk a) (fun m hm=>Ak (hk m hm)) a fun m hm he=>?_;obtain ⟨v,b⟩:=h.all m hm he;exact hp _ b
theorem Gr {l:L3}(hl:okL l=true){v:Sp}(e:cg c l fullSp=some v):CanC (l::M) (lU (l,v) (lq c l)):=by
 have J:Nz l:=j_ hl;obtain ⟨A,B⟩:=qQ bu e;have C:∀t,v.fI t↔Sec.pos M (dE l t,dS l t):=fun t=>⟨fun g=>h.int hk ((B t).1 g).2,fun g=>(B t).2 ⟨oR t,fun s f=>g s.1 (h.mem s f).1⟩⟩;obtain ⟨t0,u⟩:=jq.1 A.2;have y:=(C t0).1 u;have D:=(kt J t0).1;have E:l∉M:=fun hm=>by have:=y l hm;dsimp only at this;grind
 have ne:∀m∈M,m≠l:=fun m hm e=>E (e▸hm);obtain ⟨q,K,L,-⟩:=Sec.zY (M:=M) (x:=(dE l t0,dS l t0)) (Ak hl) D (fun m hm _=>y m hm) [] (fun m hm=>by cases hm)
 have F:∀s∈lq c l,s.1∈M/\s.2.fR/\∀t,s.2.fI t↔∀m∈l::M,m≠s.1->0<aj m (dE s.1 t) (dS s.1 t):=fun s f=>by
  obtain ⟨N,O,hb,rfl⟩:=uq.1 f;obtain ⟨i,k,n⟩:=h.mem N O;refine ⟨i,gL k hb,fun t=>?_⟩;dsimp only;rw [jn.1 hb t,n t,List.forall_mem_cons];exact ⟨fun g=>⟨fun _=>g.2,g.1⟩,fun g=>⟨g.2,g.1 (fun e=>ne _ i e.symm)⟩⟩
 refine ⟨⟨q,List.forall_mem_cons.2 ⟨L,K⟩⟩,fun s f=>?_,fun o d he=>?_,B9 (BK h.asc) fun s f P=>?_⟩
 ·rcases jX.1 f with rfl|f
  ·refine ⟨List.mem_cons_self ..,A,fun t=>?_⟩;rw [C t,List.forall_mem_cons];exact ⟨fun g=>⟨fun h=>absurd rfl h,fun m hm _=>g m hm⟩,fun g m hm=>g.2 m hm (ne m hm)⟩
  ·obtain ⟨a,b⟩:=F s f;exact ⟨List.mem_cons_of_mem _ a,b⟩
 ·rcases List.mem_cons.1 d with rfl|d
  ·exact ⟨v,jX.2 (.inl rfl)⟩
  ·obtain ⟨p,G,z⟩:=he;obtain ⟨w,hw⟩:=h.all o d ⟨p,G,fun m hm j=>z m (List.mem_cons_of_mem _ hm) j⟩;obtain ⟨i,k,n⟩:=h.mem _ hw;obtain ⟨t,H,I⟩:=tC (j_ (hk o d)) G
   have hb:cA o w l=true:=by
    cases hb:cA o w l
    ·exfalso;refine jn.2 k.2 hb t ((n t).2 fun m hm j=>?_) ?_
     ·dsimp only;rw [←H,←I];exact z m (List.mem_cons_of_mem _ hm) j
     ·rw [←H,←I];exact z l (List.mem_cons_self ..) (fun e=>E (e▸d))
    ·rfl
   exact ⟨bZ o w l,jX.2 (.inr (uq.2 ⟨_,hw,hb,rfl⟩))⟩
 ·obtain ⟨i,k,n⟩:=F s f;obtain ⟨t,Q⟩:=jq.1 k.2;have R:=(n t).1 Q l (List.mem_cons_self ..) (fun e=>ne _ i e.symm);exact CA (Ak (hk _ i)) P (p:=(dE l t0,dS l t0)) (r:=(dE s.1 t,dS s.1 t)) D (y _ i) (kt (j_ (hk _ i)) t).1 R
omit h in
theorem qu {l:L3}(hl:okL l=true)(hno:∀x:Sec.V2,aj l x.1 x.2=0->¬Sec.pos M x){q:Sec.V2}(hq:Sec.pos M q){s:L3}(hs:s∈M){x:Sec.V2}(xz:aj s x.1 x.2=0)(hx:∀m∈M,m≠s->0<aj m x.1 x.2) :
  (0<aj l q.1 q.2->0<aj l x.1 x.2\/s=l)/\(aj l q.1 q.2<0->aj l x.1 x.2<0\/aj l x.1 x.2=0/\s≠l):=by
 have side:∀g:L3,(∀x:Sec.V2,aj g x.1 x.2=0->¬Sec.pos M x)->0<aj g q.1 q.2->∀y:Sec.V2,aj s y.1 y.2=0->(∀m∈M,m≠s->0<aj m y.1 y.2)->¬aj g y.1 y.2<0:=fun g hno k y n b i=>by
  obtain ⟨C,o,-,c⟩:=Sec.zY (Ak (hk s hs)) n b [revL g] (fun m hm=>by rcases List.mem_singleton.1 hm with rfl;rw [val_rev];grind);have c:=c _ (List.mem_singleton.2 rfl);rw [val_rev] at c;have:=Sec.Cx hno hq o k;grind
 constructor
 ·intro a;by_cases f:0<aj l x.1 x.2
  ·exact .inl f
  right;have z:aj l x.1 x.2=0:=by have:=side l hno a x xz hx;grind
  by_cases e:s=l
  ·exact e
  exfalso
  have p:Sec.cr (Sec.dirL l) (Sec.dirL s)≠0:=fun t=>by
   rcases JL hl (hk s hs) z xz t with g|g
   ·exact e g.symm
   ·rw [g,val_rev] at a;have:=hq s hs;grind
  have step:∀d:Sec.V2,Sec.nv s d=0->Sec.nv l d<0->False:=fun d d0 d1=>by
   obtain ⟨r,u,v⟩:=Sec.vC ((M.filter fun m=>decide (m≠s)).map fun m=>(aj m x.1 x.2,Sec.nv m d)) (fun y b=>by
    obtain ⟨m,hm,rfl⟩:=List.mem_map.1 b;have:=List.mem_filter.1 hm;exact hx m this.1 (by simpa using this.2))
   refine side l hno a (x.1+r*d.1,x.2+r*d.2) ?_ (fun m hm h=>?_) ?_
   ·rw [Sec.fX,xz,d0];grind
   ·rw [Sec.fX];exact v (aj m x.1 x.2,Sec.nv m d) (List.mem_map.2 ⟨m,List.mem_filter.2 ⟨hm,by simpa using h⟩,rfl⟩)
   ·rw [Sec.fX,z];have:=Sec.mp u (show -Sec.nv l d>0 by grind);grind
  have j:Sec.nv s (Sec.dirL s)=0:=by rw [Sec.I_];exact Sec.Fi _
  have ls:Sec.nv l (Sec.dirL s)≠0:=by rw [Sec.I_];exact p
  by_cases w:Sec.nv l (Sec.dirL s)<0
  ·exact step _ j w
  ·have A:Sec.nv s (-(Sec.dirL s).1,-(Sec.dirL s).2)=-Sec.nv s (Sec.dirL s):=by unfold Sec.nv;dsimp only;grind
   have B:Sec.nv l (-(Sec.dirL s).1,-(Sec.dirL s).2)=-Sec.nv l (Sec.dirL s):=by unfold Sec.nv;dsimp only;grind
   exact step (-(Sec.dirL s).1,-(Sec.dirL s).2) (by rw [A,j];grind) (by rw [B];grind)
 ·intro a;have:=side (revL l) (fun x hx=>hno x (by rw [val_rev] at hx;grind)) (by rw [val_rev];grind) x xz hx;rw [val_rev] at this;by_cases f:aj l x.1 x.2<0
  ·exact .inl f
  ·refine .inr ⟨by grind,fun e=>?_⟩;have:=hq s hs;rw [e] at this;grind
theorem mf {s:Sd}(hs:s∈c):aj s.1 (dE s.1 s.2.dw) (dS s.1 s.2.dw)=0/\∀m∈M,m≠s.1->0<aj m (dE s.1 s.2.dw) (dS s.1 s.2.dw):=by
 obtain ⟨d,e,f⟩:=h.mem s hs;refine ⟨(kt (j_ (hk _ d)) _).1,(f _).1 ?_⟩;obtain ⟨g,i⟩:=Sp.FT e.2;constructor
 ·cases ha:s.2.a
  ·exact .inr (g ha)
  ·exact .inl rfl
 ·cases hb:s.2.b
  ·exact .inr (i hb)
  ·exact .inl rfl
theorem G3 {l:L3}(hl:okL l=true)(hno:∀x:Sec.V2,aj l x.1 x.2=0->¬Sec.pos M x){q:Sec.V2}(hq:Sec.pos M q)(hp:0<aj l q.1 q.2)(h0:c≠[]):eI c l=1:=by
 cases hc:c with
 | nil=>exact absurd hc h0
 | cons s r=>
  have b:s∈c:=by rw [hc];exact List.mem_cons_self ..
  obtain ⟨d,f⟩:=mf h hk b;have:=(qu hk hl hno hq (h.mem s b).1 (x:=(dE s.1 s.2.dw,dS s.1 s.2.dw)) d f).1 hp;unfold eI;dsimp only at this;by_cases e:0<aj l (dE s.1 s.2.dw) (dS s.1 s.2.dw)
  ·rw [Sec.NZ.2 e];rfl
  ·have a:s.1=l:=this.resolve_left e
   have z:aj l (dE s.1 s.2.dw) (dS s.1 s.2.dw)=0:=by
    have h:=d;rw [a] at h ⊢;exact h
   rw [Sec.pH.2 z,if_neg (by simp),if_pos a]
theorem G0 {l:L3}(hl:okL l=true)(hno:∀x:Sec.V2,aj l x.1 x.2=0->¬Sec.pos M x){q:Sec.V2}(hq:Sec.pos M q)(hp:aj l q.1 q.2<0):eI c l=-1:=by
 have:∀r:List Sd,(∀s∈r,s∈c)->eI r l=-1:=by
  intro r
  induction r with
  | nil=>intro _;rfl
  | cons s r ih=>
   intro a;have b:=a s (List.mem_cons_self ..);obtain ⟨d,e⟩:=mf h hk b;have:=(qu hk hl hno hq (h.mem s b).1 (x:=(dE s.1 s.2.dw,dS s.1 s.2.dw)) d e).2 hp;dsimp only at this;unfold eI;rcases this with g|⟨g,f⟩
   ·rw [Sec.JM.2 g];rfl
   ·rw [Sec.pH.2 g,if_neg (by simp),if_neg f];exact ih fun u hu=>a u (List.mem_cons_of_mem _ hu)
 exact this c fun _ h=>h
theorem clip_ok {l:L3}(hl:okL l=true):(∀c',clipC c l=some c'->CanC (l::M) c')/\(clipC c l=none->¬∃q,Sec.pos (l::M) q):=by
 unfold clipC
 cases e:cg c l fullSp with
 | some v=>exact ⟨fun c' f=>by cases f;exact Gr h hk hl e,fun f=>by cases f⟩
 | none=>
  dsimp only
  have d:∀x:Sec.V2,aj l x.1 x.2=0->¬Sec.pos M x:=fun x E n=>by
   obtain ⟨t,o,r⟩:=tC (j_ hl) E;refine qP bu e t (oR t) fun s u=>?_;rw [←o,←r];exact n s.1 (h.mem s u).1
  have F:c≠[]:=fun G=>by rw [G] at e;cases e
  obtain ⟨q,j⟩:=h.pos;by_cases w:0<aj l q.1 q.2
  ·rw [G3 h hk hl d j w F];refine ⟨fun c' f=>?_,fun f=>by cases f⟩;cases f;refine ⟨⟨q,List.forall_mem_cons.2 ⟨w,j⟩⟩,fun s u=>?_,fun y A he=>?_,h.asc⟩
   ·obtain ⟨B,H,I⟩:=h.mem s u;refine ⟨List.mem_cons_of_mem _ B,H,fun t=>?_⟩;rw [I t,List.forall_mem_cons];refine ⟨fun g=>⟨fun i=>?_,g⟩,fun g=>g.2⟩;exact ((qu hk hl d j B (x:=(dE s.1 t,dS s.1 t)) (kt (j_ (hk _ B)) t).1 g).1 w).resolve_right fun e=>i e.symm
   ·obtain ⟨p,D,n⟩:=he;by_cases hm:y∈M
    ·exact h.all y hm ⟨p,D,fun m hm i=>n m (List.mem_cons_of_mem _ hm) i⟩
    ·exfalso;have o:y=l:=(List.mem_cons.1 A).resolve_right hm;refine d p (o▸D) fun m k=>n m (List.mem_cons_of_mem _ k) fun r=>hm (r▸k)
  ·have J:aj l q.1 q.2<0:=by
    by_cases z:aj l q.1 q.2=0
    ·exact absurd j (d q z)
    ·grind
   rw [G0 h hk hl d j J];refine ⟨fun c' f=>(by cases f),fun _=>?_⟩;rintro ⟨K,C⟩;obtain ⟨a,b⟩:=List.forall_mem_cons.1 C;have:=Sec.Cx d (fun m hm=>b m hm) j a;grind
end
theorem CanC.nil:CanC [] []:=⟨⟨(0,0),fun m hm=>by cases hm⟩,(fun s a=>by cases a),(fun l b=>by cases b),List.Pairwise.nil⟩
def lN:List L3->List L3->List Sd->Option (List Sd)
 | [],_,c=>some c
 | l::r,M,c=>match clipC c l with
  | some c'=>lN r (l::M) c'
  | none=>none
theorem BH:∀{ls M:List L3} {c:List Sd},CanC M c->(∀m∈M,okL m=true)->(∀m∈ls,okL m=true)->(∀c',lN ls M c=some c'->CanC (ls.reverse++M) c')/\(lN ls M c=none->¬∃q,Sec.pos (ls.reverse++M) q)
 | [],M,c,h,hk,hl=>⟨fun c' e=>by cases e;exact h,fun e=>by cases e⟩
 | l::r,M,c,h,hk,hl=>by
  obtain ⟨h1,h2⟩:=clip_ok h hk (hl l (List.mem_cons_self ..));rw [List.reverse_cons,List.append_assoc];unfold lN
  cases e:clipC c l with
  | some c'=>exact BH (h1 c' e) (List.forall_mem_cons.2 ⟨hl l (List.mem_cons_self ..),hk⟩) fun m hm=>hl m (List.mem_cons_of_mem _ hm)
  | none=>
   refine ⟨fun c' a=>(by cases a),fun _=>?_⟩;rintro ⟨q,b⟩;exact h2 e ⟨q,fun m hm=>b m (List.mem_append_right _ hm)⟩
theorem tR:∀{a b:List L3},(a.Pairwise fun l m=>Sec.ang (Sec.dirL l) (Sec.dirL m)<0)->(b.Pairwise fun l m=>Sec.ang (Sec.dirL l) (Sec.dirL m)<0)->(∀x,x∈a↔x∈b)->a=b
 | [],b,_,_,h=>by
  cases b with
  | nil=>rfl
  | cons y b=>have:=(h y).2 (List.mem_cons_self ..);cases this
 | x::a,[],_,_,h=>by have:=(h x).1 (List.mem_cons_self ..);cases this
 | x::a,y::b,ha,hb,h=>by
  obtain ⟨d,j⟩:=List.pairwise_cons.1 ha;obtain ⟨f,k⟩:=List.pairwise_cons.1 hb
  have e:x=y:=by
   rcases List.mem_cons.1 ((h x).1 (List.mem_cons_self ..)) with e|n
   ·exact e
   ·rcases List.mem_cons.1 ((h y).2 (List.mem_cons_self ..)) with e|o
    ·exact e.symm
    ·exact absurd (d y o) (Sec.zy _ _ (f x n))
  subst e;have i:∀z:L3,¬Sec.ang (Sec.dirL z) (Sec.dirL z)<0:=fun z c=>Sec.zy _ _ c c;congr 1;refine tR j k fun z=>⟨fun c=>?_,fun c=>?_⟩
  ·rcases List.mem_cons.1 ((h z).1 (List.mem_cons_of_mem _ c)) with e|g
   ·exact absurd (d z c) (e▸i z)
   ·exact g
  ·rcases List.mem_cons.1 ((h z).2 (List.mem_cons_of_mem _ c)) with e|g
   ·exact absurd (f z c) (e▸i z)
   ·exact g
end Go.Proofs.Tryz
namespace Go.Proofs.Tryz
open Go.Eng Go.Big
theorem fr (l m:L3):aV l m=-bN m l:=by unfold aV bN;grind
theorem MU (m l:L3):Sec.cr (Sec.dirL m) (Sec.dirL l)=bN m l:=by unfold Sec.cr Sec.dirL bN;grind
def kc (l m:L3):Rat:=Ap l (NC l m) (ND l m)
theorem vg {l m:L3}(hl:Nz l)(h:aV l m≠0):kc l m=bY m l:=by
 obtain ⟨v1,v2⟩:=N7 h;obtain ⟨t,a,b⟩:=tC hl v1;have c:kc l m=t:=by unfold kc;rw [a,b];exact (kt hl t).2
 rw [a,b,qW] at v2;rw [c];have d:bN m l≠0:=fun e=>h (by rw [fr,e];grind);have f:=Rat.mul_inv_cancel _ d;unfold bY;grind
def oP (l m:L3)(s:Sp):Option Sp:=
 if aV l m=0 then (if (aj m (dE l 0) (dS l 0)).num.sign<=0 then none else some s)
 else
  let s':Sp:=if 0<(bN m l).num.sign then (if s.a=true\/s.lo<kc l m then ⟨kc l m,s.hi,false,s.b⟩ else s) else (if s.b=true\/kc l m<s.hi then ⟨s.lo,kc l m,s.a,false⟩ else s)
  if s'.a=false/\s'.b=false/\s'.hi<=s'.lo then none else some s'
theorem Ib {s:Sp}:s.emp=true↔s.a=false/\s.b=false/\s.hi<=s.lo:=by
 cases h:s.emp
 ·have:=Sp.ig.1 h;constructor
  ·intro h;cases h
  ·rintro ⟨f,i,j⟩;rw [f,i] at this;rcases this with h|h|h
   ·cases h
   ·cases h
   ·exfalso;grind
 ·refine ⟨fun _=>?_,fun _=>rfl⟩;have d:¬(s.a=true\/s.b=true\/s.lo<s.hi):=fun g=>by rw [←Sp.ig] at g;rw [h] at g;cases g
  refine ⟨?_,?_,?_⟩
  ·cases e:s.a
   ·rfl
   ·exact absurd (.inl e) d
  ·cases e:s.b
   ·rfl
   ·exact absurd (.inr (.inl e)) d
  ·by_cases c:s.lo<s.hi
   ·exact absurd (.inr (.inr c)) d
   ·grind
theorem uy {l m:L3}{s:Sp}(hl:Nz l)(hs:s.fR):oP l m s=if cA l s m=true then some (bZ l s m) else none:=by
 unfold oP;by_cases c:aV l m=0
 ·have d:bN m l=0:=by rw [fr] at c;grind
  have k:bZ l s m=s:=by unfold bZ;rw [d];rfl
  have f:cA l s m=decide ((gR m l).num.sign>0):=by unfold cA;rw [d];rfl
  rw [if_pos c,k,f];show (if (gR m l).num.sign<=0 then none else some s)=_;by_cases g:(gR m l).num.sign<=0
  ·rw [if_pos g,if_neg (by rw [decide_eq_true_iff];omega)]
  ·rw [if_neg g,if_pos (by rw [decide_eq_true_iff];omega)]
 ·have d:bN m l≠0:=fun e=>c (by rw [fr,e];grind);rw [if_neg c,vg hl c]
  have es:(if 0<(bN m l).num.sign then (if s.a=true\/s.lo<bY m l then (⟨bY m l,s.hi,false,s.b⟩:Sp) else s) else (if s.b=true\/bY m l<s.hi then ⟨s.lo,bY m l,s.a,false⟩ else s))=bZ l s m:=by
   obtain ⟨i,j⟩:=hs.1;obtain ⟨lo,hi,a,b⟩:=s;dsimp only at i j ⊢;unfold bZ;rcases gG (bN m l) with ⟨h,e⟩|⟨h,e⟩|⟨h,e⟩
   ·exact absurd h d
   ·rw [e,if_pos (by decide)];show _=Sp.meet ⟨lo,hi,a,b⟩ ⟨bY m l,0,false,true⟩;unfold Sp.meet Co;rcases gy (bY m l) lo with ⟨g,e⟩|⟨g,e⟩|⟨g,e⟩<;>rw [e]<;>cases a<;>cases b<;>simp at i j⊢<;> grind
   ·rw [e,if_neg (by decide)];show _=Sp.meet ⟨lo,hi,a,b⟩ ⟨0,bY m l,true,false⟩;unfold Sp.meet Cp;rcases gy (bY m l) hi with ⟨g,e⟩|⟨g,e⟩|⟨g,e⟩<;>rw [e]<;>cases a<;>cases b<;>simp at i j⊢<;> grind
  have f:cA l s m=!(bZ l s m).emp:=by
   unfold cA;rcases gG (bN m l) with ⟨h,e⟩|⟨h,e⟩|⟨h,e⟩
   ·exact absurd h d
   ·rw [e];rfl
   ·rw [e];rfl
  dsimp only;rw [es,f];by_cases g:(bZ l s m).a=false/\(bZ l s m).b=false/\(bZ l s m).hi<=(bZ l s m).lo
  ·rw [if_pos g,Ib.2 g,if_neg (by decide)]
  ·rw [if_neg g];cases h:(bZ l s m).emp
   ·rw [if_pos (by decide)]
   ·exact absurd (Ib.1 h) g
def edgeG (l:L3):List L3->Sp->Option Sp
 | [],s=>some s
 | m::r,s=>if m=l then edgeG l r s else match oP l m s with
  | some s'=>edgeG l r s'
  | none=>none
theorem qv {l:L3}(hl:Nz l):∀{c:List L3} {s w:Sp},s.fR->edgeG l c s=some w->w.fR/\∀t,w.fI t↔s.fI t/\∀m∈c,m≠l->0<aj m (dE l t) (dS l t)
 | [],s,w,h,e=>by cases e;exact ⟨h,fun t=>⟨fun g=>⟨g,fun m hm=>by cases hm⟩,fun g=>g.1⟩⟩
 | m::c,s,w,h,e=>by
  unfold edgeG at e;by_cases hm:m=l
  ·rw [if_pos hm] at e;obtain ⟨g1,g2⟩:=qv hl h e;refine ⟨g1,fun t=>(g2 t).trans (and_congr_right fun _=>?_)⟩;rw [List.forall_mem_cons];exact ⟨fun g=>⟨fun a=>absurd hm a,g⟩,fun g=>g.2⟩
  ·rw [if_neg hm,uy hl h] at e;by_cases hb:cA l s m=true
   ·rw [if_pos hb] at e;obtain ⟨g1,g2⟩:=qv hl (gL h hb) e;refine ⟨g1,fun t=>?_⟩;rw [g2,jn.1 hb t,List.forall_mem_cons,and_assoc];exact and_congr_right fun _=>and_congr_left fun _=>⟨fun g _=>g,fun g=>g hm⟩
   ·rw [if_neg hb] at e;cases e
theorem qt {l:L3}(hl:Nz l):∀{c:List L3} {s:Sp},s.fR->edgeG l c s=none->∀t,s.fI t->¬∀m∈c,m≠l->0<aj m (dE l t) (dS l t)
 | [],s,h,e=>by cases e
 | m::c,s,h,e=>by
  intro t ht hall;obtain ⟨ha,hr⟩:=List.forall_mem_cons.1 hall;unfold edgeG at e;by_cases hm:m=l
  ·rw [if_pos hm] at e;exact qt hl h e t ht hr
  ·rw [if_neg hm,uy hl h] at e;by_cases hb:cA l s m=true
   ·rw [if_pos hb] at e;exact qt hl (gL h hb) e t ((jn.1 hb t).2 ⟨ht,ha hm⟩) hr
   ·exact jn.2 h.2 (by simpa using hb) t ht (ha hm)
theorem Fl {l:L3}(hl:Nz l){c:List L3}:(edgeG l c fullSp).isSome=true↔Sec.Es c l:=by
 constructor
 ·intro h;obtain ⟨w,hw⟩:=Option.isSome_iff_exists.1 h;obtain ⟨b,d⟩:=qv hl bu hw;obtain ⟨t,e⟩:=jq.1 b.2;exact ⟨(dE l t,dS l t),(kt hl t).1,((d t).1 e).2⟩
 ·rintro ⟨p,f,a⟩;obtain ⟨t,g,i⟩:=tC hl f
  cases h:edgeG l c fullSp with
  | some w=>rfl
  | none=>
   rw [g,i] at a;exact absurd a (qt hl bu h t (oR t))
def insD (l:L3):List L3->List L3
 | []=>[l]
 | u::r=>if Sec.ang (Sec.dirL u) (Sec.dirL l)<0 then u::insD l r else if u=l then u::r else l::u::r
def refC (c:List L3):List L3->List L3->List L3
 | [],out=>out
 | l::r,out=>refC c r (if (edgeG l c fullSp).isSome=true then insD l out else out)
theorem insD_mem {l x:L3}:∀{r:List L3},x∈insD l r↔x=l\/x∈r
 | []=>by simp [insD]
 | u::r=>by
  unfold insD;split
  ·rw [List.mem_cons,insD_mem,List.mem_cons];exact or_left_comm
  split
  ·rename_i e;subst e;rw [List.mem_cons];exact ⟨.inr,fun h=>h.elim .inl id⟩
  ·rw [List.mem_cons]
theorem Cb {l:L3}:∀{r:List L3},(r.Pairwise fun s u=>Sec.ang (Sec.dirL s) (Sec.dirL u)<0)->(∀s∈r,Sec.ang (Sec.dirL s) (Sec.dirL l)=0->s=l)->(insD l r).Pairwise fun s u=>Sec.ang (Sec.dirL s) (Sec.dirL u)<0
 | [],_,_=>List.pairwise_singleton _ _
 | u::r,h,hz=>by
  obtain ⟨h1,h2⟩:=List.pairwise_cons.1 h;unfold insD;split
  ·rename_i a;refine List.pairwise_cons.2 ⟨fun y b=>?_,Cb h2 (fun s f=>hz s (List.mem_cons_of_mem _ f))⟩;rcases insD_mem.1 b with rfl|b
   ·exact a
   ·exact h1 y b
  split
  ·exact h
  ·rename_i a d
   have c:Sec.ang (Sec.dirL l) (Sec.dirL u)<0:=by
    have i:Sec.ang (Sec.dirL u) (Sec.dirL l)≠0:=fun e=>d (hz u (List.mem_cons_self ..) e);rcases Sec.HD (Sec.dirL u) (Sec.dirL l) with g|g|g
    ·exact absurd g a
    ·exact absurd g i
    ·exact g
   refine List.pairwise_cons.2 ⟨fun y b=>?_,h⟩;rcases List.mem_cons.1 b with rfl|b
   ·exact c
   ·exact zA c (h1 y b)
theorem MW {c:List L3}(hk:∀m∈c,okL m=true){l m:L3}(hl:l∈c)(hm:m∈c)(el:Sec.Es c l)(em:Sec.Es c m)(h:Sec.ang (Sec.dirL l) (Sec.dirL m)=0):l=m:=by
 by_cases e:l=m
 ·exact e
 exfalso;obtain ⟨p,a,b⟩:=em;obtain ⟨r,d,f⟩:=el;exact CA (Ak (hk l hl)) h a (b l hl e) d (f m hm fun g=>e g.symm)
theorem AA {c:List L3}(hk:∀m∈c,okL m=true):∀{r out:List L3},(∀m∈r,m∈c)->(∀m∈out,m∈c/\Sec.Es c m)->(out.Pairwise fun s u=>Sec.ang (Sec.dirL s) (Sec.dirL u)<0) ->
  ((refC c r out).Pairwise fun s u=>Sec.ang (Sec.dirL s) (Sec.dirL u)<0)/\∀x,x∈refC c r out↔x∈out\/x∈r/\Sec.Es c x
 | [],out,_,_,h=>⟨h,fun x=>by simp [refC]⟩
 | l::r,out,hr,ho,h=>by
  obtain ⟨hl,hr⟩:=List.forall_mem_cons.1 hr;unfold refC;by_cases he:Sec.Es c l
  ·rw [if_pos ((Fl (j_ (hk l hl))).2 he)]
   obtain ⟨a,b⟩:=AA hk (r:=r) (out:=insD l out) hr (fun m hm=>by
    rcases insD_mem.1 hm with rfl|hm
    ·exact ⟨hl,he⟩
    ·exact ho m hm) (Cb h fun s d e=>MW hk (ho s d).1 hl (ho s d).2 he e)
   refine ⟨a,fun x=>?_⟩;rw [b,insD_mem,List.mem_cons];constructor
   ·rintro ((rfl|h)|h)
    ·exact .inr ⟨.inl rfl,he⟩
    ·exact .inl h
    ·exact .inr ⟨.inr h.1,h.2⟩
   ·rintro (h|⟨rfl|h,e⟩)
    ·exact .inl (.inr h)
    ·exact .inl (.inl rfl)
    ·exact .inr ⟨h,e⟩
  ·rw [if_neg fun g=>he ((Fl (j_ (hk l hl))).1 g)];obtain ⟨a,b⟩:=AA hk (r:=r) (out:=out) hr ho h;refine ⟨a,fun x=>?_⟩;rw [b,List.mem_cons];constructor
   ·rintro (h|h)
    ·exact .inl h
    ·exact .inr ⟨.inr h.1,h.2⟩
   ·rintro (h|⟨rfl|h,e⟩)
    ·exact .inl h
    ·exact absurd e he
    ·exact .inr ⟨h,e⟩
theorem Es.of {M N:List L3}(h:∀x,x∈M->x∈N){l:L3}(e:Sec.Es N l):Sec.Es M l:=by
 obtain ⟨p,a,b⟩:=e;exact ⟨p,a,fun m hm=>b m (h m hm)⟩
theorem HZ {ls:List L3}(hk:∀m∈ls,okL m=true):(∀c,lN ls [] []=some c->refC ls ls []=c.map Prod.fst/\CanC ls.reverse c/\(ls=[]\/refC ls ls []≠[]))/\(lN ls [] []=none->refC ls ls []=[]/\ls≠[]/\¬∃q,Sec.pos ls q):=by
 obtain ⟨u,w⟩:=BH (ls:=ls) CanC.nil (fun m hm=>by cases hm) hk;rw [List.append_nil] at u w;obtain ⟨z,i⟩:=AA hk (r:=ls) (out:=[]) (fun m hm=>hm) (fun m hm=>by cases hm) List.Pairwise.nil;have i:∀x,x∈refC ls ls []↔x∈ls/\Sec.Es ls x:=fun x=>(i x).trans ⟨fun h=>h.elim (fun h=>by cases h) id,.inr⟩;have d:∀q,Sec.pos ls q↔Sec.pos ls.reverse q:=fun q=>⟨fun h m hm=>h m (List.mem_reverse.1 hm),fun h m hm=>h m (List.mem_reverse.2 hm)⟩;constructor
 ·intro c e;have j:=u c e;obtain ⟨q,f⟩:=j.pos;have f:=(d q).2 f;refine ⟨?_,j,?_⟩
  ·refine tR z (List.pairwise_map.2 j.asc) fun x=>?_;rw [i,List.mem_map];constructor
   ·rintro ⟨a,b⟩;obtain ⟨v,A⟩:=j.all x (List.mem_reverse.2 a) (Es.of (fun y B=>List.mem_reverse.1 B) b);exact ⟨_,A,rfl⟩
   ·rintro ⟨s,C,rfl⟩;obtain ⟨k,D,E⟩:=j.mem s C;obtain ⟨t,F⟩:=jq.1 D.2;have k:=List.mem_reverse.1 k;exact ⟨k,⟨(dE s.1 t,dS s.1 t),(kt (j_ (hk _ k)) t).1,fun m hm o=>(E t).1 F m (List.mem_reverse.2 hm) o⟩⟩
  ·by_cases n:ls=[]
   ·exact .inl n
   right;obtain ⟨l,G,he⟩:=Sec.KG (H_ hk f) (fun m hm=>Ak (hk m hm)) f n;exact List.ne_nil_of_mem ((i l).2 ⟨G,he⟩)
 ·intro e;have g:¬∃q,Sec.pos ls q:=fun ⟨q,f⟩=>w e ⟨q,(d q).1 f⟩;refine ⟨?_,fun n=>g ⟨(0,0),fun m hm=>by rw [n] at hm;cases hm⟩,g⟩;refine List.eq_nil_iff_forall_not_mem.2 fun x H=>?_;obtain ⟨a,p,I,J⟩:=(i x).1 H;obtain ⟨q,f,-⟩:=Sec.zY (Ak (hk x a)) I J [] (fun m hm=>by cases hm);exact g ⟨q,f⟩
theorem ok_rev {l:L3}(h:okL l=true):okL (revL l)=true:=by
 unfold okL revL iM at *;simp only [Int.natAbs_neg];rw [Bool.and_eq_true,decide_eq_true_iff,decide_eq_true_iff] at h ⊢;exact ⟨fun e=>h.1 ⟨by omega,by omega⟩,h.2⟩
section
variable {M:List L3} {c:List Sd} (h:CanC M c) (hk:∀m ∈ M,okL m=true)
include h hk
theorem zS {p:Sec.V2}(hp:∀s∈c,0<=aj s.1 p.1 p.2):∀m∈M,0<=aj m p.1 p.2:=by
 intro m hm;obtain ⟨q,d⟩:=h.pos
 have key:∀t:Rat,0<=t->t<1->Sec.pos M (q.1+t*(p.1-q.1),q.2+t*(p.2-q.2)):=fun t t0 t1=>h.int hk fun s f=>by
  dsimp only;rw [Sec.pP];have a:=d s.1 (h.mem s f).1;have j:=Sec.mn t0 (hp s f);have k:=Sec.mp (show 1-t>0 by grind) a;grind
 by_cases g:0<=aj m p.1 p.2
 ·exact g
 exfalso;have a:=d m hm;obtain ⟨t,t0,t1,e⟩:=Sec.tI (y:=(aj m q.1 q.2,aj m p.1 p.2)) a (s:=1) (by decide) (by unfold Sec.mx;grind)
 have b:t<1:=by
  by_cases i:t=1
  ·subst i;unfold Sec.mx at e;dsimp only at e;grind
  ·grind
 have:=key t (by grind) b m hm;dsimp only at this;rw [Sec.pP] at this;unfold Sec.mx at e;dsimp only at e;grind
theorem Hg (q:Sec.V2):Sec.pos (c.map Prod.fst) q↔Sec.pos M q:=by
 constructor
 ·intro g;exact h.int hk fun s a=>g _ (List.mem_map.2 ⟨s,a,rfl⟩)
 ·intro g m hm;obtain ⟨s,a,rfl⟩:=List.mem_map.1 hm;exact g _ (h.mem s a).1
theorem FX {s:Sd}(hs:s∈c):∃x:Sec.V2,aj s.1 x.1 x.2=0/\∀m∈M,m≠s.1->0<aj m x.1 x.2:=
 ⟨(dE s.1 s.2.dw,dS s.1 s.2.dw),mf h hk hs⟩
end
end Go.Proofs.Tryz
namespace Go.Proofs.Tryz
open Go.Eng Go.Big
section
variable {M:List L3} {c:List Sd} (h:CanC M c) (hk:∀m ∈ M,okL m=true)
include h hk
end
end Go.Proofs.Tryz
namespace Go.Proofs.Tryz
open Go.Eng Go.Big
namespace Sec
end Sec
section
variable {M:List L3} {c:List Sd} (h:CanC M c) (hk:∀m ∈ M,okL m=true)
include h hk
end
end Go.Proofs.Tryz
namespace Go.Proofs.Tryz
open Go.Eng Go.Big
namespace Sec
end Sec
section
variable {M:List L3} {c:List Sd} (h:CanC M c) (hk:∀m ∈ M,okL m=true)
include h hk
end
end Go.Proofs.Tryz
namespace Go.Proofs.Tryz
open Go.Eng Go.Big
section
variable {M:List L3} {c:List Sd} (h:CanC M c) (hk:∀m ∈ M,okL m=true) (hb:∀s ∈ c,s.2.a=false/\s.2.b=false)
include h hk hb
end
end Go.Proofs.Tryz
namespace Go.Proofs.Tryz
open Go.Eng Go.Big
section
variable {M:List L3} {c:List Sd} (h:CanC M c) (hk:∀m ∈ M,okL m=true) (hb:∀s ∈ c,s.2.a=false/\s.2.b=false)
include h hk hb
end
end Go.Proofs.Tryz
namespace Go.Proofs.Tryz
open Go.Eng Go.Big
theorem Fk (l m:L3):bN (revL l) m=-bN l m:=by unfold bN revL;simp only [Rat.intCast_neg];grind
theorem Ku (l m:L3):gR (revL l) m=-gR l m:=by unfold gR;exact val_rev ..
theorem H6 {l m:L3}(h:bN l m≠0):bY (revL l) m=bY l m:=by
 have a:=Rat.mul_inv_cancel _ h;have b:=Rat.mul_inv_cancel _ (show -bN l m≠0 by grind);unfold bY;rw [Fk,Ku];grind
section
variable {M:List L3} {c:List Sd} (h:CanC M c) (hk:∀m ∈ M,okL m=true) (hb:∀s ∈ c,s.2.a=false/\s.2.b=false)
include h hk hb
end
end Go.Proofs.Tryz
namespace Go.Proofs.Tryz
open Go.Eng Go.Big
section
variable {M:List L3} {c:List Sd} (h:CanC M c) (hk:∀m ∈ M,okL m=true)
include h hk
theorem CX:∀m∈c.map Prod.fst,okL m=true:=fun m hm=>by
 obtain ⟨s,a,rfl⟩:=List.mem_map.1 hm;exact hk _ (h.mem s a).1
end
end Go.Proofs.Tryz
namespace Go.Proofs.Tryz
open Go.Eng Go.Big
theorem jL.up {k K:Nat}{l:L3}(h:jL k l)(hk:k<=K):jL K l:=⟨h.1.mono hk,h.2.1.mono hk,h.2.2.mono hk⟩
theorem tG {L M:L3}{s:Sp}{k K:Nat}(sl:jL k L)(sm:jL k M)(hs:s.sz K)(hk:60*k+60<=K):(bZ L s M).sz K:=by
 have z:=EE K (by omega);have c:=(mR sl sm).mono hk;unfold bZ;split
 ·exact hs
 ·split
  ·exact Sp.Ag hs ⟨c,z⟩
  ·exact Sp.Ag hs ⟨z,c⟩
theorem Fo {k:Nat}(hk:0<k):fullSp.sz k:=⟨EE k hk,EE k hk⟩
def Rs (s:Sd):Prop:=Bd s.1/\s.2.sz 100000
theorem Fu {x:Sd}:∀{r:List Sd} {i:Nat},i<=r.length->(∀k (h:k<r.length),k<i->Sec.ang (Sec.dirL r[k].1) (Sec.dirL x.1)<0)->(∀h:i<r.length,¬Sec.ang (Sec.dirL r[i].1) (Sec.dirL x.1)<0)->lU x r=r.take i++x::r.drop i
 | [],i,hi,_,_=>by simp [lU]
 | s::r,0,_,_,h=>by
  have:¬Sec.ang (Sec.dirL s.1) (Sec.dirL x.1)<0:=h (Nat.zero_lt_succ _);unfold lU;rw [if_neg this];rfl
 | s::r,i+1,hi,h1,h2=>by
  have:Sec.ang (Sec.dirL s.1) (Sec.dirL x.1)<0:=h1 0 (Nat.zero_lt_succ _) (Nat.zero_lt_succ _);unfold lU;rw [if_pos this,Fu (r:=r) (i:=i) (by simpa using hi) (fun k hk a=>h1 (k+1) (by simpa using hk) (by omega)) fun h=>h2 (by simpa using h)];rfl
structure Bs (r:List Sd) (l:L3) (i j:Nat):Prop where
 le:i<=j
 len:j<=r.length
 lo:∀k (h:k<r.length),k<i->Sec.ang (Sec.dirL r[k].1) (Sec.dirL l)<0
 hi:∀h:j<r.length,¬Sec.ang (Sec.dirL r[j].1) (Sec.dirL l)<0
theorem Bs.start (r:List Sd)(l:L3):Bs r l 0 r.length:=⟨Nat.zero_le _,Nat.le_refl _,fun k h hk=>absurd hk (Nat.not_lt_zero _),fun h=>absurd h (Nat.lt_irrefl _)⟩
theorem Bs.up {r:List Sd}{l:L3}{i j h:Nat}(b:Bs r l i j)(asc:r.Pairwise fun s u=>Sec.ang (Sec.dirL s.1) (Sec.dirL u.1)<0)(h2:h<j)(hl:h<r.length)(hc:Sec.ang (Sec.dirL r[h].1) (Sec.dirL l)<0):Bs r l (h+1) j:=
 ⟨h2,b.len,fun k hk a=>by
  by_cases e:k=h
  ·subst e;exact hc
  ·exact zA (List.pairwise_iff_getElem.1 asc k h hk hl (by omega)) hc,b.hi⟩
theorem Bs.down {r:List Sd}{l:L3}{i j h:Nat}(b:Bs r l i j)(h1:i<=h)(hl:h<r.length)(hc:¬Sec.ang (Sec.dirL r[h].1) (Sec.dirL l)<0):Bs r l i h:=
 ⟨h1,by omega,b.lo,fun _=>hc⟩
theorem Bs.done {r:List Sd}{l:L3}{i:Nat}(b:Bs r l i i)(v:Sp):lU (l,v) r=r.take i++(l,v)::r.drop i:=Fu b.len b.lo b.hi
theorem RR.half (V:View):RR V (.agg #[.int .i64 1,.int .i64 1,.pointer none]) (((2:Int):Rat)⁻¹):=by
 have a:(((2:Int):Rat)⁻¹).num=1:=by decide +kernel
 have b:(((2:Int):Rat)⁻¹).den=2:=by decide +kernel
 refine .inl ⟨by rw [a,b];rfl,?_⟩;unfold Wd;rw [a,b];decide
theorem HW {V:View}{v:Value}{x:Rat}(hx:RR V v x){k:Nat}(hk:Sz k x)(hkm:k+2<1099511627776) :
  Acts prog 235 #[v] V fun r V'=>RR V' r (x*((2:Int):Rat)⁻¹):=by
 have d:=hx;obtain ⟨a,b,c,rfl⟩:=hx.shape;refine vK a b c V _ fun e f=>(ji (d.le f) (RR.half e) hk (fm AJ) hkm).mono ?_;rintro r V2 j g;have h:=g;obtain ⟨u,v,w,rfl⟩:=g.shape;exact ⟨_,_,_,rfl,fun l i=>h.le i⟩
theorem Bt {V:View}{v:Value}{s:Sp}(h:Bi V v s){k:Nat}(hs:s.sz k)(hk:4*k+8<1099511627776) :
  Acts prog 211 #[v] V fun r V'=>RR V' r s.dw:=by
 obtain ⟨D,E,p,F,G,q,rfl,n,o⟩:=h;have H:s.a=true->s.b=true->s.dw=0:=fun x y=>by simp [Sp.dw,x,y]
 have I:s.a=true->s.b=false->s.dw=s.hi-((1:Int):Rat):=fun x y=>by simp [Sp.dw,x,y]
 have J:s.a=false->s.b=true->s.dw=s.lo+((1:Int):Rat):=fun x y=>by simp [Sp.dw,x,y]
 have K:s.a=false->s.b=false->s.dw=(s.lo+s.hi)*((2:Int):Rat)⁻¹:=fun x y=>by simp [Sp.dw,x,y]
 have no:∀{P:Prop},s.a=true->s.a=false->P:=fun x y=>by rw [x] at y;cases y
 have L:∀{P:Prop},s.b=true->s.b=false->P:=fun x y=>by rw [x] at y;cases y
 refine qZ D E p F G q s.a s.b V _ ⟨fun c=>⟨fun hb O Q=>?_,fun hb=>⟨fun _ V2 M=>(iD 1 (by decide) (by decide)).mono ?_,fun e=>no c e⟩⟩,fun c=>⟨fun e=>no e c,fun _=>⟨fun hb R N=>(iD 1 (by decide) (by decide)).mono ?_,fun hb S i=>(kx (n.le i) (o.le i) hs.1 hs.2 (by omega)).mono ?_⟩⟩⟩
 ·rw [H c hb];exact RR.zero _
 ·rintro r t m g;have j:=g;obtain ⟨u,v,w,rfl⟩:=g.shape;refine ⟨_,_,_,rfl,fun z d=>(zI (o.le (M.trans (m.trans d))) (j.le d) hs.2 gH (by omega)).mono ?_⟩;rintro r A B f;have f0:=f;obtain ⟨u,v,w,rfl⟩:=f.shape;exact ⟨_,_,_,rfl,fun C l=>by rw [I c hb];exact f0.le l⟩
 ·rintro r t m g;have j:=g;obtain ⟨u,v,w,rfl⟩:=g.shape;refine ⟨_,_,_,rfl,fun z d=>(kx (n.le (N.trans (m.trans d))) (j.le d) hs.1 gH (by omega)).mono ?_⟩;rintro r A B f;have f0:=f;obtain ⟨u,v,w,rfl⟩:=f.shape;exact ⟨_,_,_,rfl,fun C l=>by rw [J c hb];exact f0.le l⟩
 ·rintro r t m g;have j:=g;obtain ⟨u,v,w,rfl⟩:=g.shape;refine ⟨_,_,_,rfl,fun z d=>(HW (j.le d) (hs.1.add hs.2) (by omega)).mono ?_⟩;rintro r A B f;have f0:=f;obtain ⟨u,v,w,rfl⟩:=f.shape;exact ⟨_,_,_,rfl,fun C l=>by rw [K c hb];exact f0.le l⟩
theorem OT {V:View}:Acts prog 209 #[] V fun r V'=>r=.agg #[.int .i64 0,.int .i64 0,.pointer none,.int .i64 0,.int .i64 0,.pointer none,.bool true,.bool true]:=
 EK V _ fun a b=>rfl
def RSd (V:View)(v:Value)(s:Sd):Prop:=LH V v s.1 s.2/\Rs s
theorem RSd.le {V V':View}{v:Value}{s:Sd}(h:RSd V v s)(l:V.Le V'):RSd V' v s:=⟨h.1.le l,h.2⟩
theorem RSd.shape {V:View}{v:Value}{s:Sd}(h:RSd V v s):∃(x1:Int)(x2:Int)(p:OA)(y1:Int)(y2:Int)(q:OA)(z1:Int)(z2:Int)(r:OA)(u1:Int)(u2:Int)(t:OA)(w1:Int)(w2:Int)(o:OA),v=.agg #[.int .i64 x1,.int .i64 x2,.pointer p,.int .i64 y1,.int .i64 y2,.pointer q,.int .i64 z1,.int .i64 z2,.pointer r,.int .i64 u1,.int .i64 u2,.pointer t,.int .i64 w1,.int .i64 w2,.pointer o,.bool s.2.a,.bool s.2.b]:=by
 obtain ⟨x1,x2,p,y1,y2,q,z1,z2,r,u1,u2,t,w1,w2,o,e,-⟩:=h.1;exact ⟨x1,x2,p,y1,y2,q,z1,z2,r,u1,u2,t,w1,w2,o,e⟩
theorem Jf {x1:Int}{x2:Int}{p:OA}{y1:Int}{y2:Int}{q:OA}{z1:Int}{z2:Int}{r:OA}{u1:Int}{u2:Int}{t:OA}{w1:Int}{w2:Int}{o:OA}{c d:Bool}:∀v∈([.int .i64 x1,.int .i64 x2,.pointer p,.int .i64 y1,.int .i64 y2,.pointer q,.int .i64 z1,.int .i64 z2,.pointer r,.int .i64 u1,.int .i64 u2,.pointer t,.int .i64 w1,.int .i64 w2,.pointer o,.bool c,.bool d]:List Value),v.oneCell'=true:=by
 intro v hm;simp only [List.mem_cons,List.not_mem_nil,or_false] at hm;rcases hm with rfl|rfl|rfl|rfl|rfl|rfl|rfl|rfl|rfl|rfl|rfl|rfl|rfl|rfl|rfl|rfl|rfl<;>rfl
theorem Lu {V:View}{s:Sd}:∀xs,RSd V (.agg (List.toArray xs)) s->∀v∈xs,v.oneCell'=true:=by
 intro xs h;obtain ⟨a,b,p,c,d,q,f,g,r,i,j,t,k,l,o,e⟩:=h.shape;have e:=congrArg Array.toList (Value.agg.inj e);dsimp only at e;subst e;exact Jf
theorem lst_rsd {V:View}{c:OA}{n:Nat}{al:List Sd}(h:Lst 17 RSd V c n al){i:Nat}(hi:i<al.length) :
  c.isSome=true/\∃(x1:Int)(x2:Int)(p:OA)(y1:Int)(y2:Int)(q:OA)(z1:Int)(z2:Int)(r:OA)(u1:Int)(u2:Int)(t:OA)(w1:Int)(w2:Int)(o:OA)(a:Addr),addrAdd c (i*17)=some a/\V.at (a.add 0) (.int .i64 x1)/\V.at (a.add 1) (.int .i64 x2)/\V.at (a.add 2) (.pointer p)/\V.at (a.add 3) (.int .i64 y1)/\V.at (a.add 4) (.int .i64 y2)/\V.at (a.add 5) (.pointer q)/\V.at (a.add 6) (.int .i64 z1)/\V.at (a.add 7) (.int .i64 z2)/\V.at (a.add 8) (.pointer r)/\V.at (a.add 9) (.int .i64 u1)/\V.at (a.add 10) (.int .i64 u2)/\V.at (a.add 11) (.pointer t)/\V.at (a.add 12) (.int .i64 w1)/\V.at (a.add 13) (.int .i64 w2)/\V.at (a.add 14) (.pointer o)/\V.at (a.add 15) (.bool al[i].2.a)/\V.at (a.add 16) (.bool al[i].2.b) /\
   RSd V (.agg #[.int .i64 x1,.int .i64 x2,.pointer p,.int .i64 y1,.int .i64 y2,.pointer q,.int .i64 z1,.int .i64 z2,.pointer r,.int .i64 u1,.int .i64 u2,.pointer t,.int .i64 w1,.int .i64 w2,.pointer o,.bool al[i].2.a,.bool al[i].2.b]) al[i]:=by
 obtain ⟨k,g,xs,l,j,d⟩:=h.at_ i hi;have f:=j;obtain ⟨x1,x2,p,y1,y2,q,z1,z2,r,u1,u2,t,w1,w2,o,e⟩:=j.shape;have e:=congrArg Array.toList (Value.agg.inj e);dsimp only at e;subst e;refine ⟨?_,x1,x2,p,y1,y2,q,z1,z2,r,u1,u2,t,w1,w2,o,k,g,d 0 _ rfl,d 1 _ rfl,d 2 _ rfl,d 3 _ rfl,d 4 _ rfl,d 5 _ rfl,d 6 _ rfl,d 7 _ rfl,d 8 _ rfl,d 9 _ rfl,d 10 _ rfl,d 11 _ rfl,d 12 _ rfl,d 13 _ rfl,d 14 _ rfl,d 15 _ rfl,d 16 _ rfl,f⟩
 cases c with
 | none=>cases g
 | some a=>rfl
theorem FQ {V:View}{vs:List Value}{al:List Sd}(h:Row 17 RSd V vs al){i:Nat}(hi:i<al.length):∃(x1:Int)(x2:Int)(p:OA)(y1:Int)(y2:Int)(q:OA)(z1:Int)(z2:Int)(r:OA)(u1:Int)(u2:Int)(t:OA)(w1:Int)(w2:Int)(o:OA),i*17+17<=vs.length/\(vs.drop (i*17)).take 17=[.int .i64 x1,.int .i64 x2,.pointer p,.int .i64 y1,.int .i64 y2,.pointer q,.int .i64 z1,.int .i64 z2,.pointer r,.int .i64 u1,.int .i64 u2,.pointer t,.int .i64 w1,.int .i64 w2,.pointer o,.bool al[i].2.a,.bool al[i].2.b] /\
  RSd V (.agg #[.int .i64 x1,.int .i64 x2,.pointer p,.int .i64 y1,.int .i64 y2,.pointer q,.int .i64 z1,.int .i64 z2,.pointer r,.int .i64 u1,.int .i64 u2,.pointer t,.int .i64 w1,.int .i64 w2,.pointer o,.bool al[i].2.a,.bool al[i].2.b]) al[i]:=by
 obtain ⟨xs,k,d,f⟩:=h.at_ i hi;have l:=h.kR (by decide);have c:=d;obtain ⟨x1,x2,p,y1,y2,q,z1,z2,r,u1,u2,t,w1,w2,o,e⟩:=d.shape;have e:=congrArg Array.toList (Value.agg.inj e);dsimp only at e;subst e;refine ⟨x1,x2,p,y1,y2,q,z1,z2,r,u1,u2,t,w1,w2,o,by omega,?_,c⟩;apply List.ext_getElem?;intro j;rw [List.getElem?_take];split
 ·rename_i g;rw [List.getElem?_drop];exact f j _ (List.getElem?_eq_getElem (by show j<17;omega))▸(List.getElem?_eq_getElem (by show j<17;omega)).symm
 ·rename_i g;rw [List.getElem?_eq_none (by show 17<=j;omega)]
theorem RSd.both {V:View}{s:Sd}{x1:Int}{x2:Int}{p:OA}{y1:Int}{y2:Int}{q:OA}{z1:Int}{z2:Int}{r:OA}{u1:Int}{u2:Int}{t:OA}{w1:Int}{w2:Int}{o:OA}{c d:Bool}(h:RSd V (.agg #[.int .i64 x1,.int .i64 x2,.pointer p,.int .i64 y1,.int .i64 y2,.pointer q,.int .i64 z1,.int .i64 z2,.pointer r,.int .i64 u1,.int .i64 u2,.pointer t,.int .i64 w1,.int .i64 w2,.pointer o,.bool c,.bool d]) s) :
  RLi V (.agg #[.int .i64 x1,.int .i64 x2,.pointer p,.int .i64 y1,.int .i64 y2,.pointer q,.int .i64 z1,.int .i64 z2,.pointer r]) s.1/\Bi V (.agg #[.int .i64 u1,.int .i64 u2,.pointer t,.int .i64 w1,.int .i64 w2,.pointer o,.bool s.2.a,.bool s.2.b]) s.2/\c=s.2.a/\d=s.2.b:=by
 obtain ⟨f,g,y,i,j,z,k,l,A,m,n,B,u,v,C,e,w,x⟩:=h.1;have e:=congrArg Array.toList (Value.agg.inj e);simp only [List.cons.injEq,Value.bool.injEq,Value.int.injEq,Value.pointer.injEq,true_and,and_true] at e;obtain ⟨rfl,rfl,rfl,rfl,rfl,rfl,rfl,rfl,rfl,rfl,rfl,rfl,rfl,rfl,rfl,rfl,rfl⟩:=e;exact ⟨w,x,rfl,rfl⟩
theorem kU:∀{c d:List Sd} {l:L3} {v:Sp},cg (c++d) l v=(cg c l v).bind (cg d l)
 | [],_,_,_=>rfl
 | s::c,d,l,v=>by
  rw [List.cons_append];unfold cg;split
  ·exact kU
  ·rfl
theorem rE {V:View}{cp:OA}{cn cc:Nat}{c:List Sd}{lv:Value}{l:L3}(h:Lst 17 RSd V cp cn c)(hl:RLi V lv l)(hb:Bd l)(hn:c.length<=1000000) :
  Acts prog 165 #[.slice cp cn cc,lv] V fun r V'=>∃w,r=.tuple #[w,.bool (cg c l fullSp).isSome]/\Bi V' w ((cg c l fullSp).getD Sp.zero)/\((cg c l fullSp).getD Sp.zero).sz 100000:=by
 have n:=hl;obtain rfl:=h.len;obtain ⟨_,_,_,_,_,_,_,_,_,rfl,-,-,-⟩:=hl
 have K:∀{i:Nat} (o:i<c.length) {s:Sp},cg (c.take i) l fullSp=some s->cg (c.take (i+1)) l fullSp=if cA l s c[i].1=true then some (bZ l s c[i].1) else none:=fun {i} o {s} e=>by
  rw [List.take_add_one,List.getElem?_eq_getElem o,kU,e];show cg [c[i]] l s=_;unfold cg;rfl
 refine qY cp _ cc _ _ _ _ _ _ _ _ _ V _ fun V1 L=>OT.mono ?_;rintro r V2 M rfl;have N:=L.trans M
 refine ⟨_,_,_,_,_,_,_,_,rfl,fun z V'=>∃(i:Nat)(s:Sp),z.1=(i:Int)/\i<=c.length/\cg (c.take i) l fullSp=some s/\s.sz 100000/\z.2.2.2.2.2.2.2.1=s.a/\z.2.2.2.2.2.2.2.2=s.b/\Bi V' (.agg #[.int .i64 z.2.1,.int .i64 z.2.2.1,.pointer z.2.2.2.1,.int .i64 z.2.2.2.2.1,.int .i64 z.2.2.2.2.2.1,.pointer z.2.2.2.2.2.2.1,.bool s.a,.bool s.b]) s,
  fun z=>c.length-z.1.toNat,⟨(0,0,0,none,0,0,none,true,true),by and_intros<;>rfl,0,fullSp,rfl,Nat.zero_le _,rfl,Fo (by omega),rfl,rfl,⟨_,_,_,_,_,_,rfl,RR.zero _,RR.zero _⟩⟩,?_⟩
 rintro ⟨z1,x1,x2,p,y1,y2,q,ba,bb⟩ V3 O ⟨i,s,E,o,t,u,F,G,x⟩;dsimp only at E F G x ⊢;subst E F G;have L3:=N.trans O;refine ⟨rfl,fun f=>?_,fun f V7 P=>?_⟩
 ·have f:(i:Int)<c.length:=of_decide_eq_true f;have j:i<c.length:=by omega
  have w:i64.wrap ((i:Int)+1)=((i+1:Nat):Int):=by rw [i64w (by omega)];rfl
  rw [Int.toNat_natCast,w];obtain ⟨Q,a1,a2,a3,a4,a5,a6,a7,a8,a9,b1,b2,b3,b4,b5,b6,a,R,S,T,U,W,X,Y,Z,h7,h8,h9,y,A,B,LO,Ht,LP,C,H⟩:=lst_rsd (h.le L3 fun _ _ g=>RSd.le g L3) j;obtain ⟨rl,ri,-,-⟩:=H.both;have I:=K j t;have J:=H.2;refine ⟨Q,⟨by omega,by omega⟩,_,_,_,_,_,_,_,_,_,_,_,_,_,_,_,_,_,a,R,S,T,U,W,X,Y,Z,h7,h8,h9,y,A,B,LO,Ht,LP,C,fun V4 D=>(Bu (n.le (L3.trans D)) (x.le D) (rl.le D) (k:=100000) (hb.szl.up (by omega)) u (J.1.szl.up (by omega)) (by omega)).mono ?_⟩;rintro r V5 l5 ⟨w5,rfl,g⟩;have g0:=g;obtain ⟨_,_,_,_,_,_,rfl,-,-⟩:=g;refine ⟨_,_,_,_,_,_,_,_,_,rfl,fun m V6 l6=>?_,fun m=>⟨(((i+1:Nat):Int),_,_,_,_,_,_,_,_),by dsimp only;omega,by and_intros<;>rfl,i+1,bZ l s c[i].1,rfl,j,?_,tG hb.szl J.1.szl u (by omega),rfl,rfl,g0⟩⟩
  ·have m:cA l s c[i].1=false:=by simpa using m
   have e:cg c l fullSp=none:=by
    have:=kU (c:=c.take (i+1)) (d:=c.drop (i+1)) (l:=l) (v:=fullSp);rw [List.take_append_drop,I,m] at this;exact this
   rw [e];exact ⟨_,rfl,⟨_,_,_,_,_,_,rfl,RR.zero _,RR.zero _⟩,EE _ (by omega),EE _ (by omega)⟩
  ·have m:cA l s c[i].1=true:=by simpa using m
   rw [I,if_pos m]
 ·have f:¬(i:Int)<c.length:=of_decide_eq_false f;obtain rfl:i=c.length:=by omega
  rw [List.take_length] at t;rw [t];exact ⟨_,rfl,x.le P,u⟩
def On (c:List Sd)(l:L3):Int:=if (cg c l fullSp).isSome=true then 0 else eI c l
theorem zG {V:View}{cp:OA}{cn cc:Nat}{c:List Sd}{lv:Value}{l:L3}(h:Lst 17 RSd V cp cn c)(hl:RLi V lv l)(hb:Bd l)(hn:c.length<=1000000) :
  Acts prog 166 #[.slice cp cn cc,lv] V fun r V'=>r=.int .i64 (On c l):=by
 have e:=hl;obtain rfl:=h.len;obtain ⟨_,_,_,_,_,_,_,_,_,rfl,-,-,-⟩:=hl;refine pS cp _ cc _ _ _ _ _ _ _ _ _ V _ fun V1 s=>(rE (h.le s fun _ _ g=>RSd.le g s) (e.le s) hb hn).mono ?_;rintro r V2 J ⟨w,rfl,g,-⟩;obtain ⟨_,_,_,_,_,_,rfl,-,-⟩:=g;have K:=s.trans J;refine ⟨_,_,_,_,_,_,_,_,_,rfl,fun m V3 l3=>by unfold On;rw [if_pos m],fun m=>?_⟩;have m:(cg c l fullSp).isSome=false:=m;have L:On c l=eI c l:=by unfold On;rw [if_neg (by rw [m];exact Bool.false_ne_true)]
 rw [L];refine ⟨fun z V'=>∃i:Nat,z=(i:Int)/\i<=c.length/\eI c l=eI (c.drop i) l,fun z=>c.length-z.toNat,⟨0,by and_intros<;>rfl,0,rfl,Nat.zero_le _,rfl⟩,?_⟩;rintro z V4 M ⟨i,rfl,hi,b⟩;have t:=K.trans M;refine ⟨rfl,fun d=>?_,fun d N dq=>?_⟩
 ·have d:(i:Int)<c.length:=of_decide_eq_true d;have f:i<c.length:=by omega
  have w:i64.wrap ((i:Int)+1)=((i+1:Nat):Int):=by rw [i64w (by omega)];rfl
  rw [Int.toNat_natCast,w];obtain ⟨O,a1,a2,a3,a4,a5,a6,a7,a8,a9,b1,b2,b3,b4,b5,b6,a,P,Q,R,T,U,W,X,Y,Z,h8,h9,x,y,A,LO,Ht,LP,B,G⟩:=lst_rsd (h.le t fun _ _ g=>RSd.le g t) f;obtain ⟨H,ri,-,-⟩:=G.both;have j:=G.2;have ed:c.drop i=c[i]::c.drop (i+1):=List.drop_eq_getElem_cons f;rw [ed] at b;have b:eI c l=if (aj l (dE c[i].1 c[i].2.dw) (dS c[i].1 c[i].2.dw)).num.sign≠0 then (aj l (dE c[i].1 c[i].2.dw) (dS c[i].1 c[i].2.dw)).num.sign else if c[i].1=l then 1 else eI (c.drop (i+1)) l:=b.trans (by rfl);generalize c[i]=S at *;have C:=Ly j.2;refine ⟨O,⟨by omega,by omega⟩,_,_,_,_,_,_,_,_,_,_,_,_,_,_,_,_,_,a,P,Q,R,T,U,W,X,Y,Z,h8,h9,x,y,A,LO,Ht,LP,B,fun V5 n=>(Bt (ri.le n) j.2 (by omega)).mono ?_⟩;rintro r V6 u g;have g0:=g;obtain ⟨_,_,_,rfl⟩:=g.shape;refine ⟨_,_,_,rfl,fun V7 o=>(Tf (H.le (n.trans (u.trans o))) (g0.le o) (k:=300000) (j.1.szl.up (by omega)) (C.mono (by omega)) (by omega)).mono ?_⟩;rintro r V8 D I;have E:=I;obtain ⟨_,_,_,_,_,_,rfl,-,-⟩:=I;have sx:=EC (j.1.szl.up (show 1000<=300000 by omega)) (C.mono (show 2*100000+10<=300000 by omega));have sy:=ED (j.1.szl.up (show 1000<=300000 by omega)) (C.mono (show 2*100000+10<=300000 by omega));refine ⟨_,_,_,_,_,_,rfl,fun V9 v=>(Nt (e.le (t.trans (n.trans (u.trans (o.trans (D.trans v)))))) (E.le v) (hb.szl.up (by omega)) sx sy (by omega)).mono ?_⟩;rintro r a0 p rfl;refine ⟨_,rfl,fun F b0 b7=>?_,fun F b8 q=>(Ae (H.le (n.trans (u.trans (o.trans (D.trans (v.trans (p.trans q))))))) (e.le (t.trans (n.trans (u.trans (o.trans (D.trans (v.trans (p.trans q)))))))) (k:=1000) j.1.szl hb.szl (by omega)).mono ?_⟩
  ·rw [b,if_pos (by simpa using F)]
  ·rintro r b9 c0 rfl;rw [if_neg (by simpa using F)] at b;refine ⟨_,rfl,fun he c1 c_=>?_,fun he=>⟨((i+1:Nat):Int),by dsimp only;omega,by and_intros<;>rfl,i+1,rfl,f,?_⟩⟩
   ·rw [b,if_pos (of_decide_eq_true he)]
   ·rw [b,if_neg (of_decide_eq_false he)]
 ·have d:¬(i:Int)<c.length:=of_decide_eq_false d;obtain rfl:i=c.length:=by omega
  rw [b,List.drop_length];rfl
end Go.Proofs.Tryz
