import Derived.Test.YtdhlkpfmlimjfaaGreatDoorN18
import Derived.Test.YtdhlkpfmlimjfaaGreatDoorN17
import Derived.Test.YtdhlkpfmlimjfaaGreatDoorN16
import Derived.Test.YtdhlkpfmlimjfaaGreatDoorN9
import Derived.Test.YtdhlkpfmlimjfaaGreatDoorN6
import Derived.Test.YtdhlkpfmlimjfaaGreatDoorN11
import Derived.Test.YtdhlkpfmlimjfaaGreatDoorN14
import Derived.Test.YtdhlkpfmlimjfaaGreatDoorN10
set_option linter.unusedVariables false
open Go.IntKind (i64 u64 u32)
namespace Go.Proofs.Tryz
open Go.Eng Go.Big
def touchC (c d:List Sd):Bool:=c.any fun s=>d.any fun u=>ovB s.1 s.2 u.1 u.2
def MF (a b:List L3):Prop:=∃l∈a,revL l∈b/\∃t:Rat,∀m∈a++b,m≠l->m≠revL l->0<aj m (dE l t) (dS l t)
theorem FC (s:Sp)(t:Rat):s.neg.fI t↔s.fI (-t):=by
 obtain ⟨c,d,a,b⟩:=s;unfold Sp.neg Sp.fI;cases a<;>cases b<;>simp<;>grind
theorem Ji {l m:L3}{s u:Sp}:ovB l s m u=true↔(m=l\/m=revL l)/\∃t,s.fI t/\(GX m u l).fI t:=by
 unfold ovB FG;rw [Bool.and_eq_true,Bool.or_eq_true,decide_eq_true_eq,decide_eq_true_eq,Bool.not_eq_true',jq];refine and_congr Iff.rfl ⟨fun ⟨t,h⟩=>⟨t,j7.1 h⟩,fun ⟨t,h⟩=>⟨t,j7.2 h⟩⟩
theorem JG {l:L3}(h:okL l=true):revL l≠l:=fun e=>by
 have b:=Ak h;rw [←e,tm] at b;have a:=congrArg Sec.dirL e;rw [tm] at a;have c:=congrArg Prod.fst a;have d:=congrArg Prod.snd a;dsimp only at c d b;grind
theorem Hk {M N:List L3}{c d:List Sd}(h:CanC M c)(hk:∀m∈M,okL m=true)(h':CanC N d)(hk':∀m∈N,okL m=true)(Iw:¬∃q,oX c q/\oX d q) :
  touchC c d=true↔MF (c.map Prod.fst) (d.map Prod.fst):=by
 have key:touchC c d=true↔∃s∈c,∃u∈d,ovB s.1 s.2 u.1 u.2=true:=by
  unfold touchC;rw [List.any_eq_true];exact ⟨fun ⟨s,B,C⟩=>⟨s,B,List.any_eq_true.1 C⟩,fun ⟨s,B,C⟩=>⟨s,B,List.any_eq_true.2 C⟩⟩
 rw [key];have inC:∀{q},Sec.pos M q->oX c q:=fun i s f=>i _ (h.mem s f).1;have K:∀{q},Sec.pos N q->oX d q:=fun i s f=>i _ (h'.mem s f).1;constructor
 ·rintro ⟨s,f,u,hu,L⟩;obtain ⟨hm,t,w,n⟩:=Ji.1 L;obtain ⟨sm,O,D⟩:=h.mem s f;obtain ⟨I,P,y⟩:=h'.mem u hu;have z:=(kt (j_ (hk _ sm)) t).1;have s1:=(D t).1 w;rcases hm with hm|hm
  ·exfalso;unfold GX at n;rw [if_pos hm] at n;have o:=(y t).1 n;rw [hm] at o
   obtain ⟨q,r,A,Q⟩:=Sec.zY (M:=M) (l:=s.1) (x:=(dE s.1 t,dS s.1 t)) (Ak (hk _ sm)) z s1 (N.filter fun m=>decide (m≠s.1)) (fun m hm=>by
    obtain ⟨E,F⟩:=List.mem_filter.1 hm;exact o m E (of_decide_eq_true F))
   refine Iw ⟨q,inC r,K fun m hm=>?_⟩;by_cases e:m=s.1
   ·rw [e];exact A
   ·exact Q m (List.mem_filter.2 ⟨hm,decide_eq_true e⟩)
  ·have b:u.1≠s.1:=by rw [hm];exact JG (hk _ sm)
   unfold GX at n;rw [if_neg b,FC] at n;have o:=(y (-t)).1 n;rw [hm,E7,E8] at o;refine ⟨s.1,List.mem_map.2 ⟨s,f,rfl⟩,List.mem_map.2 ⟨u,hu,hm⟩,t,fun m G R S=>?_⟩;rcases List.mem_append.1 G with g|g
   ·obtain ⟨v,a,rfl⟩:=List.mem_map.1 g;exact s1 _ (h.mem v a).1 R
   ·obtain ⟨v,a,rfl⟩:=List.mem_map.1 g;exact o _ (h'.mem v a).1 S
 ·rintro ⟨l,J,T,t,w⟩;obtain ⟨s,f,rfl⟩:=List.mem_map.1 J;obtain ⟨u,hu,j⟩:=List.mem_map.1 T;obtain ⟨sm,O,D⟩:=h.mem s f;obtain ⟨I,P,y⟩:=h'.mem u hu;have z:=(kt (j_ (hk _ sm)) t).1;obtain ⟨q,i⟩:=h.pos;obtain ⟨Z,k⟩:=h'.pos
  have U:∀m∈c.map Prod.fst,m≠revL s.1:=fun m hm e=>by
   obtain ⟨v,a,rfl⟩:=List.mem_map.1 hm;have r:=i _ (h.mem v a).1;have A:=i _ sm;rw [e,val_rev] at r;grind
  have V:∀m∈d.map Prod.fst,m≠s.1:=fun m hm e=>by
   obtain ⟨v,a,rfl⟩:=List.mem_map.1 hm;have r:=k _ (h'.mem v a).1;have A:=k _ I;rw [j,val_rev] at A;rw [e] at r;grind
  have W:∀m∈c.map Prod.fst,m∈M:=fun m hm=>by obtain ⟨v,a,rfl⟩:=List.mem_map.1 hm;exact (h.mem v a).1
  have X:∀m∈d.map Prod.fst,m∈N:=fun m hm=>by obtain ⟨v,a,rfl⟩:=List.mem_map.1 hm;exact (h'.mem v a).1
  have E:s.2.fI t:=(D t).2 (Ii (p:=(dE s.1 t,dS s.1 t)) W hk (fun p H=>zS h hk fun v a=>H _ (List.mem_map.2 ⟨v,a,rfl⟩)) i J z fun m hm b=>w m (List.mem_append_left _ hm) b (U m hm));have Y:aj u.1 (dE s.1 t) (dS s.1 t)=0:=by rw [j,val_rev,z];rfl
  have F:u.2.fI (-t):=by
   refine (y (-t)).2 ?_;rw [j,E7,E8,←j];exact Ii (p:=(dE s.1 t,dS s.1 t)) X hk' (fun p H=>zS h' hk' fun v a=>H _ (List.mem_map.2 ⟨v,a,rfl⟩)) k (List.mem_map.2 ⟨u,hu,rfl⟩) Y fun m hm b=>w m (List.mem_append_right _ hm) (V m hm) (by rw [←j];exact b)
  refine ⟨s,f,u,hu,Ji.2 ⟨.inr j,t,E,?_⟩⟩;unfold GX;rw [if_neg (by rw [j];exact JG (hk _ sm)),FC];exact F
theorem E9:∀(L:List Rat) {lo hi:Rat},lo<hi->∃t,lo<t/\t<hi/\∀r∈L,t≠r
 | [],lo,hi,h=>⟨(lo+hi) / 2,by grind,by grind,(fun r hr=>by cases hr)⟩
 | r::L,lo,hi,h=>by
  by_cases c:lo<r/\r<hi
  ·obtain ⟨t,h1,h2,h3⟩:=E9 L c.1;refine ⟨t,h1,by grind,fun x a=>?_⟩;rcases List.mem_cons.1 a with rfl|a
   ·grind
   ·exact h3 x a
  ·obtain ⟨t,h1,h2,h3⟩:=E9 L h;refine ⟨t,h1,h2,fun x a=>?_⟩;rcases List.mem_cons.1 a with rfl|a
   ·intro e;subst e;exact c ⟨h1,h2⟩
   ·exact h3 x a
theorem BX {s:Sp}(h:s.fR):∃lo hi,lo<hi/\∀t,lo<t->t<hi->s.fI t:=by
 obtain ⟨t,e⟩:=jq.1 h.2;obtain ⟨lo,hi,a,b⟩:=s;unfold Sp.fI at *;dsimp only at *;cases a<;>cases b<;>simp at e ⊢
 ·exact ⟨lo,hi,by grind,fun t c d=>⟨c,d⟩⟩
 ·exact ⟨lo,lo+1,by grind,fun t c d=>c⟩
 ·exact ⟨hi-1,hi,by grind,fun t c d=>d⟩
 ·exact ⟨0,1,by decide⟩
def ph (l m:L3):Bool:=decide (m≠l)&&decide (m≠revL l)
def o_ (l:L3)(ms:List L3):Option Sp:=cg ((ms.filter (ph l)).map fun m=>(m,fullSp)) l fullSp
def Ah (a b:List L3):Bool:=a.any fun l=>decide (revL l∈b)&&(o_ l (a++b)).isSome
theorem yS {l:L3}{ms:List L3}:(o_ l ms).isSome=true↔∃t,∀m∈ms,m≠l->m≠revL l->0<aj m (dE l t) (dS l t):=by
 have mem:∀{t},(∀s∈(ms.filter (ph l)).map fun m=>(m,fullSp),0<aj s.1 (dE l t) (dS l t))↔∀m∈ms,m≠l->m≠revL l->0<aj m (dE l t) (dS l t):=fun {t}=>by
  constructor
  ·intro g m hm c d;exact g (m,fullSp) (List.mem_map.2 ⟨m,List.mem_filter.2 ⟨hm,by unfold ph;rw [decide_eq_true c,decide_eq_true d];rfl⟩,rfl⟩)
  ·intro g s f;obtain ⟨m,hm,rfl⟩:=List.mem_map.1 f;obtain ⟨i,a⟩:=List.mem_filter.1 hm;unfold ph at a;rw [Bool.and_eq_true,decide_eq_true_eq,decide_eq_true_eq] at a;exact g m i a.1 a.2
 unfold o_;constructor
 ·intro h;obtain ⟨v,j⟩:=Option.isSome_iff_exists.1 h;obtain ⟨k,n⟩:=qQ bu j;obtain ⟨t,b⟩:=jq.1 k.2;exact ⟨t,mem.1 ((n t).1 b).2⟩
 ·rintro ⟨t,b⟩
  cases e:cg ((ms.filter (ph l)).map fun m=>(m,fullSp)) l fullSp with
  | some v=>rfl
  | none=>exact absurd (mem.2 b) (qP bu e t (oR t))
theorem K_ {a b:List L3}:Ah a b=true↔MF a b:=by
 unfold Ah MF;rw [List.any_eq_true];constructor
 ·rintro ⟨l,c,h⟩;rw [Bool.and_eq_true,decide_eq_true_eq] at h;obtain ⟨t,d⟩:=yS.1 h.2;exact ⟨l,c,h.1,t,d⟩
 ·rintro ⟨l,c,e,t,d⟩;refine ⟨l,c,?_⟩;rw [Bool.and_eq_true,decide_eq_true_eq];exact ⟨e,yS.2 ⟨t,d⟩⟩
theorem Hl {M N:List L3}{c d:List Sd}(h:CanC M c)(hk:∀m∈M,okL m=true)(h':CanC N d)(hk':∀m∈N,okL m=true)(Iw:¬∃q,oX c q/\oX d q):touchC c d=Ah (c.map Prod.fst) (d.map Prod.fst):=by
 have:=(Hk h hk h' hk' Iw).trans K_.symm;cases e1:touchC c d<;>cases e2:Ah (c.map Prod.fst) (d.map Prod.fst)<;>first|rfl|(exfalso;rw [e1,e2] at this;simp at this)
def cw (l m:L3):List Sp:=if aV l m=0 then (if 0<aj m (dE l 0) (dS l 0) then [fullSp] else []) else if 0<bN m l then [⟨bY m l,0,false,true⟩] else [⟨0,bY m l,true,false⟩]
theorem mI (l m:L3):cw l m=[]\/∃u,cw l m=[u]/\u.can:=by
 unfold cw;split
 ·split
  ·exact .inr ⟨_,rfl,bu.1⟩
  ·exact .inl rfl
 ·split
  ·exact .inr ⟨_,rfl,⟨(fun h=>by cases h),fun _=>rfl⟩⟩
  ·exact .inr ⟨_,rfl,⟨fun _=>rfl,(fun h=>by cases h)⟩⟩
theorem dI (a:List Sp):bX 2 a []=[]:=by
 cases e:bX 2 a [] with
 | nil=>rfl
 | cons s r=>
  exfalso;have f:=uk 2 a [];rw [e] at f;obtain ⟨k,l,b,c⟩:=BX (f.1 s (List.mem_cons_self ..));obtain ⟨t,t1,t2,t3⟩:=E9 (cL (a++[])) b;have d:=oN 2 a [] (t:=t) (fun h=>t3 t h rfl);rw [e] at d;have g:nH (s::r) t=true:=ij.2 ⟨s,List.mem_cons_self ..,c t t1 t2⟩;have i:nH [] t=false:=rfl;have j:Kp 2 (nH a t) false=(nH a t&&false):=rfl;rw [g,i,j,Bool.and_false] at d;cases d
theorem GS {v:Sp}(hv:v.can):v.meet fullSp=v:=by
 obtain ⟨c,d,a,b⟩:=v;unfold Sp.can at hv;unfold Sp.meet fullSp;cases a<;>cases b<;>simp at hv⊢<;> simp [hv]
theorem qC {v:Sp}(hv:v.can):fullSp.meet v=v:=by
 obtain ⟨c,d,a,b⟩:=v;unfold Sp.can at hv;unfold Sp.meet fullSp;cases a<;>cases b<;>simp at hv⊢<;> simp [hv]
theorem Cw {u:Sp}(hu:u.fR):bX 2 [fullSp] [u]=[u]:=by
 rw [jV bu.1 hu.1,qC hu.1,if_neg (by rw [hu.2];exact Bool.false_ne_true)]
theorem zq {l m:L3}{v:Sp}(hv:v.fR):bX 2 [v] (bX 2 [fullSp] (cw l m))=if cA l v m=true then [bZ l v m] else []:=by
 unfold cw;by_cases b:aV l m=0
 ·have a:bN m l=0:=by rw [fr] at b;grind
  have d:bZ l v m=v:=by unfold bZ;rw [a];rfl
  have c:cA l v m=decide ((gR m l).num.sign>0):=by unfold cA;rw [a];rfl
  rw [if_pos b,d,c];by_cases g:0<aj m (dE l 0) (dS l 0)
  ·rw [if_pos g,Cw bu,jV hv.1 bu.1,GS hv.1,if_neg (by rw [hv.2];exact Bool.false_ne_true),if_pos (decide_eq_true (show (gR m l).num.sign>0 from Sec.rR.2 g))]
  ·rw [if_neg g,dI,dI,if_neg (by rw [decide_eq_true_eq];exact fun h=>g (Sec.rR.1 h))]
 ·have a:bN m l≠0:=fun e=>b (by rw [fr,e];grind)
  have c:cA l v m=!(bZ l v m).emp:=by
   unfold cA;rcases gG (bN m l) with ⟨h,e⟩|⟨h,e⟩|⟨h,e⟩
   ·exact absurd h a
   ·rw [e];rfl
   ·rw [e];rfl
  have fin:∀{u:Sp},u.fR->v.meet u=bZ l v m->bX 2 [v] (bX 2 [fullSp] [u])=if cA l v m=true then [bZ l v m] else []:=fun {u} hu e=>by
   rw [Cw hu,jV hv.1 hu.1,e,c];cases (bZ l v m).emp<;>rfl
  rw [if_neg b];rcases gG (bN m l) with ⟨h,e⟩|⟨h,e⟩|⟨h,e⟩
  ·exact absurd h a
  ·rw [if_pos h];refine fin ⟨⟨(fun h=>by cases h),fun _=>rfl⟩,Sp.ig.2 (.inr (.inl rfl))⟩ ?_;unfold bZ;rw [e];rfl
  ·rw [if_neg (by grind)];refine fin ⟨⟨fun _=>rfl,(fun h=>by cases h)⟩,Sp.ig.2 (.inl rfl)⟩ ?_;unfold bZ;rw [e];rfl
def iP (l:L3):List L3->List Sp->List Sp
 | [],s=>s
 | m::r,s=>if ph l m=true then iP l r (bX 2 s (bX 2 [fullSp] (cw l m))) else iP l r s
theorem Cs (l m:L3):bX 2 [] (bX 2 [fullSp] (cw l m))=[]:=by
 rcases mI l m with h|⟨u,h,hu⟩
 ·rw [h,dI,dI]
 ·rw [h,jV bu.1 hu,qC hu];split
  ·exact dI _
  ·cases e:bX 2 [] [u] with
   | nil=>rfl
   | cons s r=>
    exfalso;have d:=uk 2 [] [u];rw [e] at d;obtain ⟨j,k,a,b⟩:=BX (d.1 s (List.mem_cons_self ..));obtain ⟨t,t1,t2,t3⟩:=E9 (cL ([]++[u])) a;have c:=oN 2 [] [u] (t:=t) (fun h=>t3 t h rfl);rw [e] at c;have f:nH (s::r) t=true:=ij.2 ⟨s,List.mem_cons_self ..,b t t1 t2⟩;have g:nH [] t=false:=rfl;have i:Kp 2 false (nH [u] t)=(false&&nH [u] t):=rfl;rw [f,g,i,Bool.false_and] at c;cases c
theorem yT (l:L3):∀ms:List L3,iP l ms []=[]
 | []=>rfl
 | m::r=>by
  unfold iP;rw [Cs];split<;>exact yT l r
theorem nJ {l:L3}:∀{ms:List L3} {v:Sp},v.fR->iP l ms [v]=match cg ((ms.filter (ph l)).map fun m=>(m,fullSp)) l v with|some w=>[w]|none=>[]
 | [],v,_=>rfl
 | m::r,v,hv=>by
  unfold iP;by_cases c:ph l m=true
  ·rw [if_pos c,zq hv,List.filter_cons_of_pos c,List.map_cons];have e:cg ((m,fullSp)::(r.filter (ph l)).map fun m=>(m,fullSp)) l v=if cA l v m=true then cg ((r.filter (ph l)).map fun m=>(m,fullSp)) l (bZ l v m) else none:=rfl;rw [e];by_cases g:cA l v m=true
   ·rw [if_pos g,if_pos g];exact nJ (gL hv g)
   ·rw [if_neg g,if_neg g];exact yT l r
  ·rw [if_neg c,List.filter_cons_of_neg c];exact nJ hv
theorem GP {l:L3}{ms:List L3}:decide (0<(iP l ms [fullSp]).length)=(o_ l ms).isSome:=by
 rw [nJ bu];unfold o_;cases cg ((ms.filter (ph l)).map fun m=>(m,fullSp)) l fullSp<;>rfl
theorem DC.Q9 {V:View}{p:OA}{n:Nat}{ss:List Sp}(h:DC V p n ss):Lst 8 lf V p n ss:=by
 refine ⟨h.len,fun i c=>?_⟩;obtain ⟨d,f,xs,b,g⟩:=h.at_ i c;have a:=b;obtain ⟨_,_,_,_,_,_,_,_,_,_,_,_,_,_,e,-,-⟩:=pC b;exact ⟨d,f,xs,by rw [e];rfl,a,g⟩
theorem mK {V:View}{p:OA}{n:Nat}{ss:List Sp}(h:Lst 8 lf V p n ss):DC V p n ss:=
 ⟨h.len,fun i a=>by obtain ⟨b,c,xs,-,d,e⟩:=h.at_ i a;exact ⟨b,c,xs,d,e⟩⟩
theorem CP {V:View}{vs:List Value}{ss:List Sp}(h:Row 8 lf V vs ss){m:Nat}(hm:m<ss.length*8){v:Value}(hv:vs[m]?=some v):v.oneCell'=true:=by
 have c:m / 8<ss.length:=by omega
 obtain ⟨xs,d,f,g⟩:=h.at_ (m / 8) c;obtain ⟨_,_,_,_,_,_,_,_,_,_,_,_,_,_,e,-,-⟩:=pC f;have b:m%8<xs.length:=by rw [d];exact Nat.mod_lt _ (by decide)
 have i:m=m / 8*8+m%8:=by omega
 have:=g (m%8) _ (List.getElem?_eq_getElem b);rw [←i,hv] at this;obtain rfl:=Option.some.inj this;have a:=List.getElem_mem b;generalize xs[m%8]=v at a;subst e;simp only [List.mem_cons,List.not_mem_nil,or_false] at a;rcases a with rfl|rfl|rfl|rfl|rfl|rfl|rfl|rfl<;>rfl
theorem N4 {x:Rat}{k:Nat}(h:Sz k x):Sz (k+3) (x*((2:Int):Rat)⁻¹):=by
 have a:Sz 2 (((2:Int):Rat))⁻¹:=by unfold Sz;decide +kernel
 exact (h.mul a).mono (by omega)
theorem G4 {c:List Rat}{k:Nat}(h:∀q∈c,Sz k q){q:Rat}(hq:q∈ch c):Sz (2*k+4) q:=by
 have g:∀i,i<c.length->Sz k (c.getD i 0):=fun i a=>by rw [eZ a];exact h _ (List.getElem_mem a)
 have z:Sz (2*k+4) 0:=by
  have b:(1:Nat)<2^(2*k+4):=Nat.one_lt_two_pow (by omega);exact ⟨Nat.lt_of_le_of_lt (Nat.zero_le _) b,b⟩
 unfold ch at hq;by_cases d:c.length=0
 ·rw [if_pos d] at hq;obtain rfl:q=0:=by simpa using hq
  exact z
 ·rw [if_neg d] at hq;rcases List.mem_append.1 hq with hq|hq
  ·unfold xd at hq;rcases List.mem_cons.1 hq with rfl|hq
   ·exact ((g 0 (by omega)).sub gH).mono (by omega)
   ·obtain ⟨i,a,rfl⟩:=List.mem_map.1 hq;rw [List.mem_range] at a;exact (N4 ((g i (by omega)).add (g (i+1) (by omega)))).mono (by omega)
  ·obtain rfl:q=_:=by simpa using hq
   exact ((g _ (by omega)).add gH).mono (by omega)
theorem gU {V:View}{op:Int}{ap bp:OA}{an ac bn bc:Nat}{la' lb':List Sp}(ha:DC V ap an la')(hb:DC V bp bn lb')(hl:la'.length+lb'.length<10000000){k:Nat}(sa:∀s∈la',s.sz k)(sb:∀s∈lb',s.sz k)(hk:4*k+8<274877906944) :
  Acts prog 78 #[.int .i64 op,.slice ap an ac,.slice bp bn bc] V fun r V'=>∃p n c,r=.slice p n c/\DC V' p n (bX op la' lb'):=by
 have la:=ha.len;have lb:=hb.len;obtain ⟨xs,x1,x2,x3⟩:=lst_cells ha.Q9 (by decide);obtain ⟨ys,y1,y2,y3⟩:=lst_cells hb.Q9 (by decide);refine rk op ap an ac bp bn bc V _ ⟨xs,x1,by omega,by omega,Nat.le_refl _,Nat.zero_le _,by omega,?_,fun a5 J5 B c3 h1 o=>⟨ys,y1,by omega,by omega,by omega,?_,by omega,?_,fun a6 a7 Zn c8 t u V1 l1 RE K=>?_⟩⟩
 ·intro v w;obtain ⟨m,hm,rfl⟩:=List.getElem_of_mem w;exact CP x3 (by omega) (List.getElem?_eq_getElem hm)
 ·rw [List.take_nil,List.nil_append,List.length_append];omega
 ·intro v w;obtain ⟨m,hm,rfl⟩:=List.getElem_of_mem w;exact CP y3 (by omega) (List.getElem?_eq_getElem hm)
 have C:Row 8 lf V1 ((([]:List Value).take (0*8)++xs++B).take ((0+an)*8)++ys++Zn) (la'++lb'):=by
  have e:(([]:List Value).take (0*8)++xs++B).take ((0+an)*8)=xs.take (la'.length*8):=by
   rw [List.take_nil,List.nil_append,la,Nat.zero_add,List.take_append_of_le_length (by omega)]
  rw [e];exact (row_append x3 y3 (by decide)).le fun _ _ h=>h.le l1
 have hL:DC V1 (some ⟨RE,0,none⟩) (0+an+bn) (la'++lb'):=by
  have:=mK (Lst.nM K C)
  rwa [show (la'++lb').length=0+an+bn by rw [List.length_append];omega] at this
 have f:∀s∈la'++lb',s.sz k:=fun s f=>by
  rcases List.mem_append.1 f with f|f
  ·exact sa s f
  ·exact sb s f
 refine (zP hL (by rw [List.length_append];omega) f (by omega)).mono ?_;rintro r V2 l2 ⟨Wv,L,M,rfl,N⟩;have cl:=yD (la'++lb');rw [List.length_append] at cl
 have cs:∀q∈cL (la'++lb'),Sz k q:=fun q J=>by
  obtain ⟨s,D,e⟩:=yE J;rcases e with rfl|rfl
  ·exact (f s D).1
  ·exact (f s D).2
 have OU:bX op la' lb'=BT (cL (la'++lb')) (iS op la' lb' (cL (la'++lb'))):=rfl;rw [OU];generalize cL (la'++lb')=cuts at N cl cs;refine ⟨Wv,L,M,rfl,fun a8 V3 E=>(ua (N.le E fun _ _ h=>h.le E) (by omega) cs (by omega)).mono ?_⟩;rintro r V4 O ⟨Zb,l,P,rfl,hp⟩;have Q:=hp.len;rw [fk] at Q;have ml:=qL op la' lb' cuts
 have Y2:∀i (A:i<(ch cuts).length),(iS op la' lb' cuts).take (i+1)=(iS op la' lb' cuts).take i++[Kp op (mT la' (ch cuts)[i]==2) (mT lb' (ch cuts)[i]==2)]:=fun i A=>by
  rw [fk] at A;rw [List.take_add_one,List.getElem?_eq_getElem (by omega)];unfold iS;rw [List.getElem_map];rfl
 refine ⟨Zb,l,P,rfl,fun z V'=>∃i:Nat,z.2.2.2=(i:Int)/\i<=cuts.length+1/\z.1=i/\z.1<=z.2.1/\z.2.1*1<=z.2.2.1.length/\Row 1 Rr V' z.2.2.1 ((iS op la' lb' cuts).take i),fun z=>cuts.length+1-z.2.2.2.toNat,
  ⟨(0,0,[],0),by and_intros<;>rfl,0,rfl,Nat.zero_le _,rfl,Nat.le_refl _,Nat.le_refl _,Row.nil⟩,?_⟩
 rintro ⟨g,z2,vs,z4⟩ V5 F ⟨i,e4,a9,e1,ic,w,d⟩;dsimp only at e4 e1 ic w d;subst e4 e1;refine ⟨rfl,fun j=>?_,fun j R G a4 Pa=>?_⟩
 ·have j:(g:Int)<l:=of_decide_eq_true j;have A:g<(ch cuts).length:=by rw [fk];omega
  dsimp only;rw [Int.toNat_natCast];obtain ⟨ad,b,p1,n1,c1,p2,n2,c2,H,J,a0,a1,a2⟩:=vv (hp.le F fun _ _ h=>h.le F) A;have sq:=G4 cs (List.getElem_mem A);have L5:V.Le V5:=l1.trans (l2.trans (E.trans (O.trans F)));have S:∀s∈la',s.sz (2*k+4):=fun s f=>⟨(sa s f).1.mono (by omega),(sa s f).2.mono (by omega)⟩;have T:∀s∈lb',s.sz (2*k+4):=fun s f=>⟨(sb s f).1.mono (by omega),(sb s f).2.mono (by omega)⟩;refine ⟨bF H,⟨by omega,by omega⟩,b,p1,n1,c1,p2,n2,c2,ad,H,a0,a1,a2,fun V6 I=>(ub (ha.le (L5.trans I)) (J.le I) S sq (by omega) (by omega)).mono ?_⟩;rintro r V7 U rfl;refine ⟨_,rfl,fun V8 W=>(ub (hb.le (L5.trans (I.trans (U.trans W)))) (J.le (I.trans (U.trans W))) T sq (by omega) (by omega)).mono ?_⟩;rintro r V9 l9 rfl;have L9:=I.trans (U.trans (W.trans l9));have hm:=Y2 g A;generalize (mT la' (ch cuts)[g]==2)=x at hm;generalize (mT lb' (ch cuts)[g]==2)=y at hm;refine ⟨_,rfl,fun z V'=>V9.Le V'/\z=(x||y),⟨fun d=>⟨true,by and_intros<;>rfl,View.Le.refl _,by rw [d];rfl⟩,fun d=>⟨y,by and_intros<;>rfl,View.Le.refl _,by rw [d];rfl⟩⟩,?_⟩;rintro b0 X b1 ⟨b2,rfl⟩;refine ⟨rfl,fun z V'=>X.Le V'/\z=Kp op x y,⟨fun o=>?_,fun o=>⟨fun t=>?_,fun t=>⟨fun u=>?_,fun u=>?_⟩⟩⟩,?_⟩
  ·obtain rfl:=eq_of_beq o;exact ⟨fun d=>⟨y,by and_intros<;>rfl,View.Le.refl _,by rw [d];rfl⟩,fun d=>⟨false,by and_intros<;>rfl,View.Le.refl _,by rw [d];rfl⟩⟩
  ·obtain rfl:=eq_of_beq t;exact ⟨fun d=>⟨!y,by and_intros<;>rfl,View.Le.refl _,by rw [d];rfl⟩,fun d=>⟨false,by and_intros<;>rfl,View.Le.refl _,by rw [d];rfl⟩⟩
  ·obtain rfl:=eq_of_beq u;exact ⟨_,by and_intros<;>rfl,View.Le.refl _,rfl⟩
  ·refine ⟨_,by and_intros<;>rfl,View.Le.refl _,?_⟩;have o:¬op=2:=fun e=>by subst e;cases o
   have t:¬op=3:=fun e=>by subst e;cases t
   have u:¬op=4:=fun e=>by subst e;cases u
   unfold Kp;rw [if_neg o,if_neg t,if_neg u]
  ·rintro b3 Y b4 ⟨b5,rfl⟩;refine ⟨rfl,by omega,ic,w,rfl,?_,fun sp c' h5 h6=>⟨(g+1,c',_,(g:Int)+1),by dsimp only;omega,by and_intros<;>first|rfl|exact i64w (by omega),g+1,rfl,by omega,rfl,h5,?_,?_⟩⟩
   ·intro v hm;obtain rfl:v=_:=by simpa using hm
    rfl
   ·dsimp only;have ht:(vs.take (g*1)).length=g*1:=by rw [List.length_take];omega
    rw [List.length_append,List.length_append,ht];simp only [List.length_cons,List.length_nil];omega
   ·dsimp only;have hlen:((iS op la' lb' cuts).take g).length=g:=by rw [List.length_take];omega
    rw [hm];have:=(d.le (V':=Y) fun _ _ h=>h).snoc (sp:=sp) (xs:=[.bool (Kp op x y)]) (a:=Kp op x y) rfl rfl (by decide);rw [hlen] at this;exact this
 ·have j:¬(g:Int)<l:=of_decide_eq_false j;obtain rfl:g=cuts.length+1:=by omega
  dsimp only at Pa ⊢;rw [List.take_of_length_le (by omega)] at d;have hM:=Lst.of_mrow (c:=z2) Pa (d.le (V':=R) fun _ _ h=>h) (by decide) (by omega);rw [ml] at hM;refine (zO (N.le (E.trans (O.trans (F.trans G))) fun _ _ h=>h.le (E.trans (O.trans (F.trans G)))) hM ml (by omega)).mono ?_;rintro r b6 b7 ⟨Z,a3,XN,rfl,hr⟩;exact ⟨Z,a3,XN,rfl,fun WW b8 c_=>⟨_,_,_,rfl,mK (hr.le c_ fun _ _ h=>h.le c_)⟩⟩
def dN (m:L3)(k:Int):L3:=if k=1 then m else revL m
theorem CR {q:Rat}{k:Int}(hk:k=1\/k=-1):(q.num.sign==k)=decide (0<(if k=1 then q else -q)):=by
 rcases gG q with ⟨h,e⟩|⟨h,e⟩|⟨h,e⟩<;>rcases hk with rfl|rfl<;>rw [e]<;>simp<;>grind
theorem CW (m:L3)(k:Int)(x y:Rat):aj (dN m k) x y=if k=1 then aj m x y else -aj m x y:=by
 unfold dN;split
 ·rfl
 ·exact val_rev ..
theorem CV (m l:L3)(k:Int):bN (dN m k) l=if k=1 then bN m l else -bN m l:=by
 unfold dN;split
 ·rfl
 ·exact Fk ..
theorem nR (m l:L3)(k:Int):aV l (dN m k)=0↔aV l m=0:=by
 rw [fr,fr,CV];split<;>grind
theorem JO {m l:L3}(k:Int)(h:bN m l≠0):bY (dN m k) l=bY m l:=by
 unfold dN;split
 ·rfl
 ·exact H6 h
def Om (l m:L3):Bool:=decide (aV l m=0/\aj m (dE l 0) (dS l 0)=0)
theorem oK {V:View}{v w:Value}{l m:L3}{k:Int}(hk:k=1\/k=-1)(hl:RLv V v l)(hm:RLv V w m)(nz:Nz l)(bl:Bd l)(bm:Bd m) :
  Acts prog 123 #[v,w,.int .i64 k] V fun r V'=>∃q n c,r=.tuple #[.slice q n c,.bool (Om l m)]/\Lst 8 lf V' q n (cw l (dN m k)):=by
 have d:=hl;have i:=hm;obtain ⟨_,_,_,_,_,_,_,_,_,_,_,_,rfl⟩:=rlv_shape hl;obtain ⟨_,_,_,_,_,_,_,_,_,_,_,_,rfl⟩:=rlv_shape hm;have sl:=bl.szl;have sm:=bm.szl;refine xR _ _ _ _ _ _ _ _ _ _ _ _ _ _ _ _ _ _ _ _ _ _ _ _ k V _ fun V1 A=>(Jz (RLv.le d A) (RLv.le i A) sl sm (by omega)).mono ?_;rintro r V2 l2 ⟨u,rfl,q0,q1⟩;obtain ⟨s1,s2⟩:=F2 sl sm;have f:=A.trans l2;by_cases b:aV l m=0
 ·have L:=q0 b;unfold Hz at L;subst L;refine ⟨_,_,_,_,_,_,_,_,_,_,_,_,_,_,_,rfl,fun _ V3 M=>(FL (RLv.le d (f.trans M)) nz bl).mono ?_,fun h=>by simp [b] at h⟩;rintro r V4 l4 N;have R4:=N;obtain ⟨_,_,_,_,_,_,_,_,_,_,_,_,rfl,-⟩:=N;have p:=f.trans (M.trans l4);refine ⟨_,_,_,_,_,_,_,_,_,_,_,_,_,_,rfl,fun V5 B=>(Et (RLv.le i (p.trans B)) (R4.le B) (sm.up (K:=30000) (by omega)) (AG bl).1 (AG bl).2 (by omega)).mono ?_⟩;rintro r V6 l6 rfl;have Ed:=p.trans (B.trans l6)
  have s:((aj m (dE l 0) (dS l 0)).num.sign==(0:Int))=Om l m:=by
   unfold Om;rcases gG (aj m (dE l 0) (dS l 0)) with ⟨h,e⟩|⟨h,e⟩|⟨h,e⟩<;>rw [e]<;>simp [b]<;>grind
  have t:cw l (dN m k)=if ((aj m (dE l 0) (dS l 0)).num.sign==k)=true then [fullSp] else []:=by
   unfold cw;rw [if_pos ((nR m l k).2 b),CR hk,CW];by_cases g:0<(if k=1 then aj m (dE l 0) (dS l 0) else -aj m (dE l 0) (dS l 0))
   ·rw [if_pos g,if_pos (decide_eq_true g)]
   ·rw [if_neg g,if_neg (by rw [decide_eq_false g];exact Bool.false_ne_true)]
  refine ⟨_,rfl,fun h V7 l7=>hZ.mono ?_,fun h a0 a1=>⟨_,_,_,by rw [s],?_⟩⟩
  ·rintro r V8 l8 O;have KK:=O;obtain ⟨_,_,_,_,_,_,_,_,_,_,_,_,_,_,rfl,-⟩:=O;refine ⟨_,_,_,_,_,_,_,_,_,_,_,_,_,_,_,_,rfl,fun V9 l9 P a=>⟨_,_,_,by rw [s],?_⟩⟩;rw [t,if_pos h];exact Lst.nM (V:=V9) a (row_one rfl (KK.le l9))
  ·rw [t,if_neg (by rw [h];exact Bool.false_ne_true)];exact Lst.nil
 have Q:bN m l≠0:=fun h=>b (by rw [fr,h];grind);have R:=q1 b;have C:=R;obtain ⟨_,_,_,_,_,_,_,_,_,_,_,_,rfl,-⟩:=R;have s:Om l m=false:=by unfold Om;rw [decide_eq_false fun h=>b h.1]
 refine ⟨_,_,_,_,_,_,_,_,_,_,_,_,_,_,_,rfl,fun h=>by simp [b] at h,fun _ a2 j=>(FM (RLv.le d (f.trans j)) (C.le j) nz (sl.up (K:=30000) (by omega)) (s1.mono (by omega)) (s2.mono (by omega)) (by omega)).mono ?_⟩;rintro r D E gt;have o:RQ D r (kc l m):=gt;rw [vg nz b] at o;clear gt;have F:=o;obtain ⟨_,_,_,_,_,_,rfl⟩:=o.shape;have st:Sz 70000 (bY m l):=(mR sl sm).mono (by omega);have Ch:=f.trans (j.trans E);refine ⟨_,_,_,_,_,_,_,rfl,fun a3 G=>(gJ 1 (by omega) (by omega)).mono ?_⟩;rintro r a4 c_ S;have H:=S;obtain ⟨_,_,_,_,_,_,rfl⟩:=S.shape;have I:=G.trans c_;refine ⟨_,_,_,_,_,_,_,rfl,fun a5 x=>(cK (F.le (I.trans x)) (H.le x) st gH (by omega)).mono ?_⟩;rintro r ll T gs;have J:=gs;obtain ⟨_,_,_,_,_,_,rfl⟩:=gs.shape;have U:=Ch.trans (I.trans (x.trans T));have ss:Sz 80000 (bY m l+((1:Int):Rat)):=(st.add gH).mono (by omega);refine ⟨_,_,_,_,_,_,_,rfl,fun ny y=>(T2 (RLv.le d (U.trans y)) (J.le y) nz (sl.up (K:=80000) (by omega)) ss (by omega)).mono ?_⟩;rintro r oD W X;have X1:=X;obtain ⟨_,_,_,_,_,_,_,_,_,_,_,_,rfl,-⟩:=X;have Y:=U.trans (y.trans W);have sx:=EC (sl.up (K:=80000) (by omega)) ss;have sy:=ED (sl.up (K:=80000) (by omega)) ss;refine ⟨_,_,_,_,_,_,_,_,_,_,_,_,_,_,rfl,fun rZ z=>(Et (k:=10000000) (RLv.le i (Y.trans z)) (X1.le z) (sm.up (by omega)) (sx.mono (by omega)) (sy.mono (by omega)) (by omega)).mono ?_⟩;rintro r Bk Z rfl;have YY:=Y.trans (z.trans Z)
 have ev:aj m (dE l (bY m l+((1:Int):Rat))) (dS l (bY m l+((1:Int):Rat)))=bN m l:=by
  rw [qW];have hi:=Rat.mul_inv_cancel _ Q;unfold bY;have e1:((1:Int):Rat)=1:=rfl;rw [e1];grind
 rw [ev];have Md:=I.trans (x.trans (T.trans (y.trans (W.trans (z.trans Z)))))
 have t:cw l (dN m k)=if ((bN m l).num.sign==k)=true then [⟨bY m l,0,false,true⟩] else [⟨0,bY m l,true,false⟩]:=by
  unfold cw;rw [if_neg (fun h=>b ((nR m l k).1 h)),CR hk,CV,JO k Q];by_cases g:0<(if k=1 then bN m l else -bN m l)
  ·rw [if_pos g,if_pos (decide_eq_true g)]
  ·rw [if_neg g,if_neg (by rw [decide_eq_false g];exact Bool.false_ne_true)]
 refine ⟨_,rfl,fun h r_ gC P a=>⟨_,_,_,by rw [s],?_⟩,fun h wI kq P a=>⟨_,_,_,by rw [s],?_⟩⟩
 ·rw [t,if_pos h];exact Lst.nM (V:=r_) a (row_one rfl ⟨_,_,_,_,_,_,_,_,_,_,_,_,_,_,rfl,F.le (Md.trans gC),Ra _⟩)
 ·rw [t,if_neg (by rw [h];exact Bool.false_ne_true)];exact Lst.nM (V:=wI) a (row_one rfl ⟨_,_,_,_,_,_,_,_,_,_,_,_,_,_,rfl,Ra _,F.le (Md.trans kq)⟩)
def WV (v:Value):Prop:=∃(x1 x2:Int)(p:OA)(y1 y2:Int)(q:OA)(z1 z2:Int)(r:OA)(u1 u2:Int)(t:OA)(w1 w2:Int)(o:OA)(a b:Bool),
 v=.agg #[.int .i64 x1,.int .i64 x2,.pointer p,.int .i64 y1,.int .i64 y2,.pointer q,.int .i64 z1,.int .i64 z2,.pointer r,.int .i64 u1,.int .i64 u2,.pointer t,.int .i64 w1,.int .i64 w2,.pointer o,.bool a,.bool b]
theorem Al {V:View}{bk:Nat}{xs:List Value}{ty:TypeId}{m:Nat×Nat}{s:Sp}(hb:V.aS bk (.cells xs.toArray ty m))(h:lf V (.agg xs.toArray) s):DC V (some ⟨bk,0,none⟩) 1 [s]:=
 mK (Lst.nM hb (row_one (by obtain ⟨_,_,_,_,_,_,_,_,_,_,_,_,_,_,e,-⟩:=pC h;rw [e];rfl) h))
theorem NM {m l:L3}{t:Sp}{k:Nat}(h:t.sz k):(GX m t l).sz k:=by
 unfold GX;split
 ·exact h
 ·exact Sp.NH h
theorem c_Fr_Overlap {V:View}{v w:Value}{L:L3}{s:Sp}{M:L3}{t:Sp}(h:LH V v L s)(h':LH V w M t){k:Nat}(sl:jL k L)(ss:s.sz k)(sm:jL k M)(st:t.sz k)(hk:20*k+20<274877906944) :
  Acts prog 121 #[v,w] V fun r V'=>∃u,r=.tuple #[u,.bool (ovB L s M t)]/\WV u/\(ovB L s M t=true->LH V' u L (s.meet (GX M t L))):=by
 have c:=h';obtain ⟨_,_,_,_,_,_,_,_,_,_,_,_,_,_,_,rfl,f,m⟩:=h;obtain ⟨_,_,_,_,_,_,_,_,_,_,_,_,_,_,_,rfl,-,-⟩:=h';refine pT _ _ _ _ _ _ _ _ _ _ _ _ _ _ _ _ _ _ _ _ _ _ _ _ _ _ _ _ _ _ _ _ _ _ V _ fun o b=>(Gf (c.le b) (f.le b) sm st sl (by omega)).mono ?_;rintro r V2 i ⟨u,rfl,⟨_,_,_,_,_,_,_,_,rfl⟩,g⟩;unfold ovB;refine ⟨_,_,_,_,_,_,_,_,_,rfl,fun a p q=>?_,fun a x d=>?_⟩
 ·rw [Bool.not_eq_true'] at a;rw [a];exact ⟨_,rfl,⟨_,_,_,_,_,_,_,_,_,_,_,_,_,_,_,_,_,rfl⟩,(fun h=>nomatch h)⟩
 ·rw [Bool.not_eq_false'] at a;rw [a];refine (qi (m.le (b.trans (i.trans d))) ((g a).le d) ss (NM st) (by omega)).mono ?_;rintro r y n ⟨u,rfl,j⟩;have e:=j;obtain ⟨_,_,_,_,_,_,rfl,-,-⟩:=j;refine ⟨_,_,_,_,_,_,_,_,_,rfl,fun he z A=>?_,fun he B l=>?_⟩
  ·have he:(s.meet (GX M t L)).emp=true:=by simpa using he
   rw [he];exact ⟨_,rfl,⟨_,_,_,_,_,_,_,_,_,_,_,_,_,_,_,_,_,rfl⟩,(fun h=>nomatch h)⟩
  ·have he:(s.meet (GX M t L)).emp=false:=by simpa using he
   rw [he];exact ⟨_,rfl,⟨_,_,_,_,_,_,_,_,_,_,_,_,_,_,_,_,_,rfl⟩,fun _=>⟨_,_,_,_,_,_,_,_,_,_,_,_,_,_,_,rfl,f.le (b.trans (i.trans (d.trans (n.trans l)))),e.le l⟩⟩
def F8 (V:View)(v:Value)(x:L3×Sp):Prop:=RF V v x.1 x.2
theorem F8.le {V V':View}{v:Value}{x:L3×Sp}(h:F8 V v x)(l:V.Le V'):F8 V' v x:=RF.le h l
theorem tu {l m:L3}(h:Om l m=true)(k:Int):cw l (dN m k)=[]:=by
 have h:aV l m=0/\aj m (dE l 0) (dS l 0)=0:=of_decide_eq_true h;unfold cw;rw [if_pos ((nR m l k).2 h.1),CW,h.2];split<;>rw [if_neg (by grind)]
theorem Fq {l m:L3}(bl:Bd l)(bm:Bd m)(k:Int):∀s∈cw l (dN m k),s.sz 100000:=by
 have b:Bd (dN m k):=by unfold dN;split;exact bm;exact bm.rev
 have st:Sz 100000 (bY (dN m k) l):=(mR bl.szl b.szl).mono (by omega);have z:=EE 100000 (by omega);intro s a;unfold cw at a;split at a
 ·split at a
  ·rw [List.mem_singleton.1 a];exact ⟨z,z⟩
  ·cases a
 ·split at a
  ·rw [List.mem_singleton.1 a];exact ⟨st,z⟩
  ·rw [List.mem_singleton.1 a];exact ⟨z,st⟩
theorem m_ {s:Sp}(hs:s.can)(l m:L3):(bX 2 [s] (cw l m)).length<=1:=by
 rcases mI l m with h|⟨u,h,hu⟩
 ·rw [h,dI];exact Nat.zero_le _
 ·rw [h,jV hs hu];split
  ·exact Nat.zero_le _
  ·exact Nat.le_refl _
theorem Iv (l m:L3):(cw l m).length<=1:=by
 rcases mI l m with h|⟨u,h,hu⟩<;>rw [h]
 ·exact Nat.zero_le _
 ·exact Nat.le_refl _
theorem FB {V:View}{p:OA}{n:Nat}{al:List Sp}(h:Lst 8 lf V p n al){i:Nat}(hi:i<al.length) :
  p.isSome=true/\∃(b:Bool)(p1:OA)(n1 c1:Nat)(p2:OA)(n2 c2:Nat)(d:Bool)(p3:OA)(n3 c3:Nat)(p4:OA)(n4 c4:Nat)(a:Addr),addrAdd p (i*8)=some a/\V.at (a.add 0) (.bool b)/\V.at (a.add 1) (.slice p1 n1 c1)/\V.at (a.add 2) (.slice p2 n2 c2)/\V.at (a.add 3) (.bool d)/\V.at (a.add 4) (.slice p3 n3 c3)/\V.at (a.add 5) (.slice p4 n4 c4)/\V.at (a.add 6) (.bool al[i].a)/\V.at (a.add 7) (.bool al[i].b) /\
   lf V (.agg #[.bool b,.slice p1 n1 c1,.slice p2 n2 c2,.bool d,.slice p3 n3 c3,.slice p4 n4 c4,.bool al[i].a,.bool al[i].b]) al[i]:=by
 obtain ⟨j,f,xs,k,g,c⟩:=h.at_ i hi;have e:=g;obtain ⟨_,_,_,_,_,_,_,_,_,_,_,_,_,_,ex,-,-⟩:=g;have ex:=congrArg Array.toList (Value.agg.inj ex);dsimp only at ex;subst ex;refine ⟨?_,_,_,_,_,_,_,_,_,_,_,_,_,_,_,j,f,c 0 _ rfl,c 1 _ rfl,c 2 _ rfl,c 3 _ rfl,c 4 _ rfl,c 5 _ rfl,c 6 _ rfl,c 7 _ rfl,e⟩
 cases p with
 | none=>cases f
 | some a=>rfl
theorem Mi {b1:Bool}{p1:OA}{n1 c1:Nat}{b2:Bool}{p2:OA}{n2 c2:Nat}{b3:Bool}{p3:OA}{n3 c3:Nat}{b:Bool}{q1:OA}{m1 e1:Nat}{q2:OA}{m2 e2:Nat}{d:Bool}{q3:OA}{m3 e3:Nat}{q4:OA}{m4 e4:Nat}{x y:Bool} :
  ∀v∈([.bool b1,.slice p1 n1 c1,.bool b2,.slice p2 n2 c2,.bool b3,.slice p3 n3 c3,.bool b,.slice q1 m1 e1,.slice q2 m2 e2,.bool d,.slice q3 m3 e3,.slice q4 m4 e4,.bool x,.bool y]:List Value),v.oneCell'=true:=by
 intro v a;simp only [List.mem_cons,List.not_mem_nil,or_false] at a;rcases a with rfl|rfl|rfl|rfl|rfl|rfl|rfl|rfl|rfl|rfl|rfl|rfl|rfl|rfl<;>rfl
def vD (l:L3)(s:Sp)(m:L3):List (L3×Sp):=(bX 2 [s] (cw l m)).map fun u=>(l,u)
theorem wT {V:View}{v w:Value}{l m:L3}{s:Sp}(hf:RF V v l s)(hm:RLv V w m)(nz:Nz l)(bl:Bd l)(bm:Bd m)(hs:s.can)(ss:s.sz 1000000) :
  Acts prog 77 #[v,w] V fun r V'=>∃p1 n1 c1 p2 n2 c2,r=.tuple #[.slice p1 n1 c1,.slice p2 n2 c2]/\Lst 14 F8 V' p1 n1 (vD l s m)/\Lst 14 F8 V' p2 n2 (vD l s (revL m)):=by
 have q:=hm;obtain ⟨_,_,_,_,_,_,_,_,_,_,_,_,_,_,_,_,_,_,_,_,_,_,_,_,_,_,rfl,F,hS⟩:=hf;obtain ⟨_,_,_,_,_,_,_,_,_,_,_,_,rfl⟩:=rlv_shape hm;have s1:dN m 1=m:=rfl;have s2:dN m (-1)=revL m:=rfl;have G:=Fq bl bm;have f:=fun k=>m_ hs l (dN m k);have PU:=fun k=>Iv l (dN m k);refine wh _ _ _ _ _ _ _ _ _ _ _ _ _ _ _ _ _ _ _ _ _ _ _ _ _ _ _ _ _ _ _ _ _ _ _ _ _ _ _ _ V _ ⟨fun _=>⟨by decide,fun V1 K=>(oK (l:=l) (.inl rfl) (RL.le F K) (RLv.le q K) nz bl bm).mono ?_⟩,fun h=>by cases h⟩;rintro r V2 l2 ⟨q1,n1,c1,rfl,hH⟩;have t:=K.trans l2;refine ⟨_,_,_,_,rfl,fun i V3 l3=>⟨_,_,_,_,_,_,rfl,?_,?_⟩,fun i V4 H Oe L=>(gU (op:=2) (la':=[s]) (lb':=cw l (dN m 1)) (Al L (hS.le (t.trans H))) (mK (hH.le H fun _ _ g=>lf.le g H)) (by have:=PU 1;rw [List.length_singleton];omega) (k:=1000000) (fun z c=>List.mem_singleton.1 c▸ss) (fun z c=>⟨(G 1 z c).1.mono (by omega),(G 1 z c).2.mono (by omega)⟩) (by omega)).mono ?_⟩
 ·unfold vD;rw [←s1,tu i,dI];exact Lst.nil
 ·unfold vD;rw [←s2,tu i,dI];exact Lst.nil
 rintro r V5 l5 ⟨p4,n4,c4,rfl,I⟩;have M:=t.trans (H.trans l5);have I:=I.Q9;have la:=f 1;have Wb:=I.len;generalize hA:bX 2 [s] (cw l (dN m 1))=A at *;refine ⟨_,_,_,rfl,fun _=>⟨fun z V'=>∃j:Nat,z.1=(j:Int)/\j<=A.length/\z.2.2.2.1=0/\z.2.2.2.2.1=0/\z.2.2.2.2.2.2=[]/\GR 14 F8 V' z.2.1 z.2.2.1 z.2.2.2.2.2.1 ((A.take j).map fun u=>(l,u)),fun z=>A.length-z.1.toNat,⟨(0,0,0,0,0,[],[]),by and_intros<;>rfl,0,rfl,Nat.zero_le _,rfl,rfl,rfl,GR.nil⟩,?_⟩⟩;rintro ⟨zi,x1,x2,x3,x4,xs,ys⟩ V6 N ⟨j,x,O,e3,e4,e5,n⟩;dsimp only at x e3 e4 e5 n ⊢;subst x e3 e4 e5;have y:=M.trans N;refine ⟨by trivial,fun b=>?_,fun b=>⟨fun _=>⟨by decide,fun V7 P=>(oK (l:=l) (.inr rfl) (RL.le F (y.trans P)) (RLv.le q (y.trans P)) nz bl bm).mono ?_⟩,fun h=>by cases h⟩⟩
 ·have b:(j:Int)<n4:=of_decide_eq_true b;have o:j<A.length:=by omega
  have wr:i64.wrap ((j:Int)+1)=((j+1:Nat):Int):=by rw [i64w (by omega)];rfl
  rw [wr,Int.toNat_natCast];obtain ⟨is,_,_,_,_,_,_,_,_,_,_,_,_,_,_,Q,R,S,T,U,W,X,Y,Z,b7,gs⟩:=FB (I.le N fun _ _ g=>lf.le g N) o;have et:A.take (j+1)=A.take j++[A[j]]:=(List.take_append_getElem o).symm;have lx:=n.len;rw [List.length_map,List.length_take] at lx;generalize A[j]=u at *;refine ⟨is,⟨by omega,by omega⟩,_,_,_,_,_,_,_,_,_,_,_,_,_,_,_,_,Q,R,S,T,U,W,X,Y,Z,b7,by decide,by omega,n.le,n.cap,rfl,Mi,fun sp c' k1 k2=>⟨by decide,(((j+1:Nat):Int),x1+1,c',0,0,_,[]),by dsimp only;omega,by and_intros<;>rfl,j+1,rfl,o,rfl,rfl,rfl,?_⟩⟩;rw [et,List.map_append];exact n.snoc (a:=(l,u)) rfl ⟨_,_,_,_,_,_,_,_,_,_,_,_,_,_,_,_,_,_,_,_,_,_,_,_,_,_,rfl,RL.le F y,gs⟩ (by decide) k1 k2
 have b:¬(j:Int)<n4:=of_decide_eq_false b;obtain rfl:j=A.length:=by omega
 rw [List.take_length] at n;rintro r V8 l8 ⟨q2,n2,c2,rfl,a1⟩;have Wo:=P.trans l8;refine ⟨_,_,_,_,rfl,fun i V9 l9=>⟨_,_,_,_,_,_,rfl,?_,?_⟩,fun i a5 d OD SE=>(gU (op:=2) (la':=[s]) (lb':=cw l (dN m (-1))) (Al SE (hS.le (y.trans (Wo.trans d)))) (mK (a1.le d fun _ _ g=>lf.le g d)) (by have:=PU (-1);rw [List.length_singleton];omega) (k:=1000000) (fun z c=>List.mem_singleton.1 c▸ss) (fun z c=>⟨(G (-1) z c).1.mono (by omega),(G (-1) z c).2.mono (by omega)⟩) (by omega)).mono ?_⟩
 ·unfold vD;rw [←s1,tu i,dI];exact Lst.nil
 ·unfold vD;rw [←s2,tu i,dI];exact Lst.nil
 rintro r a6 a2 ⟨a7,C,a8,rfl,J⟩;have J:=J.Q9;have lb:=f (-1);have YC:=J.len;generalize hB:bX 2 [s] (cw l (dN m (-1)))=B at *;have PQ:=Wo.trans (d.trans a2);refine ⟨_,_,_,rfl,fun _=>⟨fun z V'=>∃j:Nat,z.1=(j:Int)/\j<=B.length/\GR 14 F8 V' z.2.1 z.2.2.1 z.2.2.2.2.2.1 (A.map fun u=>(l,u))/\GR 14 F8 V' z.2.2.2.1 z.2.2.2.2.1 z.2.2.2.2.2.2 ((B.take j).map fun u=>(l,u)),fun z=>B.length-z.1.toNat,⟨(0,x1,x2,0,0,xs,[]),by and_intros<;>rfl,0,rfl,Nat.zero_le _,n.mono fun _ _ g=>F8.le g PQ,GR.nil⟩,?_⟩⟩;rintro ⟨zi,y1,y2,y3,y4,us,ws⟩ a9 p ⟨j,x,O,D,e⟩;dsimp only at x D e ⊢;subst x;have Ch:=y.trans (PQ.trans p);refine ⟨by trivial,fun b=>?_,fun b=>⟨(fun h=>by cases h),fun _=>⟨by decide,by decide,fun b8 E b9 c0 a3 a4=>?_⟩⟩⟩
 ·have b:(j:Int)<C:=of_decide_eq_true b;have o:j<B.length:=by omega
  have wr:i64.wrap ((j:Int)+1)=((j+1:Nat):Int):=by rw [i64w (by omega)];rfl
  rw [wr,Int.toNat_natCast];obtain ⟨is,_,_,_,_,_,_,_,_,_,_,_,_,_,_,Q,R,S,T,U,W,X,Y,Z,b7,gs⟩:=FB (J.le p fun _ _ g=>lf.le g p) o;have et:B.take (j+1)=B.take j++[B[j]]:=(List.take_append_getElem o).symm;have lx:=e.len;rw [List.length_map,List.length_take] at lx;generalize B[j]=u at *;refine ⟨is,⟨by omega,by omega⟩,_,_,_,_,_,_,_,_,_,_,_,_,_,_,_,_,Q,R,S,T,U,W,X,Y,Z,b7,by decide,by omega,e.le,e.cap,rfl,Mi,fun sp c' k1 k2=>⟨by decide,(((j+1:Nat):Int),y1,y2,y3+1,c',us,_),by dsimp only;omega,by and_intros<;>rfl,j+1,rfl,o,D,?_⟩⟩;rw [et,List.map_append];exact e.snoc (a:=(l,u)) rfl ⟨_,_,_,_,_,_,_,_,_,_,_,_,_,_,_,_,_,_,_,_,_,_,_,_,_,_,rfl,RL.le F Ch,gs⟩ (by decide) k1 k2
 ·have b:¬(j:Int)<C:=of_decide_eq_false b;obtain rfl:j=B.length:=by omega
  rw [List.take_length] at e;have e1:=D.len;have e2:=e.len;have f1:=D.le;have f2:=e.le;have g1:vD l s m=A.map fun u=>(l,u):=by unfold vD;rw [←hA];rfl
  have g2:vD l s (revL m)=B.map fun u=>(l,u):=by unfold vD;rw [←hB];rfl
  rw [g1,g2];subst e1 e2;exact ⟨_,_,_,_,_,_,rfl,Lst.of_mrow a3 (D.row.le fun _ _ g=>F8.le g E) (by decide) f1,Lst.of_mrow a4 (e.row.le fun _ _ g=>F8.le g E) (by decide) f2⟩
theorem Fv (x:L3):∀(O:List L3)(j:Nat),j<=O.length->(∀(i':Nat)(h:i'<O.length),i'<j->Sec.ang (Sec.dirL O[i']) (Sec.dirL x)<0)->(∀h:j<O.length,¬Sec.ang (Sec.dirL O[j]) (Sec.dirL x)<0) ->
  insD x O=if ∃h:j<O.length,O[j]=x then O else O.take j++x::O.drop j
 | [],j,hj,_,_=>by
  rw [if_neg (fun ⟨h,_⟩=>absurd h (Nat.not_lt_zero _))];simp [insD]
 | u::r,0,_,_,hge=>by
  have h0:¬Sec.ang (Sec.dirL u) (Sec.dirL x)<0:=hge (Nat.zero_lt_succ _);unfold insD;rw [if_neg h0];by_cases e:u=x
  ·rw [if_pos e,if_pos ⟨Nat.zero_lt_succ _,e⟩]
  ·rw [if_neg e,if_neg (fun ⟨_,h⟩=>e h)];rfl
 | u::r,j+1,hj,hlt,hge=>by
  have h0:Sec.ang (Sec.dirL u) (Sec.dirL x)<0:=hlt 0 (Nat.zero_lt_succ _) (Nat.zero_lt_succ _);unfold insD;rw [if_pos h0,Fv x r j (by simpa using hj) (fun i' h a=>hlt (i'+1) (by simpa using h) (by omega)) (fun h=>hge (by simpa using h))];by_cases c:∃h:j<r.length,r[j]=x
  ·obtain ⟨h,e⟩:=c;rw [if_pos ⟨h,e⟩,if_pos ⟨by simpa using h,e⟩]
  ·rw [if_neg c,if_neg (fun ⟨h,e⟩=>c ⟨by simpa using h,e⟩)];rfl
theorem c_ref08_Canon {V:View}{p:OA}{n c:Nat}{ls:List L3}(h:Lst 6 RLv V p n ls)(hb:∀l∈ls,Bd l)(hk:∀l∈ls,okL l=true)(hl:ls.length<=1000) :
  Acts prog 43 #[.slice p n c] V fun r V'=>∃q m e,r=.tuple #[.slice q m e,.bool (decide (ls=[]\/refC ls ls []≠[]))]/\Lst 6 RLv V' q m (refC ls ls []):=by
 obtain rfl:=h.len
 refine wm p _ c V _ ⟨fun z V'=>∃(i:Nat)(O:List L3),z.2.2.2=(i:Int)/\i<=ls.length/\O.length<=i/\(∀q∈O,q∈ls)/\refC ls ls []=refC ls (ls.drop i) O/\GR 6 RLv V' z.1 z.2.1 z.2.2.1 O,fun z=>ls.length-z.2.2.2.toNat,
  ⟨(0,0,[],0),by and_intros<;>rfl,0,[],rfl,Nat.zero_le _,Nat.zero_le _,(fun q I=>by cases I),by rw [List.drop_zero],GR.nil⟩,?_⟩
 rintro ⟨B,P,us,z4⟩ V1 Q ⟨i,O,e4,a8,a9,R,t,H⟩;dsimp only at e4 H;subst e4;have S:=H.len;have C:=H.le;have X:=H.cap;have D:=H.row;refine ⟨rfl,fun d=>?_,fun d=>?_⟩;rotate_left
 ·have d:¬(i:Int)<ls.length:=of_decide_eq_false d;obtain rfl:i=ls.length:=by omega
  rw [List.drop_length] at t;have t:refC ls ls []=O:=t;rw [t];subst S;refine ⟨fun E ll Y bk hb=>?_,fun E ll Y bk hb=>?_⟩
  ·have E:((ls.length:Nat):Int)=0:=by simpa using E
   refine ⟨_,_,P,?_,Lst.of_mrow hb (D.le fun _ _ g=>RLv.le g Y) (by decide) C⟩;rw [decide_eq_true (.inl (List.length_eq_zero_iff.1 (by omega)))]
  ·have E:¬((ls.length:Nat):Int)=0:=by simpa using E
   refine ⟨_,_,P,?_,Lst.of_mrow hb (D.le fun _ _ g=>RLv.le g Y) (by decide) C⟩;congr 5;refine decide_eq_decide.2 ⟨fun h=>.inr fun e=>by rw [e] at h;simp at h,fun h=>?_⟩;rcases h with h|h
   ·rw [h] at E;exact absurd rfl E
   ·have:=List.length_pos_iff.2 h;omega
 have d:(i:Int)<ls.length:=of_decide_eq_true d;have y:i<ls.length:=by omega
 have w:i64.wrap ((i:Int)+1)=((i+1:Nat):Int):=by rw [i64w (by omega)];rfl
 dsimp only;rw [Int.toNat_natCast,w];obtain ⟨ad,ha,xs,-,hf,k⟩:=(h.le Q fun _ _ g=>RLv.le g Q).at_ i y;have Z:=hf;obtain ⟨eb,ep,en,ec,fb,fp,fn,fe,gb,gp,gn,gc,ex⟩:=rlv_shape hf;have ex:=congrArg Array.toList (Value.agg.inj ex);dsimp only at ex;subst ex;have ed:ls.drop i=ls[i]::ls.drop (i+1):=List.drop_eq_getElem_cons y;have XT:refC ls (ls[i]::ls.drop (i+1)) O=refC ls (ls.drop (i+1)) (if (edgeG ls[i] ls fullSp).isSome=true then insD ls[i] O else O):=rfl;rw [ed,XT] at t;have F:Bd ls[i]:=hb _ (List.getElem_mem y);have a0:ls[i]∈ls:=List.getElem_mem y;have O6:∀q∈O,Bd q:=fun q I=>hb q (R q I);clear H;refine ⟨bF ha,⟨by omega,by omega⟩,eb,ep,en,ec,fb,fp,fn,fe,gb,gp,gn,gc,ad,ha,k 0 _ rfl,k 1 _ rfl,k 2 _ rfl,k 3 _ rfl,k 4 _ rfl,k 5 _ rfl,fun V2 T=>(zQ (h.le (Q.trans T) fun _ _ g=>RLv.le g (Q.trans T)) hb hk hl y).mono ?_⟩;generalize ls[i]=x at *;rintro r V3 l3 ⟨u,s,rfl,gs,-,-⟩;obtain ⟨_,_,_,_,_,_,_,_,_,_,_,_,_,_,rfl⟩:=CQ gs;refine ⟨_,_,_,_,_,_,_,_,_,_,_,_,_,_,_,_,_,rfl,fun o=>?_,fun o=>?_⟩
 ·rw [Bool.not_eq_true'] at o;rw [o,if_neg (by decide)] at t;exact ⟨(B,P,us,((i+1:Nat):Int)),by dsimp only;omega,by and_intros<;>rfl,i+1,O,rfl,y,by omega,R,t,S,C,X,D.le fun _ _ g=>RLv.le g (T.trans l3)⟩
 rw [Bool.not_eq_false'] at o;rw [o,if_pos rfl] at t;have G:RLv V1 _ x:=Z;refine ⟨fun z _=>∃j:Nat,z=(j:Int)/\j<=O.length/\∀(A:Nat)(h:A<O.length),A<j->Sec.ang (Sec.dirL O[A]) (Sec.dirL x)<0,fun z=>O.length-z.toNat,⟨0,by and_intros<;>rfl,0,rfl,Nat.zero_le _,fun A _ h=>absurd h (Nat.not_lt_zero A)⟩,?_⟩;rintro z V4 l4 ⟨j,rfl,a1,jl⟩;have wj:i64.wrap ((j:Int)+1)=((j+1:Nat):Int):=by rw [i64w (by omega)];rfl
 rw [Int.toNat_natCast,wj];have c_:=T.trans (l3.trans l4);have sx:=F.szl;have dx:=mi F;refine ⟨rfl,fun z _=>z=true↔∃h:j<O.length,Sec.ang (Sec.dirL O[j]) (Sec.dirL x)<0,⟨fun d=>?_,fun d=>⟨false,by and_intros<;>rfl,?_⟩⟩,?_⟩
 ·have d:(j:Int)<(B:Int):=of_decide_eq_true d;have v:j<O.length:=by omega
  have K:=O6 _ (List.getElem_mem v);have sj:=K.szl;have dj:=mi K;obtain ⟨b1,p1,n1,c1,b2,p2,n2,c2,b3,p3,n3,c3,eN,Ih,hr⟩:=JI D v;refine ⟨⟨by omega,by omega⟩,C,b1,p1,n1,c1,b2,p2,n2,c2,b3,p3,n3,c3,⟨eN,Ih⟩,fun V5 l5=>(dH (hr.le (c_.trans l5)) sj.1 sj.2.1 sj.2.2 (by omega)).mono ?_⟩;rintro r V6 l6 gd;have X2:=gd;obtain ⟨_,_,_,_,_,_,_,_,_,_,_,_,rfl,-⟩:=gd;refine ⟨_,_,_,_,_,_,_,_,_,_,_,_,_,_,rfl,fun V7 U=>(dH (RL.le G (c_.trans (l5.trans (l6.trans U)))) sx.1 sx.2.1 sx.2.2 (by omega)).mono ?_⟩;rintro r V8 W ge;have X4:=ge;obtain ⟨_,_,_,_,_,_,_,_,_,_,_,_,rfl,-⟩:=ge;refine ⟨_,_,_,_,_,_,_,_,_,_,_,_,_,_,rfl,fun V9 l9=>(wO (a:=Sec.dirL O[j]) (b:=Sec.dirL x) (X2.le (U.trans (W.trans l9))) (X4.le l9) dj.1 dj.2 dx.1 dx.2 (by omega)).mono ?_⟩;rintro r a2 L rfl;exact ⟨_,rfl,decide (Sec.ang (Sec.dirL O[j]) (Sec.dirL x)<0),by and_intros<;>rfl,by dsimp only;rw [decide_eq_true_eq];exact ⟨fun h=>⟨v,h⟩,fun ⟨_,h⟩=>h⟩⟩
 ·have d:¬(j:Int)<(B:Int):=of_decide_eq_false d;exact ⟨(fun h=>nomatch h),fun ⟨h,_⟩=>absurd h (by omega)⟩
 rintro z V7 U PA;refine ⟨rfl,fun o=>?_,fun o=>?_⟩
 ·obtain ⟨v,a3⟩:=PA.1 o;refine ⟨((j+1:Nat):Int),by dsimp only;omega,by and_intros<;>rfl,j+1,rfl,v,fun A h b0=>?_⟩;by_cases e:A=j
  ·subst e;exact a3
  ·exact jl A h (by omega)
 have a4:∀h:j<O.length,¬Sec.ang (Sec.dirL O[j]) (Sec.dirL x)<0:=fun h h'=>by
  have:=PA.2 ⟨h,h'⟩;rw [o] at this;cases this
 have f:=Fv x O j a1 jl a4;have Pf:∀q∈insD x O,q∈ls:=fun q I=>(insD_mem.1 I).elim (fun e=>e▸a0) (R q);have cM:=c_.trans U;refine ⟨fun z _=>z=true↔∃h:j<O.length,O[j]=x,⟨fun d=>?_,fun d=>⟨false,by and_intros<;>rfl,?_⟩⟩,?_⟩
 ·have d:(j:Int)<(B:Int):=of_decide_eq_true d;have v:j<O.length:=by omega
  obtain ⟨b1,p1,n1,c1,b2,p2,n2,c2,b3,p3,n3,c3,eN,Ih,hr⟩:=JI D v;refine ⟨⟨by omega,by omega⟩,C,b1,p1,n1,c1,b2,p2,n2,c2,b3,p3,n3,c3,⟨eN,Ih⟩,fun V8 W=>(gK (hr.le (cM.trans W)) (RL.le G (cM.trans W)) (O6 _ (List.getElem_mem v)).szl F.szl (by omega)).mono ?_⟩;rintro r V9 l9 rfl;exact ⟨_,rfl,(BJ O[j] x==(0:Int)),by and_intros<;>rfl,by dsimp only;rw [jS,decide_eq_true_eq];exact ⟨fun h=>⟨v,h⟩,fun ⟨_,h⟩=>h⟩⟩
 ·have d:¬(j:Int)<(B:Int):=of_decide_eq_false d;exact ⟨(fun h=>nomatch h),fun ⟨h,_⟩=>absurd h (by omega)⟩
 rintro z a2 L IC;have GM:=cM.trans L;refine ⟨rfl,fun o=>?_,fun o a5 M bk hb J=>?_⟩
 ·have hex:=IC.1 o;rw [if_pos hex] at f;rw [f] at t;exact ⟨(B,P,us,((i+1:Nat):Int)),by dsimp only;omega,by and_intros<;>rfl,i+1,O,rfl,y,by omega,R,t,S,C,X,D.le fun _ _ g=>RLv.le g GM⟩
 ·have a6:¬∃h:j<O.length,O[j]=x:=fun h=>by have:=IC.2 h;rw [o] at this;cases this
  rw [if_neg a6] at f;obtain ⟨xs,ys,x1,x2,x3,y1,y2,y3,r1,r2,r3,r4,r5⟩:=Fw (V:=a5) (GR.mono ⟨S,C,X,D⟩ fun _ _ g=>RLv.le g (GM.trans M)) (by decide) (fun _ _=>FO) hb (es:=[_,_,_,_,_,_]) rfl (RLv.le G (GM.trans M)) (j:=j) (by omega);refine ⟨⟨by omega,by omega⟩,⟨by omega,by omega⟩,⟨by omega,by omega⟩,xs,x1,x2,by omega,Nat.le_refl _,Nat.le_refl 6,x2,x3,fun b4 J2 sp c' h1 h2=>?_⟩;rw [r1,r2];refine ⟨ys,y1,y2,Nat.le_refl _,y3,by omega,by omega,r3,r4,fun a7 N h3 h4=>⟨(j+(1+(B-j)),N,_,((i+1:Nat):Int)),by dsimp only;omega,by and_intros<;>first|rfl|omega,i+1,insD x O,rfl,y,?_,Pf,t,?_⟩⟩
  ·rw [f,List.length_append,List.length_take,List.length_cons,List.length_drop];omega
  ·show GR 6 RLv _ _ _ _ (insD x O);rw [f];exact r5 a7 N h3 h4
end Go.Proofs.Tryz
namespace Go.Proofs.Tryz
open Go.Eng
set_option maxRecDepth 100000
end Go.Proofs.Tryz
namespace Go.Proofs.Tryz
open Go.Eng Go.Big
def inC (c:List Sd)(p:Rat×Rat):Bool:=c.all fun s=>decide (0<aj s.1 p.1 p.2)
end Go.Proofs.Tryz
namespace Go.Proofs.Tryz
open Go.Eng
set_option maxRecDepth 100000
end Go.Proofs.Tryz
namespace Go.Proofs.Tryz
open Go.Eng Go.Big
theorem row_ones {V:View}{vs:List Value}{ls:List L3}(h:Row 6 RLv V vs ls)(hl:vs.length=ls.length*6):∀v∈vs,v.oneCell'=true:=by
 intro v a;obtain ⟨m,hm,e⟩:=List.mem_iff_getElem.1 a;exact row_one_cell h (by decide) (fun _ _=>FO) (m:=m) (by omega) (by rw [←e];exact List.getElem?_eq_getElem hm)
theorem rowE_app {V:View}{xs ys sp sp':List Value}{ls:List L3}{m:L3}{n:Nat}(hn:n=ls.length)(h:Row 6 RLv V xs ls)(hx:xs.length=n*6)(hy:ys.length=6)(hm:RLv V (.agg ys.toArray) m):Row 6 RLv V ((([]:List Value).take (0*6)++xs++sp).take ((0+n)*6)++ys++sp') (ls++[m]):=by
 subst hn;have e:([]:List Value).take (0*6)++xs++sp=xs++sp:=by simp
 rw [e,Nat.zero_add]
 have a:Row 6 RLv V (xs++sp) ls:=by
  have:=row_append (V:=V) (vs:=[]) (ls:=[]) (sp:=sp) (Row.nil) h (by decide);simpa using this
 exact row_append a (row_one hy hm) (by decide)
def RCe (V:View)(v:Value)(p:List L3×Bool):Prop:=∃q n c,v=.agg #[.slice q n c,.bool p.2]/\Lst 6 RLv V q n p.1/\n<=1000
theorem RCe.le {V V':View}{v:Value}{p:List L3×Bool}(h:RCe V v p)(l:V.Le V'):RCe V' v p:=by
 obtain ⟨q,n,c,rfl,a,b⟩:=h;exact ⟨q,n,c,rfl,a.le l fun _ _ g=>RLv.le g l,b⟩
theorem rce_one {V:View}{xs:List Value}{p:List L3×Bool}(h:RCe V (.agg xs.toArray) p):∀v∈xs,v.oneCell'=true:=by
 obtain ⟨q,n,c,ex,-⟩:=h;have ex:=congrArg Array.toList (Value.agg.inj ex);dsimp only at ex;subst ex;intro v a;simp only [List.mem_cons,List.not_mem_nil,or_false] at a;rcases a with rfl|rfl<;>rfl
theorem insD_len (l:L3):∀o:List L3,(insD l o).length<=o.length+1
 | []=>Nat.le_refl _
 | u::r=>by
  have:=insD_len l r;unfold insD;split
  ·simp only [List.length_cons];omega
  ·split<;>simp only [List.length_cons]<;>omega
theorem refC_len (c:List L3):∀(r o:List L3),(refC c r o).length<=r.length+o.length
 | [],o=>by unfold refC;simp
 | l::r,o=>by
  unfold refC;have h:=refC_len c r (if (edgeG l c fullSp).isSome=true then insD l o else o)
  have a:(if (edgeG l c fullSp).isSome=true then insD l o else o).length<=o.length+1:=by
   split
   ·exact insD_len l o
   ·omega
  rw [List.length_cons];omega
theorem refC_mem (c:List L3):∀(r o:List L3),∀x∈refC c r o,x∈r\/x∈o
 | [],o,x,h=>.inr h
 | l::r,o,x,h=>by
  unfold refC at h;rcases refC_mem c r _ x h with h|h
  ·exact .inl (List.mem_cons_of_mem _ h)
  ·split at h
   ·rcases insD_mem.1 h with rfl|h
    ·exact .inl (List.mem_cons_self ..)
    ·exact .inr h
   ·exact .inr h
theorem cells_len:∀(t:Tr)(ls:List L3),(cellsR t ls).length<=t.size+1
 | .leaf b,ls=>by unfold cellsR;split<;>simp
 | .node l x y,ls=>by
  unfold cellsR;simp only [Tr.size];split
  ·rw [List.length_append];have:=cells_len x (refC ls ls []++[l]);have:=cells_len y (refC ls ls []++[revL l]);omega
  ·simp
theorem row_takeF {α:Type}{sz:Nat}{R:View->Value->α->Prop}{V:View}{vs:List Value}{l:List α}(h:Row sz R V vs l):Row sz R V (vs.take (l.length*sz)) l:=by
 refine ⟨fun i a=>?_⟩;obtain ⟨xs,b,d,e⟩:=h.at_ i a;refine ⟨xs,b,d,fun j x c=>?_⟩;have f:j<sz:=by rw [←b];exact (List.getElem?_eq_some_iff.1 c).1
 have hm:i*sz+sz<=l.length*sz:=by
  have:=Nat.mul_le_mul_right sz (Nat.succ_le_of_lt a);rw [Nat.succ_mul] at this;exact this
 rw [List.getElem?_take,if_pos (by omega)];exact e j x c
theorem gr_take {α:Type}{sz:Nat}{R:View->Value->α->Prop}{V:View}{n c:Nat}{vs:List Value}{l:List α}(h:GR sz R V n c vs l):rowTakeM vs n c sz=vs.take (n*sz)/\(rowTakeM vs n c sz).length=n*sz:=by
 have a:=h.le;have f:=h.cap;have g:n*sz<=c*sz:=Nat.mul_le_mul_right _ a;have b:Nat.ble n c=true:=Nat.ble_eq_true_of_le a;have d:Nat.ble (0+n*sz) vs.length=true:=Nat.ble_eq_true_of_le (by omega)
 have e:rowTakeM vs n c sz=vs.take (n*sz):=by
  unfold rowTakeM rowTake;rw [b,cond_true,d,cond_true,List.drop_zero]
 exact ⟨e,by rw [e,List.length_take];omega⟩
def CellsR (V V':View)(r:Value)(o:List (List L3×Bool)):Prop:=∃(bm:Nat)(vm:List Value)(n c:Nat),(vm≠[]->V'.w.heap[bm]?=some (.cells vm.toArray 45 (0,0)))/\(vm≠[]->V.w.heap.size<=bm)/\r=.slice (mA bm c) n c/\GR 2 RCe (V'.hideG (vm≠[]) bm) n c vm o
theorem CellsR.nil {V V':View}:CellsR V V' (.slice none 0 0) []:=⟨0,[],0,0,fun h=>absurd rfl h,fun h=>absurd rfl h,rfl,GR.nil⟩
theorem c_ref14_Cells:∀(t:Tr) {V:View} {q cp:OA} {cn cc:Nat} {ls:List L3},RW V q t->t.All Okb->Lst 6 RLv V cp cn ls->(∀l∈ls,Bd l)->(∀l∈ls,okL l=true)->ls.length+t.size<=900 ->
  Acts prog 14 #[.pointer q,.slice cp cn cc] V fun r V'=>CellsR V V' r (cellsR t ls):=by
 intro t
 induction t with
 | leaf i=>
  intro V q cp cn cc ls h ha hL hb hk hs;have hc:=refC_len ls ls [];obtain ⟨O,c2,c3,c4,c5,c6,c7,c8,c9,rfl,y⟩:=h;refine vc_ref14_Cells _ cp cn cc V _ fun V1 F=>(c_ref08_Canon (hL.le F fun _ _ g=>RLv.le g F) hb hk (by omega)).mono ?_;rintro r V2 l2 ⟨I,J,K,rfl,L⟩;have e:=F.trans l2;have hn:=L.len;refine ⟨_,_,_,_,rfl,fun G V3 l3=>?_,fun z=>⟨rfl,rfl,true,rdc (e _ _ y) 0 rfl,fun _=>⟨rfl,rfl,i,rdc (e _ _ y) 1 rfl,fun V4 bk a6 hw k=>?_⟩,(fun h=>by cases h)⟩⟩
  ·have G:¬(ls=[]\/refC ls ls []≠[]):=by simpa using G
   unfold cellsR;rw [if_neg G];exact CellsR.nil
  ·have z:ls=[]\/refC ls ls []≠[]:=by
    have:decide (ls=[]\/refC ls ls []≠[])=true:=by rw [Bool.not_eq_eq_eq_not,Bool.not_false] at z;exact z
    exact of_decide_eq_true this
   unfold cellsR;rw [if_pos z];refine ⟨bk,[.slice I J K,.bool i],1,1,fun _=>hw,fun _=>k.elim id False.elim,rfl,rfl,Nat.le_refl _,Nat.le_refl _,row_one rfl ⟨I,J,K,rfl,?_,by simp at hc;omega⟩⟩
   have E:V2.Le (V4.hideG ([.slice I J K,.bool i]≠([]:List Value)) bk):=fun b o h=>by
    obtain ⟨k1,k2⟩:=a6 b o h;exact ⟨fun g=>k1 (g.imp id fun g=>⟨trivial,g.2⟩),k2⟩
   exact L.le E fun _ _ g=>RLv.le g E
 | node ln a b iha ihb=>
  intro V q cp cn cc ls h ha hL hb hk hs;have hc:=refC_len ls ls [];have P:=refC_mem ls ls [];obtain ⟨O,i,b1,I,J,K,b2,p2,n2,c2,b3,p3,n3,c3,pl,pr,rfl,y,hl,hA,hB⟩:=h;obtain ⟨⟨Q,R⟩,a7,a8⟩:=ha;simp only [Tr.size] at hs;refine vc_ref14_Cells _ cp cn cc V _ fun V1 F=>(c_ref08_Canon (hL.le F fun _ _ g=>RLv.le g F) hb hk (by omega)).mono ?_;rintro r V2 l2 ⟨q1,m1,d1,rfl,L⟩;have e:=F.trans l2;have hn:=L.len;have A:=e _ _ y
  have a9:∀j v,([.bool false,.bool i,.bool b1,.slice I J K,.bool b2,.slice p2 n2 c2,.bool b3,.slice p3 n3 c3,.pointer pl,.pointer pr]:List Value)[j]?=some v->V2.at ((⟨O,0,none⟩:Addr).add j) v:=by
   intro j v M;rw [add_zero'];exact blk_at (xs:=[_,_,_,_,_,_,_,_,_,_]) A M
  have c:∀j v,([.bool b1,.slice I J K,.bool b2,.slice p2 n2 c2,.bool b3,.slice p3 n3 c3]:List Value)[j]?=some v->V2.at (((⟨O,0,none⟩:Addr).add 2).add j) v:=by
   intro j v M;rw [addadd];refine a9 (2+j) v ?_;have hj:j<6:=(List.getElem?_eq_some_iff.1 M).1
   match j,hj,M with
   | 0,_,h=>exact h
   | 1,_,h=>exact h
   | 2,_,h=>exact h
   | 3,_,h=>exact h
   | 4,_,h=>exact h
   | 5,_,h=>exact h
  refine ⟨_,_,_,_,rfl,fun G V3 l3=>?_,fun z=>?_⟩
  ·have G:¬(ls=[]\/refC ls ls []≠[]):=by simpa using G
   unfold cellsR;rw [if_neg G];exact CellsR.nil
  have z:ls=[]\/refC ls ls []≠[]:=by
   have:decide (ls=[]\/refC ls ls []≠[])=true:=by rw [Bool.not_eq_eq_eq_not,Bool.not_false] at z;exact z
   exact of_decide_eq_true this
  have eP:cellsR (.node ln a b) ls=cellsR a (refC ls ls []++[ln])++cellsR b (refC ls ls []++[revL ln]):=by
   show (if ls=[]\/refC ls ls []≠[] then _ else _)=_;rw [if_pos z]
  rw [eP];generalize refC ls ls []=S at *;have T:∀l∈S,Bd l:=fun l h=>(P l h).elim (hb l) fun g=>by cases g
  have U:∀l∈S,okL l=true:=fun l h=>(P l h).elim (hk l) fun g=>by cases g
  have bA:∀l∈S++[ln],Bd l:=fun l h=>(List.mem_append.1 h).elim (T l) fun h=>by rw [List.mem_singleton.1 h];exact R
  have kA:∀l∈S++[ln],okL l=true:=fun l h=>(List.mem_append.1 h).elim (U l) fun h=>by rw [List.mem_singleton.1 h];exact Q
  have bB:∀l∈S++[revL ln],Bd l:=fun l h=>(List.mem_append.1 h).elim (T l) fun h=>by rw [List.mem_singleton.1 h];exact R.rev
  have kB:∀l∈S++[revL ln],okL l=true:=fun l h=>(List.mem_append.1 h).elim (U l) fun h=>by rw [List.mem_singleton.1 h];exact ok_rev Q
  have d5:S.length<=ls.length:=by simpa using hc
  have lnS:∀x:L3,(S++[x]).length=(0+S.length)+1:=fun x=>by rw [List.length_append];simp
  subst hn;obtain ⟨xs,x1,x2,x3⟩:=lst_cells L (by decide)
  refine ⟨rfl,rfl,false,rdc A 0 rfl,(fun h=>by cases h),fun _=>⟨rfl,rfl,pl,rdc A 8 rfl,rfl,rfl,_,_,_,_,_,_,_,_,_,_,_,_,(⟨O,0,none⟩:Addr).add 2,rfl,c 0 _ rfl,c 1 _ rfl,c 2 _ rfl,c 3 _ rfl,c 4 _ rfl,c 5 _ rfl,rfl,rfl,pr,rdc A 9 rfl,rfl,rfl,_,_,_,_,_,_,_,_,_,_,_,_,(⟨O,0,none⟩:Addr).add 2,rfl,c 0 _ rfl,c 1 _ rfl,c 2 _ rfl,c 3 _ rfl,c 4 _ rfl,c 5 _ rfl,
   xs,x1,x2,by omega,Nat.le_refl _,by simp,x2,row_ones x3 x2,fun d6 J5 b0 e3 g1 g2=>⟨by omega,g1,by simp;omega,rfl,one6,fun d7 J9 b4 e7 g3 g4 W l5 n b5=>?_⟩⟩⟩
  have X:=e.trans l5;have r1:=rowE_app (V:=W) (ys:=[_,_,_,_,_,_]) (sp:=b0) (sp':=b4) rfl (x3.le fun _ _ g=>RLv.le g l5) x2 rfl (RLv.le hl X);have L1:Lst 6 RLv W (mA n e7) (S++[ln]).length (S++[ln]):=Lst.of_mrow (fun _=>b5) r1 (by decide) (by rw [lnS];exact g3);have eA:mA n e7=some ⟨n,0,none⟩:=by unfold mA;rw [if_neg (by omega)]
  rw [eA,lnS] at L1;refine (iha (V:=W) (hA.le X) a7 L1 bA kA (by rw [lnS];omega)).mono ?_;rintro r V6 l6 ⟨bm,Y,n',c',w1,w2,rfl,N⟩;have b6:=cells_len a (S++[ln]);have b7:=cells_len b (S++[revL ln]);have b8:W.Le (V6.shut.hideG (Y≠[]) bm):=le_moved (V:=W) (V':=V6) l6 fun h=>.inl (w2 h);have B:=l5.trans b8;have b9:=L.le B fun _ _ g=>RLv.le g B;obtain ⟨ys,y1,y2,y3⟩:=lst_cells b9 (by decide);refine ⟨bm,Y,w1,fun h=>.inl (w2 h),none,n',c',rfl,ys,y1,y2,by omega,Nat.le_refl _,by simp,y2,row_ones y3 y2,fun d3 d8 Z d9 g5 g6 V7 l7=>(c_ref04_Rev (RLv.le hl (e.trans (B.trans l7)))).mono ?_⟩;rintro r V8 l8 gr;have a0:RLv V8 r (revL ln):=gr;obtain ⟨_,_,_,_,_,_,_,_,_,_,_,_,rfl⟩:=rlv_shape a0;refine ⟨_,_,_,_,_,_,_,_,_,_,_,_,rfl,by omega,g5,by simp;omega,rfl,one6,fun d4 e0 a1 a2 g7 g8 V9 l9 p c0=>?_⟩;have H:=l7.trans (l8.trans l9);have r2:=rowE_app (V:=V9) (ys:=[_,_,_,_,_,_]) (sp:=Z) (sp':=a1) rfl (y3.le fun _ _ g=>RLv.le g H) y2 rfl (RLv.le a0 l9);have L2:Lst 6 RLv V9 (mA p a2) (S++[revL ln]).length (S++[revL ln]):=Lst.of_mrow (fun _=>c0) r2 (by decide) (by rw [lnS];exact g7);have eB:mA p a2=some ⟨p,0,none⟩:=by unfold mA;rw [if_neg (by omega)]
  rw [eB,lnS] at L2;refine (ihb (V:=V9) (hB.le (e.trans (B.trans H))) a8 L2 bB kB (by rw [lnS];omega)).mono ?_;rintro r C d0 ⟨D,d,f,s,w3,w4,rfl,G2⟩;have a3:V9.Le (C.shut.hideG (d≠[]) D):=le_moved (V:=V9) (V':=C) d0 fun h=>.inl (w4 h);obtain ⟨t1,t2⟩:=gr_take G2;have f1:=N.len;have f2:=G2.len;have hd:(rowTakeM d f s 2).length / 2=f:=by rw [t2];omega
  have rB:Row 2 RCe (C.hideG (d≠[]) D) (rowTakeM d f s 2) (cellsR b (S++[revL ln])):=by
   rw [t1,f2];exact row_takeF G2.row
  refine ⟨D,d,w3,fun h=>.inl (w4 h),none,f,s,rfl,by rw [hd];omega,N.le,N.cap,by rw [hd];exact t2,?_,fun u d2 k1 k2 a4 w a5 hw k=>?_⟩
  ·intro v M;obtain ⟨m,hm,rfl⟩:=List.mem_iff_getElem.1 M;exact row_one_cell rB (by decide) (fun _ _=>rce_one) (m:=m) (by rw [←f2,←t2];exact hm) (List.getElem?_eq_getElem hm)
  rw [hd] at k1 k2 ⊢;refine ⟨w,_,n'+f,d2,hw,fun h=>(k h).elim id False.elim,rfl,?_⟩;have lA:(V6.hideG (Y≠[]) bm).Le (a4.hideG (Y.take (n'*2)++rowTakeM d f s 2++u≠[]) w):=fun b o h=>a5 b o (a3 b o (H b o h));have lB:(C.hideG (d≠[]) D).Le (a4.hideG (Y.take (n'*2)++rowTakeM d f s 2++u≠[]) w):=fun b o h=>a5 b o h;refine ⟨by rw [List.length_append,f1,f2],k1,?_,?_⟩
  ·have h1:=N.cap;have h2:=Nat.mul_le_mul_right 2 N.le;rw [List.length_append,List.length_append,List.length_take,t2];omega
  ·have:=row_append (sp:=u) (N.row.le fun _ _ g=>RCe.le g lA) (rB.le fun _ _ g=>RCe.le g lB) (by decide);rw [←f1] at this;exact this
theorem c_Cell_Divide {V:View}{cp:OA}{cn cc:Nat}{c:List Sd}{lv:Value}{l:L3}(h:Lst 17 RSd V cp cn c)(hc:cn<=cc)(hl:RLi V lv l)(hb:Bd l)(hn:c.length<=100000)(asc:c.Pairwise fun s u=>Sec.ang (Sec.dirL s.1) (Sec.dirL u.1)<0) :
  Acts prog 177 #[.slice cp cn cc,lv] V fun r V'=>∃p n m q k e,r=.tuple #[.slice p n m,.slice q k e,.bool (clipC c l).isSome,.bool (clipC c (revL l)).isSome]/\(∀d,clipC c l=some d->Lst 17 RSd V' p n d/\n<=m)/\(∀d,clipC c (revL l)=some d->Lst 17 RSd V' q k d/\k<=e):=by
 have a:=hl;obtain ⟨_,_,_,_,_,_,_,_,_,rfl,-,-,-⟩:=hl;refine vc_geo_Cell_Divide cp cn cc _ _ _ _ _ _ _ _ _ V _ fun H j=>(c_Cell_Clip (h.le j fun _ _ g=>RSd.le g j) (a.le j) hb hn asc).mono ?_;rintro r V2 C ⟨p,n,m,rfl,D⟩;have b:=j.trans C;refine ⟨_,_,_,_,rfl,fun I t=>(k_Reverse (a.le (b.trans t)) hb.szl (by omega)).mono ?_⟩;rintro r E A B;have v:RLi E r (revL l):=B;obtain ⟨_,_,_,_,_,_,_,_,_,rfl,-,-,-⟩:=B;have f:=b.trans (t.trans A);refine ⟨_,_,_,_,_,_,_,_,_,rfl,fun J o=>(c_Cell_Clip (h.le (f.trans o) fun _ _ g=>RSd.le g (f.trans o)) (v.le o) hb.rev hn asc).mono ?_⟩;rintro r K F ⟨q,k,e,rfl,G⟩;refine ⟨_,_,_,_,rfl,fun L w=>⟨_,_,_,_,_,_,rfl,fun d x=>?_,fun d x=>?_⟩⟩
 ·obtain ⟨y,z⟩:=D d x;have i:=t.trans (A.trans (o.trans (F.trans w)));exact ⟨y.le i fun _ _ g=>RSd.le g i,z hc⟩
 ·obtain ⟨y,z⟩:=G d x;exact ⟨y.le w fun _ _ g=>RSd.le g w,z hc⟩
def RPrt (V:View)(v:Value)(p:List Sd×Bool):Prop:=∃q n e b,v=.agg #[.slice q n e,.pointer b]/\Lst 17 RSd V q n p.1/\n<=e/\RT V b (.leaf p.2)
theorem RPrt.le {V V':View}{v:Value}{p:List Sd×Bool}(h:RPrt V v p)(l:V.Le V'):RPrt V' v p:=by
 obtain ⟨q,n,e,b,rfl,a,c,d⟩:=h;exact ⟨q,n,e,b,rfl,a.le l fun _ _ g=>RSd.le g l,c,RT.le l d⟩
theorem one2p {q:OA}{n e:Nat}{b:OA}:∀v∈([.slice q n e,.pointer b]:List Value),v.oneCell'=true:=fun v a=>by
 simp only [List.mem_cons,List.not_mem_nil,or_false] at a;rcases a with rfl|rfl<;>rfl
theorem c_bsp_parts:∀(t:Tr) {V:View} {q cp:OA} {cn cc lb n m:Nat} {c:List Sd} {M:List L3} {vs:List Value} {o:List (List Sd×Bool)},RT V q t->t.All Okb->CanC M c->(∀x∈M,okL x=true)->Lst 17 RSd V cp cn c->cn<=cc->c.length+t.size<=90000 ->
  (vs≠[]->V.w.heap[lb]?=some (.cells vs.toArray 115 (0,0)))->(vs≠[]->V.X lb)->GR 2 RPrt V n m vs o->(vs≠[]->0<n)->n+t.size+1<=1000000 ->
  Acts prog 138 #[.pointer q,.slice cp cn cc,.slice (mA lb m) n m] V fun r V'=>∃(bm:Nat)(vm:List Value)(n' c':Nat),(vm≠[]->V'.w.heap[bm]?=some (.cells vm.toArray 115 (0,0)))/\(vm≠[]->V.w.heap.size<=bm\/(vs≠[]/\bm=lb)) /\
   r=.slice (mA bm c') n' c'/\GR 2 RPrt (V'.hideG (vm≠[]) bm) n' c' vm (o++partsC t c)/\(vm≠[]->0<n')/\n'<=n+t.size+1:=by
 intro t;have u:∀{A B:Prop},A\/B\/False->A\/B:=fun h=>h.imp id fun h=>h.elim id False.elim
 induction t with
 | leaf i=>
  intro V q cp cn cc lb n m c M vs o h ha hC hk hL N hlen hw O hg s hn;refine vc_bsp_T_parts q cp cn cc lb n m vs V _ hw O fun V1 l1=>(c_bsp_IsLeaf (h.le l1)).mono ?_;rintro r V2 l2 rfl;have f:=l1.trans l2;refine ⟨_,rfl,fun hl=>⟨by omega,hg.le,hg.cap,rfl,one2p,fun sp c3 k1 k2 V3 bk hle D E=>⟨bk,_,n+1,c3,D,fun h=>u (E h),rfl,?_,fun _=>by omega,by omega⟩⟩,(fun hl=>by cases hl)⟩;exact (hg.mono fun _ _ g=>RPrt.le g (f.trans hle)).snoc (a:=(c,i)) rfl ⟨_,_,_,_,rfl,hL.le (f.trans hle) fun _ _ g=>RSd.le g (f.trans hle),N,RT.le (f.trans hle) h⟩ (by decide) k1 k2
 | node ln a b iha ihb=>
  intro V q cp cn cc lb n m c M vs o h ha hC hk hL N hlen hw O hg s hn;refine vc_bsp_T_parts q cp cn cc lb n m vs V _ hw O fun V1 l1=>(c_bsp_IsLeaf (h.le l1)).mono ?_;rintro r V2 l2 rfl;have f:=l1.trans l2;refine ⟨_,rfl,(fun hl=>by cases hl),fun _=>?_⟩;obtain ⟨bb,u1,u2,u3,v1,v2,v3,w1,w2,w3,pl,pr,i,rfl,hb,b8,b9,a0⟩:=h.le f;obtain ⟨⟨F,c0⟩,c5,a6⟩:=ha;simp only [Tr.size] at hn hlen
  have k:∀{W:View},V2.Le W->∀j v,([.int .i64 u1,.int .i64 u2,.pointer u3,.int .i64 v1,.int .i64 v2,.pointer v3,.int .i64 w1,.int .i64 w2,.pointer w3,.pointer pl,.pointer pr,.bool i]:List Value)[j]?=some v->W.at ((⟨bb,0,none⟩:Addr).add j) v:=by
   intro W hW j v hv;rw [add_zero'];exact blk_at (xs:=[_,_,_,_,_,_,_,_,_,_,_,_]) (hW _ _ hb) hv
  have G:=View.Le.refl V2;have a7:∀d,clipC c ln=some d->d.length+a.size<=90000:=fun d C=>by have:=clipC_len C;omega
  have I:∀d,clipC c (revL ln)=some d->d.length+b.size<=90000:=fun d C=>by have:=clipC_len C;omega
  have a8:∀d,clipC c ln=some d->CanC (ln::M) d:=(clip_ok hC hk F).1;have J:∀d,clipC c (revL ln)=some d->CanC (revL ln::M) d:=(clip_ok hC hk (ok_rev F)).1;have c6:∀x∈ln::M,okL x=true:=fun x O=>(List.mem_cons.1 O).elim (fun g=>g▸F) (hk x);have okB:∀x∈revL ln::M,okL x=true:=fun x O=>(List.mem_cons.1 O).elim (fun g=>g▸ok_rev F) (hk x);refine ⟨rfl,rfl,_,_,_,_,_,_,_,_,_,⟨bb,0,none⟩,rfl,k G 0 _ rfl,k G 1 _ rfl,k G 2 _ rfl,k G 3 _ rfl,k G 4 _ rfl,k G 5 _ rfl,k G 6 _ rfl,k G 7 _ rfl,k G 8 _ rfl,fun V4 l4=>(c_Cell_Divide (hL.le (f.trans l4) fun _ _ g=>RSd.le g (f.trans l4)) N (l:=ln) (b8.le l4) c0 (by omega) hC.asc).mono ?_⟩;rintro r V5 l5 ⟨p1,n1,c1,p2,n2,c2,rfl,c7,a9⟩;have p:=l4.trans l5;have c8:=f.trans p;have P:GR 2 RPrt V5 n m vs o:=hg.mono fun _ _ g=>RPrt.le g c8;have eP:partsC (.node ln a b) c=(match clipC c ln with|some d=>partsC a d|none=>[])++(match clipC c (revL ln) with|some d=>partsC b d|none=>[]):=rfl;rw [eP];refine ⟨_,_,_,_,_,_,_,_,rfl,fun b1=>?_,fun b1=>?_⟩
  ·obtain ⟨d,C⟩:=Option.isSome_iff_exists.1 b1;obtain ⟨gd,gc⟩:=c7 d C;rw [C];refine ⟨rfl,rfl,pl,rdc (p _ _ hb) 9 rfl,fun Q l6 bk f1 f2=>?_⟩;refine (iha (V:=Q.lend [vb vs Q.w.heap.size bk]) (lb:=bk) (RT.le (V:=V2) (V':=Q.lend _) (fun b o h=>(p.trans l6) b o h) b9) c5 (a8 d C) c6 (gd.le (V:=V5) (V':=Q.lend _) (fun b o h=>l6 b o h) fun _ _ g=>RSd.le g fun b o h=>l6 b o h) gc (a7 d C) f1 (fun h=>⟨by simp [vb_ne h],f2 h⟩) (P.mono (V':=Q.lend _) fun _ _ g=>RPrt.le g fun b o h=>l6 b o h) s (by omega)).mono ?_;rintro r V7 l7 ⟨bm,vm,n3,c3,a1,a2,rfl,a3,a4,a5⟩;have c9:Q.Le (V7.shut.hideG (vm≠[]) bm):=le_moved (V:=Q) (V':=V7) (fun b o h=>l7 b o h) fun h=>(a2 h).imp id fun (g:vs≠[]/\bm=bk)=>by rw [g.2];exact f2 g.1
   have b0:=l6.trans c9;have b3:GR 2 RPrt (V7.shut.hideG (vm≠[]) bm) n3 c3 vm (o++partsC a d):=a3.mono fun _ _ g=>RPrt.le g fun b o h=>h;refine ⟨bm,vm,a1,a2,none,n3,c3,rfl,fun R=>?_,fun R d0 b4 hle D E=>⟨b4,vm,n3,c3,D,fun h=>u (E h),rfl,?_,a4,by simp only [Tr.size];omega⟩⟩
   ·obtain ⟨S,e⟩:=Option.isSome_iff_exists.1 R;obtain ⟨T,U⟩:=a9 S e;rw [e];refine ⟨rfl,rfl,pr,rdc ((p.trans b0) _ _ hb) 10 rfl,fun V8 l8 K f3 f4=>?_⟩;have Y:=b0.trans l8;refine (ihb (V:=V8.lend [vb vm V8.w.heap.size K]) (lb:=K) (RT.le (V:=V2) (V':=V8.lend _) (fun b o h=>(p.trans Y) b o h) a0) a6 (J S e) okB (T.le (V:=V5) (V':=V8.lend _) (fun b o h=>Y b o h) fun _ _ g=>RSd.le g fun b o h=>Y b o h) U (I S e) f3 (fun h=>⟨by simp [vb_ne h],f4 h⟩) (b3.mono (V':=V8.lend _) fun _ _ g=>RPrt.le g fun b o h=>l8 b o h) a4 (by omega)).mono ?_;rintro r V9 l9 ⟨Z,y,n4,c4,x1,x2,rfl,x3,x4,x5⟩;refine ⟨Z,y,x1,x2,none,n4,c4,rfl,fun d1 b5 hle D E=>⟨b5,y,n4,c4,D,fun h=>u (E h),rfl,?_,x4,by simp only [Tr.size];omega⟩⟩;rw [←List.append_assoc];exact x3.mono fun _ _ g=>RPrt.le g fun b o h=>hle b o h
   ·have e:clipC c (revL ln)=none:=Option.isNone_iff_eq_none.1 (by rw [←Option.not_isSome,R];rfl);rw [e];dsimp only;rw [List.append_nil];exact b3.mono fun _ _ g=>RPrt.le g hle
  ·have C:clipC c ln=none:=Option.isNone_iff_eq_none.1 (by rw [←Option.not_isSome,b1];rfl);rw [C];refine ⟨fun R=>?_,fun R d2 b6 hle D E=>⟨b6,vs,n,m,D,fun h=>u (E h),rfl,?_,s,by simp only [Tr.size];omega⟩⟩
   ·obtain ⟨S,e⟩:=Option.isSome_iff_exists.1 R;obtain ⟨T,U⟩:=a9 S e;rw [e];refine ⟨rfl,rfl,pr,rdc (p _ _ hb) 10 rfl,fun z H L f3 f4=>?_⟩;refine (ihb (V:=z.lend [vb vs z.w.heap.size L]) (lb:=L) (RT.le (V:=V2) (V':=z.lend _) (fun b o h=>(p.trans H) b o h) a0) a6 (J S e) okB (T.le (V:=V5) (V':=z.lend _) (fun b o h=>H b o h) fun _ _ g=>RSd.le g fun b o h=>H b o h) U (I S e) f3 (fun h=>⟨by simp [vb_ne h],f4 h⟩) (P.mono (V':=z.lend _) fun _ _ g=>RPrt.le g fun b o h=>H b o h) s (by omega)).mono ?_;rintro r d3 d4 ⟨Z,y,n4,c4,x1,x2,rfl,x3,x4,x5⟩;refine ⟨Z,y,x1,x2,none,n4,c4,rfl,fun d5 b7 hle D E=>⟨b7,y,n4,c4,D,fun h=>u (E h),rfl,?_,x4,by simp only [Tr.size];omega⟩⟩;exact x3.mono fun _ _ g=>RPrt.le g fun b o h=>hle b o h
   ·have e:clipC c (revL ln)=none:=Option.isNone_iff_eq_none.1 (by rw [←Option.not_isSome,R];rfl);rw [e];show GR 2 RPrt _ n m vs (o++([]++[]));rw [List.append_nil,List.append_nil];exact P.mono fun _ _ g=>RPrt.le g hle
theorem c_bsp_Parts {V:View}{q:OA}{t:Tr}(h:RT V q t)(ha:t.All Okb)(hs:t.size<=80000) :
  Acts prog 95 #[.pointer q] V fun r V'=>∃p n c,r=.slice p n c/\Lst 2 RPrt V' p n (partsC t []):=by
 refine vc_bsp_T_Parts q V _ fun e f=>(c_bsp_parts t (V:=e) (lb:=0) (vs:=[]) (o:=[]) (m:=0) (n:=0) (cp:=none) (cn:=0) (cc:=0) (c:=[]) (M:=[]) (h.le f) ha CanC.nil (fun x i=>by cases i) Lst.nil (Nat.le_refl _) (by simp;omega) (fun h=>absurd rfl h) (fun h=>absurd rfl h) GR.nil (fun h=>absurd rfl h) (by omega)).mono ?_;rintro r V2 w ⟨j,k,n,c,l,s,rfl,a,y,z⟩;refine ⟨j,k,l,fun h=>(s h).imp id fun g=>absurd rfl g.1,none,n,c,rfl,fun A u B v=>?_⟩;have d:=a.len;rw [List.nil_append] at a d;rw [d];exact ⟨_,_,_,rfl,Lst.of_mrow v (a.row.le fun _ _ g=>RPrt.le g fun b o h=>u b o h) (by decide) (by rw [←d];exact a.le)⟩
theorem As (l:List Nd):∀(f:Nat)(n:Int)(s:RS),(dB l f n s).2.bad=false->∀i:Nat,(dB l f n s).2.seen[i]?=some true->s.seen[i]?=some true\/∃x:Nd,l[i]?=some x/\okL x.ln=true
 | 0,_,_,_,_,h=>.inl h
 | f+1,n,s,h,i,hi=>by
  simp only [dB] at h hi;by_cases n2:n=-2
  ·rw [if_pos n2] at hi;exact .inl hi
  rw [if_neg n2] at h hi;by_cases n1:n=-1
  ·rw [if_pos n1] at hi;exact .inl hi
  rw [if_neg n1] at h hi;by_cases n0:n<0
  ·rw [if_pos n0] at h;cases h
  rw [if_neg n0] at h hi
  cases hx:l[n.toNat]? with
  | none=>rw [hx] at h;cases h
  | some x=>
  cases hs:s.seen[n.toNat]? with
  | none=>rw [hx,hs] at h;cases h
  | some b=>
  cases b with
  | true=>rw [hx,hs] at h;cases h
  | false=>
   rw [hx,hs] at h hi;dsimp only at h hi;by_cases ho:okL x.ln=true
   ·rw [if_pos ho] at h hi;dsimp only at h hi
    have hb:(dB l f x.left ⟨s.seen.set n.toNat true,s.jM+1,s.bad⟩).2.bad=false:=by
     cases e:(dB l f x.left ⟨s.seen.set n.toNat true,s.jM+1,s.bad⟩).2.bad
     ·rfl
     ·have:=Ar l f x.right _ e;rw [h] at this;cases this
    rcases As l f x.right _ h i hi with g|g
    ·rcases As l f x.left _ hb i g with g|g
     ·dsimp only at g;rw [List.getElem?_set] at g;split at g
      ·rename_i e;subst e;exact .inr ⟨x,hx,ho⟩
      ·exact .inl g
     ·exact .inr g
    ·exact .inr g
   ·rw [if_neg ho] at h;cases h
theorem ofT_okl {l:List Nd}{root:Int}{t:Tr}(h:ofT l root=some t):∀x∈l,okL x.ln=true:=by
 have f:l.length<=65536:=by
  rcases Nat.lt_or_ge 65536 l.length with b|b
  ·unfold ofT at h;rw [if_pos b] at h;cases h
  ·exact b
 rw [Jb f] at h;split at h
 ·rename_i d;intro x j;obtain ⟨i,c,rfl⟩:=List.mem_iff_getElem.1 j;have hm:=(pj l (l.length+1) root ⟨List.replicate l.length false,0,false⟩).2
  have k:(dB l (l.length+1) root ⟨List.replicate l.length false,0,false⟩).2.seen[i]?=some true:=by
   have a:i<(dB l (l.length+1) root ⟨List.replicate l.length false,0,false⟩).2.seen.length:=by rw [hm];simpa using c
   rw [List.getElem?_eq_getElem a];have:=List.all_eq_true.1 d.2 _ (List.getElem_mem a);exact congrArg some this
  rcases As l _ root _ d.1 i k with g|⟨y,e,m⟩
  ·simp [c] at g
  ·rw [List.getElem?_eq_getElem c] at e;cases e;exact m
 ·cases h
theorem c_cells_parts {V:View}{v:Value}{root:Int}{l:List Nd}(hb:∀x∈l,Bd x.ln)(h:AT V v root l){y z:Value}(hy:Sent V 0 y)(hz:Sent V 1 z) :
  Acts prog 40 #[v] V fun r V'=>(ofT l root=none->r=.tuple #[.slice none 0 0,y])/\∀t,ofT l root=some t->(1024<t.depth->r=.tuple #[.slice none 0 0,z])/\(t.depth<=1024->∃p n c,r=.tuple #[.slice p n c,.nilIface]/\Lst 2 RPrt V' p n (partsC t [])):=by
 have A:=h;obtain ⟨q,n,c,rfl,-⟩:=h;refine vc_cells_parts root q n c V _ fun G m=>(c_bsp_Of' hb (A.le m)).mono ?_;rintro r V2 B ⟨a,rfl,o⟩;have d:=m.trans B;refine ⟨_,_,rfl,fun g=>⟨y,⟨_,rfl,hy.le d⟩,fun H I=>?_⟩,fun g J s=>?_⟩
 ·have g:ofT l root=none:=by cases e:ofT l root with
   | none=>rfl
   | some t=>rw [e] at g;cases g
  exact ⟨fun _=>rfl,fun t b=>by rw [g] at b;cases b⟩
 ·cases e:ofT l root with
  | none=>rw [e] at g;cases g
  | some t=>
   have K:=ofT_size e;have j:t.All Okb:=ofT_all (p:=Okb) (fun x u=>⟨ofT_okl e x u,hb x u⟩) e;refine (c_bsp_Depth t ((o t e).le s) (by omega)).mono ?_;rintro r L C rfl;have f:=s.trans C;refine ⟨_,rfl,fun i=>⟨z,⟨_,rfl,hz.le (d.trans f)⟩,fun M N=>⟨(fun k=>by cases k),fun D b=>?_⟩⟩,fun i O E=>(c_bsp_Parts ((o t e).le (f.trans E)) j (by omega)).mono ?_⟩
   ·cases b;have i:=of_decide_eq_true i;exact ⟨fun _=>rfl,fun k=>by omega⟩
   ·rintro r P Q ⟨p,n,c,rfl,F⟩;refine ⟨_,_,_,rfl,fun R w=>⟨(fun k=>by cases k),fun D b=>?_⟩⟩;cases b;have i:=of_decide_eq_false i;exact ⟨fun k=>by omega,fun _=>⟨_,_,_,rfl,F.le w fun _ _ g=>RPrt.le g w⟩⟩
theorem parts_len:∀{t:Tr} {c:List Sd},∀p∈partsC t c,p.1.length<=c.length+t.size
 | .leaf b,c,p,hp=>by
  unfold partsC at hp;rw [List.mem_singleton.1 hp];simp
 | .node l a b,c,p,hp=>by
  unfold partsC at hp;simp only [Tr.size];rcases List.mem_append.1 hp with hp|hp
  ·cases e:clipC c l with
   | some d=>rw [e] at hp;have:=parts_len p hp;have:=clipC_len e;omega
   | none=>rw [e] at hp;cases hp
  ·cases e:clipC c (revL l) with
   | some d=>rw [e] at hp;have:=parts_len p hp;have:=clipC_len e;omega
   | none=>rw [e] at hp;cases hp
theorem parts_count:∀{t:Tr} {c:List Sd},(partsC t c).length<=t.size+1
 | .leaf b,c=>by unfold partsC;simp
 | .node l a b,c=>by
  unfold partsC;simp only [Tr.size];rw [List.length_append]
  have h1:(match clipC c l with|some d=>partsC a d|none=>[]).length<=a.size+1:=by
   cases clipC c l with
   | some d=>exact parts_count
   | none=>exact Nat.zero_le _
  have e:(match clipC c (revL l) with|some d=>partsC b d|none=>[]).length<=b.size+1:=by
   cases clipC c (revL l) with
   | some d=>exact parts_count
   | none=>exact Nat.zero_le _
  exact Nat.le_trans (Nat.add_le_add h1 e) (by omega)
theorem lst_prt {V:View}{p:OA}{n:Nat}{al:List (List Sd×Bool)}(h:Lst 2 RPrt V p n al){i:Nat}(hi:i<al.length) :
  p.isSome=true/\∃(q:OA)(m e:Nat)(b:OA)(a:Addr),addrAdd p (i*2)=some a/\V.at (a.add 0) (.slice q m e)/\V.at (a.add 1) (.pointer b)/\Lst 17 RSd V q m al[i].1/\m<=e/\RT V b (.leaf al[i].2):=by
 obtain ⟨f,c,xs,o,g,d⟩:=h.at_ i hi;obtain ⟨q,m,e,b,ex,j,k,l⟩:=g;have ex:=congrArg Array.toList (Value.agg.inj ex);dsimp only at ex;subst ex;refine ⟨?_,q,m,e,b,f,c,d 0 _ rfl,d 1 _ rfl,j,k,l⟩
 cases p with
 | none=>cases c
 | some a=>rfl
def RCl1 (V:View)(v:Value)(S:List L3):Prop:=∃p n c,v=.agg #[.slice p n c]/\Lst 6 RLv V p n S
theorem RCl1.le {V V':View}{v:Value}{S:List L3}(h:RCl1 V v S)(l:V.Le V'):RCl1 V' v S:=by
 obtain ⟨p,n,c,rfl,g⟩:=h;exact ⟨p,n,c,rfl,g.le l fun _ _ k=>RLv.le k l⟩
def RCode (_V:View)(v:Value)(b:Bool):Prop:=v=.agg #[.int .i64 (if b then -2 else -1)]
theorem c_cells_All {V:View}{v:Value}{root:Int}{l:List Nd}(hb:∀x∈l,Bd x.ln)(h:AT V v root l){y z:Value}(hy:Sent V 0 y)(hz:Sent V 1 z)(sy:SErr y)(sz:SErr z) :
  Acts prog 11 #[v] V fun r V'=>(ofT l root=none->r=.tuple #[.slice none 0 0,.slice none 0 0,y])/\∀t,ofT l root=some t->(1024<t.depth->r=.tuple #[.slice none 0 0,.slice none 0 0,z])/\(t.depth<=1024->∃p n c q m e,r=.tuple #[.slice p n c,.slice q m e,.nilIface]/\Lst 1 RCl1 V' p n ((partsC t []).map fun p=>p.1.map Prod.fst)/\Lst 1 RCode V' q m ((partsC t []).map Prod.snd)):=by
 have h0:=h;obtain ⟨q,n,c,rfl,-⟩:=h;have O:∀{y:Value},SErr y->IsIface y/\isNilI y=false:=fun h=>by obtain ⟨a,rfl⟩:=h;exact ⟨.inr ⟨_,_,rfl⟩,rfl⟩
 refine vc_cells_All root q n c V _ fun V1 Q=>(c_cells_parts hb (h0.le Q) (hy.le Q) (hz.le Q)).mono ?_;rintro r V2 l2 ⟨h1,h2⟩;have a5:=Q.trans l2
 cases e:ofT l root with
 | none=>
  obtain rfl:=h1 e;exact ⟨_,_,_,_,rfl,(O sy).1,fun _ V3 l3=>⟨fun _=>rfl,fun t C=>by cases C⟩,fun B=>by rw [(O sy).2] at B;cases B⟩
 | some t=>
  obtain ⟨g1,g2⟩:=h2 t e;by_cases hd:1024<t.depth
  ·obtain rfl:=g1 hd;exact ⟨_,_,_,_,rfl,(O sz).1,fun _ V3 l3=>⟨(fun k=>by cases k),fun t' C=>by cases C;exact ⟨fun _=>rfl,fun k=>by omega⟩⟩,fun B=>by rw [(O sz).2] at B;cases B⟩
  ·obtain ⟨p,n',c',rfl,hL⟩:=g2 (by omega);have a6:=ofT_size e;have a0:=parts_count (t:=t) (c:=[]);have R:=parts_len (t:=t) (c:=[]);obtain rfl:=hL.len;refine ⟨_,_,_,_,rfl,.inl rfl,(fun B=>by cases B),fun _=>?_⟩;generalize eA:partsC t []=A at *;refine ⟨fun z V'=>∃j:Nat,z.2.2.2.2.2.2=(j:Int)/\j<=A.length/\GR 1 RCl1 V' z.1 z.2.1 z.2.2.1 ((A.take j).map fun p=>p.1.map Prod.fst)/\GR 1 RCode V' z.2.2.2.1 z.2.2.2.2.1 z.2.2.2.2.2.1 ((A.take j).map Prod.snd),fun z=>A.length-z.2.2.2.2.2.2.toNat,⟨(0,0,[],0,0,[],0),by and_intros<;>first|rfl|trivial,0,rfl,Nat.zero_le _,GR.nil,GR.nil⟩,?_⟩;rintro ⟨D,w2,ws,E,x2,xs,w⟩ V4 l4 ⟨j,ej,a7,b,d⟩;dsimp only at ej b d ⊢;subst ej;refine ⟨by trivial,fun f=>?_,fun f V9 l9 b1 b2 S k2=>⟨(fun k=>by cases k),fun t' C=>⟨fun k=>by cases C;omega,fun _=>?_⟩⟩⟩
   ·have f:(j:Int)<A.length:=of_decide_eq_true f;have G:j<A.length:=by omega
    have wr:i64.wrap ((j:Int)+1)=((j+1:Nat):Int):=by rw [i64w (by omega)];rfl
    rw [wr,Int.toNat_natCast];obtain ⟨ps,pq,pm,pe,pb,ad,ha,k0,S,gl,a8,T⟩:=lst_prt (hL.le l4 fun _ _ g=>RPrt.le g l4) G;have H:=R _ (List.getElem_mem G);have et:A.take (j+1)=A.take j++[A[j]]:=(List.take_append_getElem G).symm;have la:=b.len;have lb:=d.len;rw [List.length_map,List.length_take] at la lb;generalize A[j]=P at *;obtain ⟨bb,c0,s,u,c3,c4,c5,c6,c7,c8,rr,rfl,U⟩:=T;simp only [List.length_nil,Nat.zero_add] at H
    have call:∀{x:Int},x=(if P.2 then -2 else -1)->∀I,V4.Le I->Acts prog 41 #[.slice pq pm pe] I fun r F=>∃(q:OA)(m e:Nat),r=.agg #[.slice q m e]/\∀{i o:List Value} {s u:Nat},D+1<=s->s*1<=(D+1)*1+i.length->E+1<=u->u*1<=(E+1)*1+o.length->GR 1 RCl1 F (D+1) s (ws.take (D*1)++[.slice q m e]++i) ((A.take (j+1)).map fun p=>p.1.map Prod.fst)/\GR 1 RCode F (E+1) u (xs.take (E*1)++[.int .i64 x]++o) ((A.take (j+1)).map Prod.snd):=fun {x} hx I J=>by
     refine (c_Cell_API (gl.le J fun _ _ g=>RSd.le g J) (by omega)).mono ?_;rintro r F l6 ⟨q,m,e,rfl,hq,-⟩;have W:=J.trans l6;refine ⟨q,m,e,rfl,fun {i o s u} K L M N=>?_⟩;rw [et,List.map_append,List.map_append];exact ⟨(b.mono (V':=F) fun _ _ g=>RCl1.le g W).snoc (a:=P.1.map Prod.fst) rfl ⟨_,_,_,rfl,hq⟩ (by decide) K L,(d.mono (V':=F) fun _ _ g=>g).snoc (a:=P.2) rfl (by rw [hx];rfl) (by decide) M N⟩
    have o1:∀{q:OA} {m e:Nat},∀v∈([.slice q m e]:List Value),v.oneCell'=true:=fun v X=>by rw [List.mem_singleton.1 X];rfl
    have o2:∀{x:Int},∀v∈([.int .i64 x]:List Value),v.oneCell'=true:=fun v X=>by rw [List.mem_singleton.1 X];rfl
    refine ⟨ps,⟨by omega,by omega⟩,pq,pm,pe,_,ad,ha,k0,S,rfl,rfl,P.2,rdc U 11 rfl,fun Y I J=>(call (x:=-2) (by rw [Y];rfl) I J).mono ?_,fun Y V7 l7=>(call (x:=-1) (by rw [Y];rfl) V7 l7).mono ?_⟩
    ·rintro r F l6 ⟨q,m,e,rfl,Z⟩;refine ⟨q,m,e,rfl,by omega,b.le,b.cap,rfl,o1,fun i s K L=>⟨by omega,d.le,d.cap,rfl,o2,fun o u M N=>⟨(D+1,s,_,E+1,u,_,((j+1:Nat):Int)),by dsimp only;omega,by and_intros<;>first|rfl|trivial,j+1,rfl,G,Z K L M N⟩⟩⟩
    ·rintro r V8 l8 ⟨q,m,e,rfl,Z⟩;refine ⟨q,m,e,rfl,by omega,b.le,b.cap,rfl,o1,fun i s K L=>⟨by omega,d.le,d.cap,rfl,o2,fun o u M N=>⟨(D+1,s,_,E+1,u,_,((j+1:Nat):Int)),by dsimp only;omega,by and_intros<;>first|rfl|trivial,j+1,rfl,G,Z K L M N⟩⟩⟩
   ·have f:¬(j:Int)<A.length:=of_decide_eq_false f;obtain rfl:j=A.length:=by omega
    rw [List.take_length] at b d;cases C;rw [eA];have e1:=b.len;have e2:=d.len;have f1:=b.le;have f2:=d.le;subst e1 e2;exact ⟨_,_,_,_,_,_,rfl,Lst.of_mrow S (b.row.le fun _ _ g=>RCl1.le g l9) (by decide) f1,Lst.of_mrow k2 (d.row.le fun _ _ g=>g) (by decide) f2⟩
theorem wN {V:View}{y z:Value}(hy:Sent V 0 y)(hz:Sent V 1 z)(sy:SErr y)(sz:SErr z):Acts prog 19 #[] V fun r V'=>r=.bool true:=by
 refine vV V _ fun D B=>?_;have h:AT D (.agg #[.int .i64 (-2),.slice none 0 0]) (-2) []:=⟨none,0,0,rfl,rfl,Nat.le_refl _,⟨[],(fun i v h=>by simp at h),fun i d h=>by simp at h⟩,fun _=>rfl⟩;refine (c_cells_All (l:=[]) (fun x E=>by cases E) h (hy.le B) (hz.le B) sy sz).mono ?_;rintro r V2 Q ⟨-,F⟩;have e:ofT [] (-2)=some (.leaf true):=by decide
 obtain ⟨p,n,c,q,m,k,rfl,s,t⟩:=(F _ e).2 (by decide);have G:partsC (.leaf true) []=[([],true)]:=rfl;rw [G] at s t;have u:=s.len;have w:=t.len;obtain ⟨C,j,xs,R,⟨H,I,J,ex,K⟩,L⟩:=s.at_ 0 (by simp);obtain ⟨b,g,S,T,o,M⟩:=t.at_ 0 (by simp);have ex:=congrArg Array.toList (Value.agg.inj ex);have o:=congrArg Array.toList (Value.agg.inj o);dsimp only at ex o;subst ex o;have A:=K.len;have u:n=1:=u;have w:m=1:=w;have A:I=0:=A;subst u w A;have j:addrAdd p 0=some C:=j;have g:addrAdd q 0=some b:=g
 have sp:p.isSome=true:=by
  cases p with
  | none=>cases j
  | some a=>rfl
 have N:q.isSome=true:=by
  cases q with
  | none=>cases g
  | some a=>rfl
 have O:b.add 0=b:=by
  cases q with
  | none=>cases g
  | some a=>
   have P:a.add 0=b:=Option.some.inj g;rw [←P,oC]
 refine ⟨_,_,_,_,_,_,_,rfl,.inl rfl,fun _=>⟨fun _=>⟨sp,⟨by decide,by decide⟩,by rw [j];rfl,H,0,J,⟨C.add 0,by rw [j];rfl,L 0 _ rfl⟩,fun _=>⟨fun _=>⟨N,⟨by decide,by decide⟩,-2,⟨b,g,by have:=M 0 _ rfl;rw [O] at this;exact this⟩,fun U W=>rfl⟩,fun f=>by simp at f⟩,fun f=>by simp at f⟩,fun f=>by simp at f⟩,fun f=>by simp [isNilI] at f⟩
theorem FR {α:Type}{sz:Nat}{R:View->Value->α->Prop}{V:View}{vs:List Value}{al:List α}(h:Row sz R V vs al)(hs:0<sz){i:Nat}(hi:i<al.length) :
  ∃xs:List Value,xs.length=sz/\R V (.agg xs.toArray) al[i]/\i*sz+sz<=vs.length/\(vs.drop (i*sz)).take sz=xs/\∀j v,xs[j]?=some v->vs[i*sz+j]?=some v:=by
 obtain ⟨xs,d,e,a⟩:=h.at_ i hi;have f:=h.kR hs
 have hm:i*sz+sz<=al.length*sz:=by
  have:=Nat.mul_le_mul_right sz (Nat.succ_le_of_lt hi);rw [Nat.succ_mul] at this;exact this
 refine ⟨xs,d,e,by omega,List.ext_getElem? fun j=>?_,a⟩;rw [List.getElem?_take];by_cases c:j<sz
 ·rw [if_pos c,List.getElem?_drop];have b:xs[j]?=some xs[j]:=List.getElem?_eq_getElem (by omega);rw [b,a j _ b]
 ·rw [if_neg c,List.getElem?_eq_none (by omega)]
theorem Ir {V:View}{n c:Nat}{vs:List Value}{al:List (List L3×Bool)}(h:GR 2 RCe V n c vs al){i:Nat}(hi:i<al.length) :
  ∃(q:OA)(m e:Nat),i*2+2<=vs.length/\(vs.drop (i*2)).take 2=[.slice q m e,.bool al[i].2]/\vs[i*2+0]?=some (.slice q m e)/\Lst 6 RLv V q m al[i].1:=by
 obtain ⟨xs,g,⟨q,m,e,ex,a,j⟩,b,d,f⟩:=FR h.row (by decide) hi;have ex:=congrArg Array.toList (Value.agg.inj ex);dsimp only at ex;subst ex;exact ⟨q,m,e,b,d,f 0 _ rfl,a⟩
theorem BI {t:Tr}(ht:t.All Okb):cellsR t []=(partsC t []).map fun p=>(p.1.map Prod.fst,p.2):=
 uh CanC.nil (fun x a=>by cases a) (tB ht) (.inl rfl) rfl
theorem Jq {t:Tr}(ht:t.All Okb):∀p∈partsC t [],∀s∈p.1,Bd s.1:=fun p a s b=>by
 obtain ⟨M,c,d⟩:=mM (P:=Okb) (fun l h=>⟨ok_rev h.1,h.2.rev⟩) (fun l h=>h.1) CanC.nil (fun x e=>by cases e) ht p a;exact (d _ (c.mem s b).1).2
end Go.Proofs.Tryz
