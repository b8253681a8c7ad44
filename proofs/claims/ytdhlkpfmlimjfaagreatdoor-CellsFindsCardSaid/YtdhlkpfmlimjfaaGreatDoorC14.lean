import Derived.Test.YtdhlkpfmlimjfaaGreatDoorC13
import Derived.Test.YtdhlkpfmlimjfaaGreatDoorC10
import Derived.Test.YtdhlkpfmlimjfaaGreatDoorC6
import Derived.Test.YtdhlkpfmlimjfaaGreatDoorC8
set_option linter.unusedVariables false
open Go.IntKind (i64 u64 u32)
namespace Go.Proofs.Tryz
open Go.Eng Go.Big
theorem NS.rd {V:View}{p:OA}{n c:Nat}{l:List Nd}(h:NS V p n c l){k:Nat}{d:Nd}(hd:l[k]?=some d) :
  ∃(b1:Bool)(p1:OA)(n1 c1:Nat)(b2:Bool)(p2:OA)(n2 c2:Nat)(b3:Bool)(p3:OA)(n3 c3:Nat)(a:Addr),addrAdd p (k*8)=some a /\
   V.at (a.add 0) (.bool b1)/\V.at (a.add 1) (.slice p1 n1 c1)/\V.at (a.add 2) (.bool b2)/\V.at (a.add 3) (.slice p2 n2 c2)/\V.at (a.add 4) (.bool b3)/\V.at (a.add 5) (.slice p3 n3 c3)/\V.at (a.add 6) (.int .i64 d.left)/\V.at (a.add 7) (.int .i64 d.right) /\
   J8 V (.agg #[.bool b1,.slice p1 n1 c1,.bool b2,.slice p2 n2 c2,.bool b3,.slice p3 n3 c3]) d.ln:=by
 obtain ⟨s,b,g⟩:=h.row;obtain ⟨b1,p1,n1,c1,b2,p2,n2,c2,b3,p3,n3,c3,f,i⟩:=g k d hd;obtain ⟨m,rfl,-⟩:=b _ _ (f 0 _ rfl)
 have key:∀j v,([.bool b1,.slice p1 n1 c1,.bool b2,.slice p2 n2 c2,.bool b3,.slice p3 n3 c3,.int .i64 d.left,.int .i64 d.right]:List Value)[j]?=some v->V.at ((m.add (k*8)).add j) v:=by
  intro j v o;obtain ⟨q,e,r⟩:=b _ _ (f j v o);cases e;rw [addadd];exact r
 exact ⟨b1,p1,n1,c1,b2,p2,n2,c2,b3,p3,n3,c3,_,rfl,key 0 _ rfl,key 1 _ rfl,key 2 _ rfl,key 3 _ rfl,key 4 _ rfl,key 5 _ rfl,key 6 _ rfl,key 7 _ rfl,i⟩
theorem DP {l:List Nd}(hb:∀x∈l,Bd x.ln)(hlen:l.length<=65536):∀(f:Nat) (n:Int) (s:RS) {V:View} {rb sb:Nat} {Oy:OA} {nc:Nat},NS V Oy l.length nc l ->
  V.w.heap[rb]?=some (.cells #[.slice Oy l.length nc,.slice (some ⟨sb,0,none⟩) l.length l.length,.int .i64 (s.jy:Int),.bool s.bad] 252 (0,0))->V.X rb ->
  V.w.heap[sb]?=some (.cells (lg s.seen).toArray 4 (0,0))->V.X sb->rb≠sb->s.seen.length=l.length->s.seen.count false<f->s.jy+s.seen.count false<=l.length ->
  Acts prog 136 #[.pointer (some ⟨rb,0,none⟩),.int .i64 n] V fun r V'=>∃p,r=.pointer p/\RT V' p (du l f n s).1 /\
   V'.w.heap[rb]?=some (.cells #[.slice Oy l.length nc,.slice (some ⟨sb,0,none⟩) l.length l.length,.int .i64 ((du l f n s).2.jy:Int),.bool (du l f n s).2.bad] 252 (0,0)) /\
   V'.w.heap[sb]?=some (.cells (lg (du l f n s).2.seen).toArray 4 (0,0)):=by
 intro f
 induction f with
 | zero=>intro n s V rb sb Oy nc _ _ _ _ _ _ _ h;omega
 | succ f ih=>
  intro n s V rb sb Oy nc m P Q R S T E b8 b9;refine nT rb sb Oy l.length nc l.length l.length s.jy s.bad (lg s.seen) n V _ P Q R S T ⟨fun y V1 l1=>(fP _).mono ?_,fun y=>⟨fun D V4 l4=>(fP _).mono ?_,fun D=>⟨fun F V7 l7=>(fP _).mono ?_,fun F=>⟨fun K c0 c4=>(fP _).mono ?_,fun K=>?_⟩⟩⟩⟩
  ·rintro r V2 G ⟨p,rfl,d⟩;have W:n=-2:=by simpa using y
   have e:du l (f+1) n s=(.leaf true,s):=by simp [du,W]
   rw [y] at d;exact ⟨p,rfl,fun I j g c=>⟨p,rfl,by rw [e];exact d.le j,by rw [e];exact g,by rw [e];exact c⟩⟩
  ·rintro r V2 G ⟨p,rfl,d⟩;have W:n=-1:=by simpa using D
   have e:du l (f+1) n s=(.leaf false,s):=by simp [du,W]
   rw [y] at d;exact ⟨p,rfl,fun I j g c=>⟨p,rfl,by rw [e];exact d.le j,by rw [e];exact g,by rw [e];exact c⟩⟩
  ·rintro r V2 G ⟨p,rfl,d⟩;have B:¬n=-2:=by simpa using y
   have C:¬n=-1:=by simpa using D
   have z:n<0:=by simpa using F
   have e:du l (f+1) n s=(.leaf false,{ s with bad:=true }):=by simp [du,B,C,z]
   exact ⟨p,rfl,fun I j g c=>⟨p,rfl,by rw [e];exact d.le j,by rw [e];exact g,by rw [e];exact c⟩⟩
  ·rintro r V2 G ⟨p,rfl,d⟩;have B:¬n=-2:=by simpa using y
   have C:¬n=-1:=by simpa using D
   have z:¬n<0:=by simpa using F
   have L:(l.length:Int)<=n:=by simpa using K
   have e:du l (f+1) n s=(.leaf false,{ s with bad:=true }):=by
    simp only [du,B,C,z,if_false];rw [List.getElem?_eq_none (by omega)]
   exact ⟨p,rfl,fun I j g c=>⟨p,rfl,by rw [e];exact d.le j,by rw [e];exact g,by rw [e];exact c⟩⟩
  ·have B:¬n=-2:=by simpa using y
   have C:¬n=-1:=by simpa using D
   have z:¬n<0:=by simpa using F
   have L:n<(l.length:Int):=by simpa using K
   clear y D F K;obtain ⟨k,rfl⟩:=Int.eq_ofNat_of_zero_le (Int.not_lt.1 z);have hk:k<l.length:=by omega
   have Y:k<s.seen.length:=by omega
   simp only [Int.toNat_natCast,Nat.mul_one,Nat.zero_add];have i:s.seen[k]?=some s.seen[k]:=List.getElem?_eq_getElem Y;have t:l[k]?=some l[k]:=List.getElem?_eq_getElem hk;refine ⟨⟨by omega,L⟩,s.seen[k],Gj i,fun Z c5 c6=>(fP _).mono ?_,fun Z=>⟨⟨by omega,L⟩,by simp [lg];omega,m.TB (by omega),⟨by omega,L⟩,?_⟩⟩
   ·rintro r V2 G ⟨p,rfl,d⟩
    have e:du l (f+1) (k:Int) s=(.leaf false,{ s with bad:=true }):=by
     simp only [du,B,C,z,if_false,Int.toNat_natCast];rw [i,Z,t]
    exact ⟨p,rfl,fun I j g c=>⟨p,rfl,by rw [e];exact d.le j,by rw [e];exact g,by rw [e];exact c⟩⟩
   ·obtain ⟨b1,p1,m1,c1,b2,p2,m2,c2,b3,p3,m3,c3,a,ha,a0,a1,a2,a3,a4,a5,a6,a7,hL⟩:=m.rd t;refine ⟨b1,p1,m1,c1,b2,p2,m2,c2,b3,p3,m3,c3,_,_,a,ha,a0,a1,a2,a3,a4,a5,a6,a7,fun j9 cQ=>(zJ (hL.le cQ) (hb _ (List.getElem_mem hk))).mono ?_⟩;rintro r ng ck ⟨w,rfl,⟨x1,x2,x3,y1,y2,y3,z1,z2,z3,rfl⟩,hw⟩;rw [Z] at i;have J:(lg s.seen).set k (.bool true)=lg (s.seen.set k true):=by simp [lg,List.map_set]
    have M:=count_set i;have w1:i64.wrap ((s.jy:Int)+1)=((s.jy+1:Nat):Int):=by rw [i64w (by omega)];omega
    rw [J,w1];refine ⟨_,_,_,_,_,_,_,_,_,_,rfl,fun A oo dk=>(fP _).mono ?_,fun A pZ fN a8 a9 g c g3 g4 g5=>?_⟩
    ·rintro r V2 G ⟨p,rfl,d⟩;have A:okL l[k].ln=false:=by simpa using A
     have e:du l (f+1) (k:Int) s=(.leaf false,⟨s.seen.set k true,s.jy+1,true⟩):=by
      simp only [du,B,C,z,if_false,Int.toNat_natCast];rw [i,t];simp [A]
     exact ⟨p,rfl,fun I j g c=>⟨p,rfl,by rw [e];exact d.le j,by rw [e];exact g,by rw [e];exact c⟩⟩
    ·have A:okL l[k].ln=true:=by simpa using A
     have lv:V.Le pZ:=cQ.trans (ck.trans fN);have N:∀(U:View)(u v:Nat),U.H u->U.H v->(U.lend [u,v]).X u/\(U.lend [u,v]).X v:=fun U u v hu hv=>⟨⟨by simp,hu⟩,⟨by simp,hv⟩⟩;have i1:=ih l[k].left ⟨s.seen.set k true,s.jy+1,s.bad⟩ (V:=pZ.lend [a8,a9]) (m.le lv) g (N _ _ _ c g4).1 g3 (N _ _ _ c g4).2 g5 (by simp [E]) (by dsimp only;omega) (by dsimp only;omega);have hm:=oZ l f l[k].left ⟨s.seen.set k true,s.jy+1,s.bad⟩;have b0:=tv l f l[k].left ⟨s.seen.set k true,s.jy+1,s.bad⟩
     have e:du l (f+1) (k:Int) s=(.node l[k].ln (du l f l[k].left ⟨s.seen.set k true,s.jy+1,s.bad⟩).1 (du l f l[k].right (du l f l[k].left ⟨s.seen.set k true,s.jy+1,s.bad⟩).2).1,(du l f l[k].right (du l f l[k].left ⟨s.seen.set k true,s.jy+1,s.bad⟩).2).2):=by
      simp only [du,B,C,z,if_false,Int.toNat_natCast];rw [i,t];simp [A]
     rw [e];clear e;dsimp only;generalize du l f l[k].left ⟨s.seen.set k true,s.jy+1,s.bad⟩=q1 at *;obtain ⟨t1,s1⟩:=q1;dsimp only at i1 hm b0 ⊢;refine i1.mono ?_;rintro r rf iN ⟨p,rfl,d,e1,e2⟩;refine ⟨p,rfl,_,_,_,_,_,e1,_,e2,fun O fV HJ b5 f1 f2 f3 f4 f5=>?_⟩;have WW:pZ.Le O:=fun b o h=>fV b o (iN b o h);have i2:=ih l[k].right s1 (V:=O.lend [HJ,b5]) (m.le (lv.trans WW)) f1 (N _ _ _ f2 f4).1 f3 (N _ _ _ f2 f4).2 f5 (by rw [hm.2];simp [E]) (by omega) (by omega);generalize du l f l[k].right s1=q2 at *;obtain ⟨t2,s2⟩:=q2;dsimp only at i2 ⊢;refine i2.mono ?_;rintro r Ge my ⟨q,rfl,hq,e3,e4⟩;refine ⟨q,rfl,_,_,_,_,_,e3,_,e4,fun DH b6=>?_⟩;have PX:O.Le Ge:=fun b o h=>my b o h;have ND:Ge.Le DH:=fun b o h=>b6 b o h;have lw:ng.Le DH:=fN.trans (WW.trans (PX.trans ND));have TH:rf.Le O:=fun b o h=>fV b o h;refine (Gm ((hw A).le lw) (d.le (TH.trans (PX.trans ND))) (hq.le ND)).mono ?_;rintro r LS c7 ⟨u,rfl,hu⟩;exact ⟨u,rfl,fun Oh b7 g c=>⟨u,rfl,hu.le b7,g,c⟩⟩
theorem HV {V:View}{l:List Nd}(hb:∀x∈l,Bd x.ln){p:OA}{n c:Nat}(root:Int)(h:NS V p n c l) :
  Acts prog 93 #[.agg #[.int .i64 root,.slice p n c]] V fun r V'=>(ofT l root=none->∃q,r=.tuple #[.pointer q,.bool false])/\(∀t,ofT l root=some t->∃q,r=.tuple #[.pointer q,.bool true]/\RT V' q t):=by
 have v:=h.len;subst v;refine Hm root p l.length c V _ ⟨fun a J K=>?_,fun a=>⟨by omega,Int.le_refl _,?_,fun V2 w j k u y m z A=>?_⟩⟩
 ·have a:65536<l.length:=by simp at a;omega
  have e:ofT l root=none:=by unfold ofT;rw [if_pos a]
  exact ⟨fun _=>⟨_,rfl⟩,fun t d=>by rw [e] at d;cases d⟩
 ·have a:¬65536<l.length:=by simp at a;omega
  omega
 ·have a:¬65536<l.length:=by simp at a;omega
  simp only [Int.toNat_natCast] at u m ⊢;have B:List.replicate l.length (Value.bool false)=lg (List.replicate l.length false):=by simp [lg]
  rw [B] at m;have C:(List.replicate l.length false).count false=l.length:=by simp
  refine (DP hb (by omega) (l.length+1) root ⟨List.replicate l.length false,0,false⟩ (V:=V2.lend [j,k]) (h.le w) u ⟨by simp,y⟩ m ⟨by simp,z⟩ A (by simp) (by dsimp only;omega) (by dsimp only;omega)).mono ?_;rintro r D L ⟨q,rfl,E,F,G⟩
  have g:ofT l root=if (du l (l.length+1) root ⟨List.replicate l.length false,0,false⟩).2.bad=true\/(du l (l.length+1) root ⟨List.replicate l.length false,0,false⟩).2.jy≠l.length then none else some (du l (l.length+1) root ⟨List.replicate l.length false,0,false⟩).1:=by
   unfold ofT;rw [if_neg a]
  rw [g];clear g;generalize du l (l.length+1) root ⟨List.replicate l.length false,0,false⟩=r0 at *;obtain ⟨t,s⟩:=r0;refine ⟨q,rfl,_,_,_,_,_,F,_,G,fun i M N=>?_,fun i=>⟨fun f O P=>?_,fun f H I=>?_⟩⟩
  ·rw [if_pos (.inl i)];exact ⟨fun _=>⟨_,rfl⟩,fun t d=>by cases d⟩
  ·have f:s.jy≠l.length:=by simp at f;omega
   rw [if_pos (.inr f)];exact ⟨fun _=>⟨_,rfl⟩,fun t d=>by cases d⟩
  ·have f:s.jy=l.length:=by simp at f;omega
   dsimp only at i ⊢;rw [if_neg (by rw [i,f];simp)];exact ⟨fun e=>(by cases e),fun t1 d=>by cases d;exact ⟨q,rfl,RT.le (V:=D) (V':=H) (fun b o h=>I b o h) E⟩⟩
theorem Acts.Qk {f:FuncId}{args:Array Value}{V:View}{R R':Value->View->Prop}(h:Acts prog f args V R)(hR:∀r V',V.Le V'->(∀b,V'.H b->V.H b)->R r V'->R' r V'):Acts prog f args V R':=
 ⟨h.1,h.2.mono fun _ c ⟨r,he,a,d⟩=>⟨r,he,a,hR r _ (V.Mp c a) (fun _ e=>e) d⟩⟩
theorem vb_ne {vs:List Value}{n b:Nat}(h:vs≠[]):vb vs n b=b:=by cases vs with|nil=>exact absurd rfl h|cons v r=>rfl
theorem NR.push {V:View}{vs sp:List Value}{l:List Nd}(h:NR V vs l)(hl:l.length*8<=vs.length){ln:L3}{x y:Int}{b1:Bool}{p1:OA}{n1 c1:Nat}{b2:Bool}{p2:OA}{n2 c2:Nat}{b3:Bool}{p3:OA}{n3 c3:Nat}
  (hL:RL V (.agg #[.bool b1,.slice p1 n1 c1,.bool b2,.slice p2 n2 c2,.bool b3,.slice p3 n3 c3]) ln.1 ln.2.1 ln.2.2) :
  NR V (vs.take (l.length*8)++[.bool b1,.slice p1 n1 c1,.bool b2,.slice p2 n2 c2,.bool b3,.slice p3 n3 c3,.int .i64 x,.int .i64 y]++sp) (l++[⟨ln,x,y⟩]):=by
 intro i d b;rcases Nat.lt_or_ge i l.length with e|e
 ·rw [List.getElem?_append_left e] at b;obtain ⟨f,s,g,k,m,t,u,n,o,w,z,p,A,B⟩:=h i d b;refine ⟨f,s,g,k,m,t,u,n,o,w,z,p,fun j v c=>?_,B⟩
  have a:j<8:=by
   rcases Nat.lt_or_ge j 8 with a|a
   ·exact a
   ·rw [List.getElem?_eq_none (by simpa using a)] at c;cases c
  have:=A j v c;rw [List.append_assoc,List.getElem?_append_left (by rw [List.length_take];omega),List.getElem?_take,if_pos (by omega)];exact this
 ·rw [List.getElem?_append_right e] at b
  have q:i=l.length:=by
   rcases Nat.lt_or_ge (i-l.length) 1 with r|r
   ·omega
   ·rw [List.getElem?_eq_none (by simpa using r)] at b;cases b
  subst q;simp only [Nat.sub_self,List.getElem?_cons_zero,Option.some.injEq] at b;subst b;refine ⟨b1,p1,n1,c1,b2,p2,n2,c2,b3,p3,n3,c3,fun j v c=>?_,.inl hL⟩
  have a:j<8:=by
   rcases Nat.lt_or_ge j 8 with a|a
   ·exact a
   ·rw [List.getElem?_eq_none (by simpa using a)] at c;cases c
  rw [List.append_assoc,List.getElem?_append_right (by rw [List.length_take];omega),List.length_take,Nat.min_eq_left hl,Nat.add_sub_cancel_left,List.getElem?_append_left (by simpa using a)];exact c
theorem NR.Ux {V:View}{vs:List Value}{l:List Nd}(h:NR V vs l){k:Nat}{d:Nd}(hd:l[k]?=some d){x:Int}:NR V (vs.set (k*8+6) (.int .i64 x)) (l.set k ⟨d.ln,x,d.right⟩):=by
 intro i z b;rw [List.getElem?_set] at b;split at b
 ·rename_i e;subst e;split at b
  ·cases b;obtain ⟨b1,g,m,o,b2,p,q,r,b3,s,t,u,f,w⟩:=h k d hd;refine ⟨b1,g,m,o,b2,p,q,r,b3,s,t,u,fun j v a=>?_,w⟩;rw [List.getElem?_set];by_cases c:j=6
   ·subst c;have:=f 6 _ rfl
    have y:k*8+6<vs.length:=by
     rcases Nat.lt_or_ge (k*8+6) vs.length with h|h
     ·exact h
     ·rw [List.getElem?_eq_none h] at this;cases this
    rw [if_pos rfl,if_pos y];exact a
   ·rw [if_neg (by omega)];refine f j v ?_
    match j,c,a with
    | 0,_,a=>exact a
    | 1,_,a=>exact a
    | 2,_,a=>exact a
    | 3,_,a=>exact a
    | 4,_,a=>exact a
    | 5,_,a=>exact a
    | 6,c,_=>exact absurd rfl c
    | 7,_,a=>exact a
    | n+8,_,a=>exact a
  ·cases b
 ·rename_i e;obtain ⟨b1,g,m,o,b2,p,q,r,b3,s,t,u,f,w⟩:=h i z b;refine ⟨b1,g,m,o,b2,p,q,r,b3,s,t,u,fun j v a=>?_,w⟩
  have c:j<8:=by
   rcases Nat.lt_or_ge j 8 with c|c
   ·exact c
   ·rw [List.getElem?_eq_none (by simpa using c)] at a;cases a
  rw [List.getElem?_set_ne (by omega)];exact f j v a
theorem NR.Uy {V:View}{vs:List Value}{l:List Nd}(h:NR V vs l){k:Nat}{d:Nd}(hd:l[k]?=some d){x:Int}:NR V (vs.set (k*8+7) (.int .i64 x)) (l.set k ⟨d.ln,d.left,x⟩):=by
 intro i z b;rw [List.getElem?_set] at b;split at b
 ·rename_i e;subst e;split at b
  ·cases b;obtain ⟨b1,g,m,o,b2,p,q,r,b3,s,t,u,f,w⟩:=h k d hd;refine ⟨b1,g,m,o,b2,p,q,r,b3,s,t,u,fun j v a=>?_,w⟩;rw [List.getElem?_set];by_cases c:j=7
   ·subst c;have:=f 7 _ rfl
    have y:k*8+7<vs.length:=by
     rcases Nat.lt_or_ge (k*8+7) vs.length with h|h
     ·exact h
     ·rw [List.getElem?_eq_none h] at this;cases this
    rw [if_pos rfl,if_pos y];exact a
   ·rw [if_neg (by omega)];refine f j v ?_
    match j,c,a with
    | 0,_,a=>exact a
    | 1,_,a=>exact a
    | 2,_,a=>exact a
    | 3,_,a=>exact a
    | 4,_,a=>exact a
    | 5,_,a=>exact a
    | 6,_,a=>exact a
    | 7,c,_=>exact absurd rfl c
    | n+8,_,a=>exact a
  ·cases b
 ·rename_i e;obtain ⟨b1,g,m,o,b2,p,q,r,b3,s,t,u,f,w⟩:=h i z b;refine ⟨b1,g,m,o,b2,p,q,r,b3,s,t,u,fun j v a=>?_,w⟩
  have c:j<8:=by
   rcases Nat.lt_or_ge j 8 with c|c
   ·exact c
   ·rw [List.getElem?_eq_none (by simpa using c)] at a;cases a
  rw [List.getElem?_set_ne (by omega)];exact f j v a
theorem NR.kids {V:View}{vs:List Value}{l r:List Nd}{ln:L3}{u v x y:Int}(h:NR V vs (l++⟨ln,u,v⟩::r)):NR V ((vs.set (l.length*8+6) (.int .i64 x)).set (l.length*8+7) (.int .i64 y)) (l++⟨ln,x,y⟩::r):=by
 have c:(l++(⟨ln,u,v⟩:Nd)::r)[l.length]?=some ⟨ln,u,v⟩:=by simp
 have a:=h.Ux c (x:=x);have d:(l++(⟨ln,u,v⟩:Nd)::r).set l.length ⟨ln,x,v⟩=l++⟨ln,x,v⟩::r:=by simp
 rw [d] at a;have e:(l++(⟨ln,x,v⟩:Nd)::r)[l.length]?=some ⟨ln,x,v⟩:=by simp
 have b:=a.Uy e (x:=y);have f:(l++(⟨ln,x,v⟩:Nd)::r).set l.length ⟨ln,x,y⟩=l++⟨ln,x,y⟩::r:=by simp
 rw [f] at b;exact b
theorem NR.take {V:View}{vs:List Value}{l:List Nd}(h:NR V vs l):NR V (vs.take (l.length*8)) l:=by
 intro i d b;obtain ⟨b1,e,f,g,b2,k,m,n,b3,o,p,q,r,s⟩:=h i d b;refine ⟨b1,e,f,g,b2,k,m,n,b3,o,p,q,fun j v c=>?_,s⟩
 have a:j<8:=by
  rcases Nat.lt_or_ge j 8 with a|a
  ·exact a
  ·rw [List.getElem?_eq_none (by simpa using a)] at c;cases c
 have t:i<l.length:=by
  rcases Nat.lt_or_ge i l.length with h|h
  ·exact h
  ·rw [List.getElem?_eq_none h] at b;cases b
 rw [List.getElem?_take,if_pos (by omega)];exact r j v c
theorem NS.ofRow {V:View}{b c:Nat}{vm:List Value}{l:List Nd}{ty:TypeId}(hb:vm≠[]->V.bg b (.cells vm.toArray ty (0,0)))(hc:l.length<=c)(hr:NR V vm l):NS V (mA b c) l.length c l:=by
 refine ⟨rfl,hc,⟨_,?_,hr.take⟩,?_⟩
 ·intro i v a;rw [List.getElem?_take] at a;split at a
  ·rename_i f;have d:vm≠[]:=fun e=>by rw [e] at a;simp at a
   refine ⟨⟨b,0,none⟩,by unfold mA;rw [if_neg (by omega)],?_⟩;rw [add_zero'];exact blk_at (hb d) a
  ·cases a
 ·intro e;unfold mA at e;split at e
  ·assumption
  ·cases e
def R5 (V:View)(vs:List Value)(ts:List Tr):Prop:=∀(i:Nat)(t:Tr),ts[i]?=some t->∃p,vs[i]?=some (.pointer p)/\RT V p t
theorem R5.le {V V':View}{vs:List Value}{ts:List Tr}(h:R5 V vs ts)(l:V.Le V'):R5 V' vs ts:=fun i t a=>by
 obtain ⟨p,b,c⟩:=h i t a;exact ⟨p,b,c.le l⟩
def AT (V:View)(v:Value)(root:Int)(l:List Nd):Prop:=∃q n c,v=.agg #[.int .i64 root,.slice q n c]/\NS V q n c l
theorem AT.le {V V':View}{v:Value}{root:Int}{l:List Nd}(h:AT V v root l)(hl:V.Le V'):AT V' v root l:=by
 obtain ⟨q,n,c,e,h⟩:=h;exact ⟨q,n,c,e,h.le hl⟩
theorem AT.zero {V:View}:AT V (.agg #[.int .i64 0,.slice none 0 0]) 0 []:=⟨_,_,_,rfl,NS.nil⟩
theorem c_bsp_Of' {V:View}{l:List Nd}(hb:∀x∈l,Bd x.ln){v:Value}{root:Int}(h:AT V v root l) :
  Acts prog 93 #[v] V fun r V'=>∃q,r=.tuple #[.pointer q,.bool (ofT l root).isSome]/\∀t,ofT l root=some t->RT V' q t:=by
 obtain ⟨p,n,c,rfl,h⟩:=h;refine (HV hb root h).mono ?_;rintro r V' _ ⟨b,d⟩
 cases e:ofT l root with
 | none=>obtain ⟨q,rfl⟩:=b e;exact ⟨q,rfl,fun t a=>by cases a⟩
 | some t=>obtain ⟨q,rfl,f⟩:=d t e;exact ⟨q,rfl,fun g a=>by cases a;exact f⟩
theorem RQ.ofNat {V:View}{p:OA}{n c x:Nat}(h:RN V p n c x){b:Bool}(hb:b=decide ((x:Int)<0)):RQ V (.agg #[.bool b,.slice p n c,.slice none 0 0]) ((x:Int):Rat):=
 mW (z:=(x:Int)) (d:=1) rfl rfl h RD.nil hb
theorem RQ.int {V:View}{q:Rat}{b:Bool}{p:OA}{n c:Nat}{p':OA}{n' c':Nat}(h:RQ V (.agg #[.bool b,.slice p n c,.slice p' n' c']) q):RI V (.agg #[.bool b,.slice p n c]) q.num:=by
 obtain ⟨d,f,g,i,j,k,e,a,l⟩:=h;cases e;exact ⟨_,_,_,rfl,a⟩
theorem RQ.den {V:View}{q:Rat}{b:Bool}{p:OA}{n c:Nat}{p':OA}{n' c':Nat}(h:RQ V (.agg #[.bool b,.slice p n c,.slice p' n' c']) q):RD V p' n' c' (sr q.den):=by
 obtain ⟨d,f,g,i,j,k,e,l,a⟩:=h;cases e;exact a
def AM (px py qx qy:Rat):Rat×Rat×Rat:=
 let a:=-(qy-py);let b:=qx-px;let c:=-(a*px+b*py)
 let f:Rat:=(((a.den*b.den*c.den:Nat):Int):Rat)
 (a*f,b*f,c*f)
theorem N8 {n k:Nat}(h:n<2^k)(hk:0<k):Sz k (((n:Nat):Int):Rat):=by
 refine ⟨?_,?_⟩
 ·show ((n:Nat):Int).natAbs<_;simpa using h
 ·show 1<2^k;exact Nat.one_lt_two_pow (by omega)
theorem sk {V:View}{u w:Value}{px py qx qy:Rat}(hp:RP V u px py)(hq:RP V w qx qy){k:Nat}(s1:Sz k px)(s2:Sz k py)(s3:Sz k qx)(s4:Sz k qy)(hk1:1<=k)(hk:64*k+64<274877906944) :
  Acts prog 28 #[u,w] V fun r V'=>((AM px py qx qy).1.num=0/\(AM px py qx qy).2.1.num=0->∃l,r=.tuple #[l,.bool false]/\RL V' l 0 0 0) /\
   (¬((AM px py qx qy).1.num=0/\(AM px py qx qy).2.1.num=0)->∃l,r=.tuple #[l,.bool true] /\
    RL V' l ((AM px py qx qy).1.num / (iu (AM px py qx qy).1.num (AM px py qx qy).2.1.num (AM px py qx qy).2.2.num:Int)) ((AM px py qx qy).2.1.num / (iu (AM px py qx qy).1.num (AM px py qx qy).2.1.num (AM px py qx qy).2.2.num:Int)) ((AM px py qx qy).2.2.num / (iu (AM px py qx qy).1.num (AM px py qx qy).2.1.num (AM px py qx qy).2.2.num:Int))):=by
 have L:=hp;have N:=hq;obtain ⟨p1,n1,c1,p2,n2,c2,p3,n3,c3,p4,n4,c4,rfl,i,j⟩:=hp;obtain ⟨q1,m1,e1,q2,m2,e2,q3,m3,e3,q4,m4,e4,rfl,-,-⟩:=hq;refine qY _ p1 n1 c1 p2 n2 c2 _ p3 n3 c3 p4 n4 c4 _ q1 m1 e1 q2 m2 e2 _ q3 m3 e3 q4 m4 e4 V _ fun V1 O=>(BE (N.le O) (L.le O) s3 s4 s1 s2 hk1 (by omega)).mono ?_;rintro r V2 l2 ⟨a1,a2,a3,a4,a5,a6,a7,a8,a9,b8,b9,c0,rfl,m,hd⟩;have n:Sz (k+k+1) (qx-px):=s3.sub s1;have td:Sz (k+k+1) (qy-py):=s4.sub s2;have x:=O.trans l2;refine ⟨_,_,_,_,_,_,_,_,_,_,_,_,_,_,rfl,fun V3 y=>(jG (qy-py) (by obtain ⟨_,_,_,_,_,_,e,P,h2⟩:=hd.le y;cases e;exact P) (RQ.den (hd.le y))).mono ?_⟩;rintro r V4 Q t;obtain ⟨b1,b2,b3,b4,b5,b6,rfl⟩:=t.shape;have o:=td.neg;have Tq:AM px py qx qy=(-(qy-py)*(((((-(qy-py)).den*(qx-px).den*(-(-(qy-py)*px+(qx-px)*py)).den:Nat):Int):Rat)),(qx-px)*(((((-(qy-py)).den*(qx-px).den*(-(-(qy-py)*px+(qx-px)*py)).den:Nat):Int):Rat)),(-(-(qy-py)*px+(qx-px)*py))*(((((-(qy-py)).den*(qx-px).den*(-(-(qy-py)*px+(qx-px)*py)).den:Nat):Int):Rat))):=rfl;rw [Tq];generalize -(qy-py)=A at *;generalize qx-px=B at *
 replace m:=m.le (y.trans Q)
 replace i:=i.le (x.trans (y.trans Q))
 replace j:=j.le (x.trans (y.trans Q))
 refine ⟨_,_,_,_,_,_,_,rfl,fun V5 z=>(aI (t.le z) (i.le z) o s1 (by omega)).mono ?_⟩;rintro r V6 R g6;obtain ⟨d1,d2,d3,d4,d5,d6,rfl⟩:=g6.shape;refine ⟨_,_,_,_,_,_,_,rfl,fun V7 F=>(aI (m.le (z.trans (R.trans F))) (j.le (z.trans (R.trans F))) n s2 (by omega)).mono ?_⟩;rintro r V8 l8 g8;obtain ⟨f1,f2,f3,f4,f5,f6,rfl⟩:=g8.shape;refine ⟨_,_,_,_,_,_,_,rfl,fun V9 S=>(cS (g6.le (F.trans (l8.trans S))) (g8.le S) (o.mul s1) (n.mul s2) (by omega)).mono ?_⟩;rintro r c5 T p;have G:=((o.mul s1).add (n.mul s2)).neg;obtain ⟨i1,i2,i3,i4,i5,i6,rfl⟩:=p.shape;refine ⟨_,_,_,_,_,_,_,rfl,fun c6 q=>(jG (A*px+B*py) (by obtain ⟨_,_,_,_,_,_,e,P,h2⟩:=p.le q;cases e;exact P) (RQ.den (p.le q))).mono ?_⟩;rintro r c7 U W;generalize -(A*px+B*py)=C at *;obtain ⟨j1,j2,j3,j4,j5,j6,rfl⟩:=W.shape;have KU:=z.trans (R.trans (F.trans (l8.trans (S.trans (T.trans (q.trans U))))))
 replace t:=t.le KU
 replace m:=m.le KU
 refine ⟨_,_,_,_,_,_,_,rfl,fun c8 f=>(ch A _ (RQ.den (t.le f))).mono ?_⟩;rintro r c9 X ⟨k1,k2,k3,rfl,Y⟩;refine ⟨_,_,_,rfl,fun d0 H=>(ch B _ (RQ.den (m.le (f.trans (X.trans H))))).mono ?_⟩;rintro r j9 Z ⟨k4,k5,k6,rfl,a0⟩;obtain ⟨-,da,-⟩:=b_ o;obtain ⟨-,db,-⟩:=b_ n;obtain ⟨-,dc,-⟩:=b_ G;refine ⟨_,_,_,rfl,fun ng I=>(bZ (Y.le (H.trans (Z.trans I))) (a0.le I) (by omega)).mono ?_⟩;rintro r oo dk ⟨k7,k8,k9,rfl,D⟩;rw [ab,ab] at D;refine ⟨_,_,_,rfl,fun se d_=>(ch C _ (RQ.den (W.le (f.trans (X.trans (H.trans (Z.trans (I.trans (dk.trans d_))))))))).mono ?_⟩;rintro r DB gY ⟨d7,d8,d9,rfl,b0⟩;have e0:=gV (a:=A.den) (b:=B.den);refine ⟨_,_,_,rfl,fun pZ fN=>(bZ (D.le (d_.trans (gY.trans fN))) (b0.le fN) (by omega)).mono ?_⟩;rintro r rf iN ⟨e5,e6,e7,rfl,E⟩;rw [ab,ab] at E;have v:Sz (k+k+1+(k+k+1)+(k+k+1+k+1+(k+k+1+k+1)+1)) (((A.den*B.den*C.den:Nat):Int):Rat):=N8 (bD (bD o.2 n.2) G.2) (by omega);generalize A.den*B.den*C.den=M at *;refine ⟨_,_,_,rfl,fun tE fV=>(qj (E.le fV)).mono ?_⟩;rintro r Ge my ⟨e8,e9,f0,rfl,b7⟩;have hf:=RQ.ofNat b7 rfl;have NA:=f.trans (X.trans (H.trans (Z.trans (I.trans (dk.trans (d_.trans (gY.trans (fN.trans (iN.trans (fV.trans my))))))))));refine ⟨_,_,_,_,rfl,fun DH c=>(aI (t.le (NA.trans c)) (hf.le c) o v (by omega)).mono ?_⟩;rintro r LS g VQ;obtain ⟨o1,o2,o3,o4,o5,o6,rfl⟩:=VQ.shape;refine ⟨_,_,_,_,_,_,_,rfl,fun Oh d=>(aI (m.le (NA.trans (c.trans (g.trans d)))) (hf.le (c.trans (g.trans d))) n v (by omega)).mono ?_⟩;rintro r Oi Ae VS;obtain ⟨o7,o8,o9,f7,f8,f9,rfl⟩:=VS.shape;refine ⟨_,_,_,_,_,_,_,rfl,fun Rj J=>(aI (W.le (NA.trans (c.trans (g.trans (d.trans (Ae.trans J)))))) (hf.le (c.trans (g.trans (d.trans (Ae.trans J))))) G v (by omega)).mono ?_⟩;rintro r Kl wD oL;obtain ⟨t1,t2,t3,t4,t5,t6,rfl⟩:=oL.shape;refine ⟨_,_,_,_,_,_,_,rfl,fun R6 FF=>(wO (RQ.int (VQ.le (d.trans (Ae.trans (J.trans (wD.trans FF)))))) (RQ.int (VS.le (J.trans (wD.trans FF)))) (RQ.int (oL.le FF)) (Nat.le_trans (b_ (o.mul v)).1 (by omega)) (Nat.le_trans (b_ (n.mul v)).1 (by omega)) (Nat.le_trans (b_ (G.mul v)).1 (by omega))).mono ?_⟩;rintro r Rk FG ⟨z1,z2⟩;by_cases K:(A*((M:Int):Rat)).num=0/\(B*((M:Int):Rat)).num=0
 ·obtain ⟨l,rfl,y1,y2,y3,y4,y5,y6,y7,y8,y9,rfl,w1,w2,w3⟩:=z1 K;exact ⟨_,_,_,_,_,_,_,_,_,_,_,_,_,rfl,fun OK s=>⟨fun _=>⟨_,rfl,_,_,_,_,_,_,_,_,_,rfl,w1.le s,w2.le s,w3.le s⟩,fun h=>absurd K h⟩⟩
 ·obtain ⟨l,rfl,y1,y2,y3,y4,y5,y6,y7,y8,y9,rfl,w1,w2,w3⟩:=z2 K;exact ⟨_,_,_,_,_,_,_,_,_,_,_,_,_,rfl,fun OK s=>⟨fun h=>absurd h K,fun _=>⟨_,rfl,_,_,_,_,_,_,_,_,_,rfl,w1.le s,w2.le s,w3.le s⟩⟩⟩
theorem LB (x y u w:Int):AM (x:Rat) (y:Rat) ((x:Rat)+((1:Int):Rat)*(u:Rat)) ((y:Rat)+((1:Int):Rat)*(w:Rat))=(((-w:Int):Rat),((u:Int):Rat),((w*x-u*y:Int):Rat)):=by
 have a:(x:Rat)+((1:Int):Rat)*(u:Rat)=((x+u:Int):Rat):=by rw [←Rat.intCast_mul,←Rat.intCast_add,Int.one_mul]
 have b:(y:Rat)+((1:Int):Rat)*(w:Rat)=((y+w:Int):Rat):=by rw [←Rat.intCast_mul,←Rat.intCast_add,Int.one_mul]
 rw [a,b];have c:-(((y+w:Int):Rat)-(y:Rat))=((-w:Int):Rat):=by rw [←Rat.intCast_sub,←Rat.intCast_neg];congr 1;omega
 have d:((x+u:Int):Rat)-(x:Rat)=((u:Int):Rat):=by rw [←Rat.intCast_sub];congr 1;omega
 have e:-(((-w:Int):Rat)*(x:Rat)+((u:Int):Rat)*(y:Rat))=((w*x-u*y:Int):Rat):=by
  rw [←Rat.intCast_mul,←Rat.intCast_mul,←Rat.intCast_add,←Rat.intCast_neg];congr 1;rw [Int.neg_mul];omega
 have f:(((((-w:Int):Rat).den*((u:Int):Rat).den*((w*x-u*y:Int):Rat).den:Nat):Int):Rat)=1:=rfl;unfold AM;dsimp only;rw [c,d,e,f,Rat.mul_one,Rat.mul_one,Rat.mul_one]
def Er (a b c:Int):L3:=(a / (iu a b c:Int),b / (iu a b c:Int),c / (iu a b c:Int))
def small (z:Int)(k:Nat):Bool:=decide (z.natAbs<=k)
theorem IJ:∀i:Fin 9,∀j:Fin 9,∀k:Fin 65,(i.1=4/\j.1=4)\/(okL (Er ((i.1:Int)-4) ((j.1:Int)-4) ((k.1:Int)-32))&&small (Er ((i.1:Int)-4) ((j.1:Int)-4) ((k.1:Int)-32)).1 32&&small (Er ((i.1:Int)-4) ((j.1:Int)-4) ((k.1:Int)-32)).2.1 32&&small (Er ((i.1:Int)-4) ((j.1:Int)-4) ((k.1:Int)-32)).2.2 32)=true:=by decide +kernel
theorem MS (k:Nat)(hk:6<=k){z:Int}(h:z.natAbs<=32):z.natAbs<2^k:=Nat.lt_of_le_of_lt h (Nat.lt_of_lt_of_le (by decide:32<2^6) (Nat.pow_le_pow_right (by decide) hk))
theorem OS (k:Nat)(hk:6<=k){x:L3}(h1:x.1.natAbs<=32)(h2:x.2.1.natAbs<=32)(h3:x.2.2.natAbs<=32):x.1.natAbs<2^k/\x.2.1.natAbs<2^k/\x.2.2.natAbs<2^k:=⟨MS k hk h1,MS k hk h2,MS k hk h3⟩
theorem K3 {a b c:Int}(h1:-4<=a/\a<=4)(h2:-4<=b/\b<=4)(h3:-32<=c/\c<=32)(h:¬(a=0/\b=0)):okL (Er a b c)=true/\Bd (Er a b c):=by
 have:=IJ ⟨(a+4).toNat,by omega⟩ ⟨(b+4).toNat,by omega⟩ ⟨(c+32).toNat,by omega⟩;dsimp only at this;rw [show (((a+4).toNat:Nat):Int)-4=a from by omega,show (((b+4).toNat:Nat):Int)-4=b from by omega,show (((c+32).toNat:Nat):Int)-32=c from by omega] at this;rcases this with d|d
 ·omega
 ·simp only [Bool.and_eq_true,small,decide_eq_true_eq] at d;exact ⟨d.1.1.1,OS 1000 (by decide) d.1.1.2 d.1.2 d.2⟩
theorem IU {x y:Int}(h1:-4<=x/\x<=4)(h2:-4<=y/\y<=4):-16<=x*y/\x*y<=16:=by
 have:(x*y).natAbs<=4*4:=by rw [Int.natAbs_mul];exact Nat.mul_le_mul (by omega) (by omega)
 omega
theorem pY {V:View}{v:Value}{a b c:Int}(h:RL V v a b c):∃(b1:Bool)(p1:OA)(n1 c1:Nat)(b2:Bool)(p2:OA)(n2 c2:Nat)(b3:Bool)(p3:OA)(n3 c3:Nat),v=.agg #[.bool b1,.slice p1 n1 c1,.bool b2,.slice p2 n2 c2,.bool b3,.slice p3 n3 c3]:=by
 obtain ⟨p,n,s,d,f,g,q,m,e,rfl,-⟩:=h;exact ⟨_,_,_,_,_,_,_,_,_,_,_,_,rfl⟩
def Gd (V:View)(p:OA)(n:Nat):Prop:=∀i,i<n->∃(a:Addr)(x:Int),addrAdd p (i*1)=some a/\V.at a (.int .i64 x)
theorem Gd.le {V V':View}{p:OA}{n:Nat}(h:Gd V p n)(l:V.Le V'):Gd V' p n:=fun i b=>by
 obtain ⟨a,x,e,c⟩:=h i b;exact ⟨a,x,e,l.at c⟩
def kY (V:View)(tb:Nat)(p:OA)(n c:Nat)(at_:Int):Prop:=V.w.heap[tb]?=some (.cells #[.slice p n c,.int .i64 at_] 102 (0,0))
theorem ji {V:View}{tb:Nat}{p:OA}{n c:Nat}{at_:Int}(k:Int)(hr:Gd V p n)(hn:n<=400)(hw:kY V tb p n c at_)(hx:V.X tb)(h0:0<=at_)(hk:0<k)(hk2:k<=1000) :
  Acts prog 37 #[.pointer (some ⟨tb,0,none⟩),.int .i64 k] V fun r V'=>∃x at',r=.int .i64 x/\0<=x/\x<k/\0<=at'/\kY V' tb p n c at':=by
 refine og tb p n c at_ k V _ hw hx ⟨fun g m o e=>⟨0,at_,rfl,by omega,hk,h0,e⟩,fun g=>?_⟩;have g:at_<n:=by have:=of_decide_eq_false g;omega
 obtain ⟨i,rfl⟩:∃i:Nat,at_=i:=⟨at_.toNat,by omega⟩;obtain ⟨a,x,d,f⟩:=hr i (by omega)
 have h:p.isSome=true:=by
  cases p with
  | none=>simp [addrAdd] at d
  | some a=>rfl
 have q:(x.tmod k).natAbs<k.natAbs:=by rw [Int.natAbs_tmod];exact Nat.mod_lt _ (by omega)
 have j:i64.wrap ((i:Int)+1)=((i+1:Nat):Int):=by rw [i64w (by omega)];omega
 rw [Int.toNat_natCast,j];have l:i64.wrap (x.tmod k+k)=x.tmod k+k:=i64w (by omega);refine ⟨h,⟨by omega,by omega⟩,x,⟨a,d,f⟩,by omega,fun b V2 s e=>⟨x.tmod k+k,_,by rw [l],?_,?_,?_,e⟩,fun b t u e=>⟨_,_,rfl,?_,?_,?_,e⟩⟩
 ·omega
 ·have:=of_decide_eq_true b;omega
 ·omega
 ·have:=of_decide_eq_false b;omega
 ·omega
 ·omega
theorem VG {V:View}{tb:Nat}{p:OA}{n c:Nat}{at_:Int}(hr:Gd V p n)(hn:n<=400)(hw:kY V tb p n c at_)(hx:V.X tb)(h0:0<=at_) :
  Acts prog 90 #[.pointer (some ⟨tb,0,none⟩)] V fun r V'=>∃(x y at':Int),RP V' r (x:Rat) (y:Rat)/\(-4<=x/\x<=4)/\(-4<=y/\y<=4)/\0<=at'/\kY V' tb p n c at':=by
 refine sS tb p n c at_ V _ hw hx fun k i a l m=>(ji (V:=k.lend [a]) 9 (hr.le fun b o h=>i b o h) hn l ⟨by simp,m⟩ h0 (by omega) (by omega)).mono ?_;rintro r V2 q ⟨x,B,rfl,C,D,t1,d⟩;refine ⟨_,rfl,_,_,_,_,d,fun s t u v w=>(ji (V:=s.lend [u]) 9 (hr.le fun b o h=>t b o (q b o (i b o h))) hn v ⟨by simp,w⟩ t1 (by omega) (by omega)).mono ?_⟩;rintro r E F ⟨y,e,rfl,G,H,t2,f⟩;refine ⟨_,rfl,_,_,_,_,f,fun I J=>?_⟩;rw [i64w (x:=x-4) (by omega),i64w (x:=y-4) (by omega)];refine (tV (x-4) (y-4) (by omega) (by omega) (by omega) (by omega)).mono ?_;rintro r K L j;have g:=j;obtain ⟨M,N,O,P,Q,R,S,T,U,W,Y,Z,rfl,-⟩:=j;exact ⟨_,_,_,_,_,_,_,_,_,_,_,_,_,_,rfl,fun V7 z A=>⟨x-4,y-4,e,g.le z,⟨by omega,by omega⟩,⟨by omega,by omega⟩,t2,A⟩⟩
theorem RQ.zero {V:View}:RQ V (.agg #[.bool false,.slice none 0 0,.slice none 0 0]) ((0:Int):Rat):=⟨none,0,0,none,0,0,rfl,RD.nil,RD.nil⟩
theorem RP.zero {V:View}:RP V (.agg #[.bool false,.slice none 0 0,.slice none 0 0,.bool false,.slice none 0 0,.slice none 0 0]) ((0:Int):Rat) ((0:Int):Rat):=
 ⟨none,0,0,none,0,0,none,0,0,none,0,0,rfl,RQ.zero,RQ.zero⟩
theorem DD {z:Int}(h:-40<=z/\z<=40):Sz 10 (z:Rat):=AK (by omega) (by omega)
theorem Yf {V:View}{tb:Nat}{p:OA}{n c:Nat}{at_:Int}(hr:Gd V p n)(hn:n<=400)(hw:kY V tb p n c at_)(hx:V.X tb)(h0:0<=at_) :
  Acts prog 92 #[.pointer (some ⟨tb,0,none⟩)] V fun r V'=>∃(x y at':Int),RP V' r (x:Rat) (y:Rat)/\(-4<=x/\x<=4)/\(-4<=y/\y<=4)/\¬(x=0/\y=0)/\0<=at'/\kY V' tb p n c at':=by
 refine sW tb p n c at_ V _ hw hx fun s t d u v=>(VG (V:=s.lend [d]) (hr.le fun b o h=>t b o h) hn u ⟨by simp,v⟩ h0).mono ?_;rintro r V2 P ⟨x,y,k,l,e,f,t1,i⟩;have a:=l;obtain ⟨w,z,A,B,C,D,E,F,G,H,I,J,rfl,-⟩:=l;refine ⟨_,_,_,_,_,_,_,_,_,_,_,_,_,_,rfl,_,_,_,_,i,fun Q m=>(zN (a.le fun b o h=>m b o h) RP.zero (DD (by omega)) (DD (by omega)) (DD (by omega)) (DD (by omega)) (by omega)).mono ?_⟩;rintro r R K rfl;refine ⟨_,rfl,fun g S T=>(tV 1 0 (by omega) (by omega) (by omega) (by omega)).mono ?_,fun g U L M=>⟨x,y,k,a.le fun b o h=>L b o (K b o (m b o h)),e,f,?_,t1,M⟩⟩
 ·rintro r W Y q;have j:=q;obtain ⟨w,z,A,B,C,D,E,F,G,H,I,J,rfl,-⟩:=q;exact ⟨_,_,_,_,_,_,_,_,_,_,_,_,_,_,rfl,fun Z N O=>⟨1,0,k,j.le N,⟨by omega,by omega⟩,⟨by omega,by omega⟩,by omega,t1,O⟩⟩
 ·rintro ⟨rfl,rfl⟩;simp at g
theorem Ye {V:View}{tb:Nat}{p:OA}{n c:Nat}{at_:Int}(hr:Gd V p n)(hn:n<=400)(hw:kY V tb p n c at_)(hx:V.X tb)(h0:0<=at_) :
  Acts prog 39 #[.pointer (some ⟨tb,0,none⟩)] V fun r V'=>∃(x:L3)(at':Int),RL V' r x.1 x.2.1 x.2.2/\okL x=true/\Bd x/\0<=at'/\kY V' tb p n c at':=by
 refine sR tb p n c at_ V _ hw hx fun W I f Y Z=>(VG (V:=W.lend [f]) (hr.le fun b o h=>I b o h) hn Y ⟨by simp,Z⟩ h0).mono ?_;rintro r V2 l2 ⟨x,y,HF,J,g,i,t1,j⟩;have d:=J;obtain ⟨p1,K,c1,p2,L,c2,p3,M,c3,p4,n4,c4,rfl,-⟩:=J;refine ⟨_,_,_,_,_,_,_,_,_,_,_,_,_,_,rfl,_,_,_,_,j,fun V3 N=>(eE 1 (by omega) (by omega)).mono ?_⟩;rintro r V4 O P;have q:=P;obtain ⟨p5,n5,c5,p6,n6,c6,rfl⟩:=P.shape;refine ⟨_,_,_,_,_,_,_,rfl,fun V5 s Sg e5 h5=>(Yf (V:=V5.lend [Sg]) (hr.le fun b o h=>s b o (O b o (N b o (l2 b o (I b o h))))) hn e5 ⟨by simp,h5⟩ t1).mono ?_⟩;rintro r V6 Q ⟨u,w,t,R,v,Tv,a0,t2,z⟩;have A:=R;obtain ⟨q1,m1,d1,q2,m2,d2,q3,m3,d3,q4,m4,d4,rfl,-⟩:=R;refine ⟨_,_,_,_,_,_,_,_,_,_,_,_,_,_,rfl,_,_,_,_,z,fun B C=>?_⟩;have e:V2.Le B:=fun b o h=>C b o (Q b o (s b o (O b o (N b o h))));have P8:V4.Le B:=fun b o h=>C b o (Q b o (s b o h));have D:V6.Le B:=fun b o h=>C b o h;refine (gE (d.le e) (q.le P8) (A.le D) (k:=10) (m:=10) (DD (by omega)) (DD (by omega)) (DD (by omega)) (DD (by omega)) (DD (by omega)) (by omega)).mono ?_;rintro r V8 l8 S;have E:=S;obtain ⟨s1,i1,j1,s2,i2,j2,s3,i3,j3,s4,i4,j4,rfl,-⟩:=S;have f1:(x:Rat)+((1:Int):Rat)*(u:Rat)=((x+u:Int):Rat):=by rw [←Rat.intCast_mul,←Rat.intCast_add,Int.one_mul]
 have f2:(y:Rat)+((1:Int):Rat)*(w:Rat)=((y+w:Int):Rat):=by rw [←Rat.intCast_mul,←Rat.intCast_add,Int.one_mul]
 refine ⟨_,_,_,_,_,_,_,_,_,_,_,_,_,_,rfl,fun V9 T=>(sk (d.le (e.trans (l8.trans T))) (E.le T) (k:=10) (DD (by omega)) (DD (by omega)) (by rw [f1];exact DD (by omega)) (by rw [f2];exact DD (by omega)) (by omega) (by omega)).mono ?_⟩;rintro r a1 a2 ⟨-,h⟩;rw [LB] at h;have K:((-w:Int):Rat).num=-w:=rfl;have L:((u:Int):Rat).num=u:=rfl;have M:((w*x-u*y:Int):Rat).num=w*x-u*y:=rfl;dsimp only at h;rw [K,L,M] at h;obtain ⟨l,rfl,U⟩:=h (by omega);have m1:=IU Tv g;have m2:=IU v i;obtain ⟨k1,k2⟩:=K3 (a:=-w) (b:=u) (c:=w*x-u*y) (by omega) (by omega) (by omega) (by omega);have F:=U;obtain ⟨b1,u1,v1,w1,b2,u2,v2,w2,b3,u3,v3,w3,rfl⟩:=(pY U);exact ⟨_,_,_,_,_,_,_,_,_,_,_,_,_,rfl,fun a3 G H=>⟨Er (-w) u (w*x-u*y),t,F.le G,k1,k2,t2,H⟩⟩
def RW (V:View):OA->Tr->Prop
 | p,.leaf i=>∃(b:Nat)(c2 c3 c4 c5 c6 c7 c8 c9:Value),p=some ⟨b,0,none⟩/\V.bg b (.cells #[.bool true,.bool i,c2,c3,c4,c5,c6,c7,c8,c9] 107 (0,0))
 | p,.node l x y=>∃(b:Nat)(i:Bool)(b1:Bool)(p1:OA)(n1 c1:Nat)(b2:Bool)(p2:OA)(n2 c2:Nat)(b3:Bool)(p3:OA)(n3 c3:Nat)(pl pr:OA),p=some ⟨b,0,none⟩ /\
   V.bg b (.cells #[.bool false,.bool i,.bool b1,.slice p1 n1 c1,.bool b2,.slice p2 n2 c2,.bool b3,.slice p3 n3 c3,.pointer pl,.pointer pr] 107 (0,0)) /\
   RL V (.agg #[.bool b1,.slice p1 n1 c1,.bool b2,.slice p2 n2 c2,.bool b3,.slice p3 n3 c3]) l.1 l.2.1 l.2.2/\RW V pl x/\RW V pr y
theorem RW.le {V V':View}(h:V.Le V'):∀{t:Tr} {p:OA},RW V p t->RW V' p t
 | .leaf i,p,⟨b,c2,c3,c4,c5,c6,c7,c8,c9,e,hb⟩=>⟨b,c2,c3,c4,c5,c6,c7,c8,c9,e,h _ _ hb⟩
 | .node l x y,p,⟨b,i,b1,p1,n1,c1,b2,p2,n2,c2,b3,p3,n3,c3,pl,pr,e,hb,hl,hx,hy⟩=>⟨b,i,b1,p1,n1,c1,b2,p2,n2,c2,b3,p3,n3,c3,pl,pr,e,h _ _ hb,hl.le h,RW.le h hx,RW.le h hy⟩
theorem oF {V:View}(i:Bool):Acts prog 38 #[.bool i] V fun r V'=>∃p,r=.pointer p/\RW V' p (.leaf i):=
 xP i V _ fun c d b a=>⟨_,rfl,b,_,_,_,_,_,_,_,_,rfl,a⟩
def Okb (x:L3):Prop:=okL x=true/\Bd x
theorem MU:∀(k:Nat) {V:View} {tb:Nat} {p:OA} {n c:Nat} {at_:Int},k<=10->Gd V p n->n<=400->kY V tb p n c at_->V.X tb->0<=at_ ->
  Acts prog 10 #[.pointer (some ⟨tb,0,none⟩),.int .i64 (k:Int)] V fun r V'=>∃q t at',r=.pointer q/\RW V' q t/\t.All Okb/\t.size<2^k/\0<=at'/\kY V' tb p n c at':=by
 intro k
 induction k with
 | zero=>
  intro V tb p n c at_ _ a d hw m s;refine iG tb p n c at_ _ V _ hw m ⟨fun g V1 l1 u e1 h1=>(ji (V:=V1.lend [u]) 2 (a.le fun b o h=>l1 b o h) d e1 ⟨by simp,h1⟩ s (by omega) (by omega)).mono ?_,fun g=>by simp at g⟩;rintro r V2 l2 ⟨x,R,rfl,-,-,t1,e⟩;refine ⟨_,rfl,_,_,_,_,e,fun V3 l3=>(oF _).mono ?_⟩;rintro r V4 l4 ⟨q,rfl,v⟩;exact ⟨_,rfl,fun V5 l5 e5=>⟨_,_,R,rfl,v.le l5,trivial,by simp [Tr.size],t1,e5⟩⟩
 | succ k ih=>
  intro V tb p n c at_ hk a d hw m s;refine iG tb p n c at_ _ V _ hw m ⟨fun g=>by rw [beq_iff_eq] at g;omega,fun _ V6 S Yb e6 h6=>(ji (V:=V6.lend [Yb]) 4 (a.le fun b o h=>S b o h) d e6 ⟨by simp,h6⟩ s (by omega) (by omega)).mono ?_⟩;rintro r V7 l7 ⟨x,R,rfl,-,-,t1,e⟩;have w:V.Le V7:=fun b o h=>l7 b o (S b o h);refine ⟨_,rfl,_,_,_,_,e,fun g V8 l8 Sf e8 h8=>(ji (V:=V8.lend [Sf]) 2 (a.le fun b o h=>l8 b o (w b o h)) d e8 ⟨by simp,h8⟩ t1 (by omega) (by omega)).mono ?_,fun g y i Si z L_=>(Ye (V:=y.lend [Si]) (a.le fun b o h=>i b o (w b o h)) d z ⟨by simp,L_⟩ t1).mono ?_⟩
  ·rintro r V9 l9 ⟨x,j,rfl,-,-,t2,f⟩;refine ⟨_,rfl,_,_,_,_,f,fun a0 a1=>(oF _).mono ?_⟩;rintro r a2 a3 ⟨q,rfl,v⟩;exact ⟨_,rfl,fun a4 A B=>⟨_,_,j,rfl,v.le A,trivial,by simpa [Tr.size] using Nat.two_pow_pos _,t2,B⟩⟩
  ·rintro r C cO ⟨ln,j,T,D,E,t2,f⟩;have F:=T;obtain ⟨b1,u1,v1,w1,b2,u2,v2,w2,b3,u3,v3,w3,rfl⟩:=(pY T);have U:V.Le C:=fun b o h=>cO b o (i b o (w b o h));have wk:i64.wrap (((k+1:Nat):Int)-1)=(k:Int):=by rw [i64w (by omega)];omega
   refine ⟨_,_,_,_,_,_,_,_,_,_,_,_,rfl,_,_,_,_,f,fun G H Sj I Ma=>?_⟩;rw [wk];refine ((ih (V:=G.lend [Sj]) (by omega) (a.le fun b o h=>H b o (U b o h)) d I ⟨by simp,Ma⟩ t2).mono ?_);rintro r W Y ⟨qa,ta,a5,rfl,Ow,GP,a6,t3,J⟩;have GU:V.Le W:=fun b o h=>Y b o (H b o (U b o h));refine ⟨_,rfl,_,_,_,_,J,fun ng K Sk L YB=>(ih (V:=ng.lend [Sk]) (by omega) (a.le fun b o h=>K b o (GU b o h)) d L ⟨by simp,YB⟩ t3).mono ?_⟩;rintro r oo Z ⟨qb,Zz,M,rfl,Y2,N,a7,t4,O⟩;refine ⟨_,rfl,_,_,_,_,O,fun se P l Q hb=>⟨_,.node ln ta Zz,M,rfl,⟨l,_,_,_,_,_,_,_,_,_,_,_,_,_,_,_,rfl,hb,?_,?_,?_⟩,⟨⟨D,E⟩,GP,N⟩,?_,t4,Q⟩⟩
   ·exact F.le fun b o h=>P b o (Z b o (K b o (Y b o (H b o h))))
   ·exact RW.le (V:=W) (V':=se) (fun b o h=>P b o (Z b o (K b o h))) Ow
   ·exact RW.le (V:=oo) (V':=se) (fun b o h=>P b o h) Y2
   ·simp only [Tr.size];rw [Nat.pow_succ];omega
def Tr.depth:Tr->Nat
 | .leaf _=>0
 | .node _ a b=>1+max a.depth b.depth
theorem lE:∀t:Tr,t.depth<=t.size
 | .leaf _=>Nat.le_refl _
 | .node _ a b=>by have:=lE a;have:=lE b;simp only [Tr.depth,Tr.size];omega
theorem IM {a b:Nat}(ha:a<=1000000)(hb:b<=1000000):i64.wrap ((1:Int)+maxI (a:Int) (b:Int))=((1+max a b:Nat):Int):=by
 have:maxI (a:Int) (b:Int)=((max a b:Nat):Int):=by unfold maxI;split<;>omega
 rw [this,i64w (by omega)];omega
theorem c_bsp_Depth:∀(t:Tr) {V:View} {p:OA},RT V p t->t.size<=1000000->Acts prog 94 #[.pointer p] V fun r V'=>r=.int .i64 (t.depth:Int)
 | .leaf i,V,p,h,hs=>by
  refine ma p V _ fun V1 l1=>(c_bsp_IsLeaf (h.le l1)).mono ?_;rintro r V2 l2 rfl;exact ⟨_,rfl,fun _ V3 l3=>rfl,(fun h=>nomatch h)⟩
 | .node ln a b,V,p,h,hs=>by
  have h0:=h;refine ma p V _ fun V1 l1=>(c_bsp_IsLeaf (h0.le l1)).mono ?_;rintro r V2 l2 rfl;obtain ⟨l,m,n,o,q,s,u,v,w,x,pl,f,i,rfl,d,y,g,c⟩:=h.le (l1.trans l2);have s1:=lE a;have s2:=lE b;simp only [Tr.size] at hs;refine ⟨_,rfl,(fun h=>nomatch h),fun _=>⟨rfl,rfl,pl,rdc d 9 rfl,rfl,rfl,f,rdc d 10 rfl,fun z e=>(c_bsp_Depth a (g.le e) (by omega)).mono ?_⟩⟩;rintro r A j rfl;refine ⟨_,rfl,fun B k=>(c_bsp_Depth b (c.le (e.trans (j.trans k))) (by omega)).mono ?_⟩;rintro r C D rfl;exact ⟨_,rfl,fun E F=>by rw [IM (by omega) (by omega)];rfl⟩
def TU:Tr->Int
 | .leaf i=>if i then 0 else 1
 | .node ..=>0
theorem Ls {V:View}{p:OA}{i:Bool}(h:RW V p (.leaf i)):p.isSome=true/\(∃a,addrAdd p 0=some a/\V.at a (.bool true))/\∃a,addrAdd p 1=some a/\V.at a (.bool i):=by
 obtain ⟨b,d,e,f,g,j,k,l,m,rfl,c⟩:=h;exact ⟨rfl,rdc c 0 rfl,rdc c 1 rfl⟩
end Go.Proofs.Tryz
namespace Go.Eng
open Go.Proofs.Tryz
variable {α:Type} {sz:Nat} {R:View->Value->α->Prop} {V V':View} {d:α}
theorem Row.get {vs:List Value}{al:List α}(h:Row sz R V vs al){i:Nat}(hi:i<al.length)(hs:0<sz) :
  ∃xs:List Value,xs.length=sz/\R V (.agg xs.toArray) (al.getD i d)/\i*sz+sz<=vs.length/\(vs.drop (i*sz)).take sz=xs:=by
 obtain ⟨xs,b,c,e⟩:=h.at_ i hi;have g:=h.jn hs;have:(i+1)*sz<=al.length*sz:=Nat.mul_le_mul_right _ hi;rw [Nat.succ_mul] at this;refine ⟨xs,b,by simpa [List.getD_eq_getElem?_getD,hi] using c,by omega,?_⟩;apply List.ext_getElem?;intro j;rw [List.getElem?_take];split
 ·rename_i f;rw [List.getElem?_drop];have a:j<xs.length:=by omega
  rw [e j _ (List.getElem?_eq_getElem a),List.getElem?_eq_getElem a]
 ·rename_i f;rw [List.getElem?_eq_none (by omega)]
theorem Row.put {vs:List Value}{al:List α}(h:Row sz R V vs al){i:Nat}(hi:i<al.length)(hs:0<sz){xs:List Value}{a:α}(hx:xs.length=sz)(ha:R V (.agg xs.toArray) a) :
  Row sz R V (cI vs (i*sz) xs) (al.set i a):=by
 have r:=h.jn hs
 have l:∀k,k<al.length->k*sz+sz<=vs.length:=fun k d=>by
  have:(k+1)*sz<=al.length*sz:=Nat.mul_le_mul_right _ d;rw [Nat.succ_mul] at this;omega
 have m:=l i hi;rw [kM (by omega)];have f:(vs.take (i*sz)).length=i*sz:=by rw [List.length_take];omega
 refine ⟨fun k d=>?_⟩;rw [List.length_set] at d;by_cases e:k=i
 ·subst e;refine ⟨xs,hx,by simpa using ha,fun j x b=>?_⟩;have c:=(List.getElem?_eq_some_iff.1 b).1;rw [List.append_assoc,List.getElem?_append_right (by omega),f,Nat.add_sub_cancel_left,List.getElem?_append_left c];exact b
 ·obtain ⟨n,o,p,g⟩:=h.at_ k d;refine ⟨n,o,by rw [List.getElem_set_ne (fun q=>e q.symm)];exact p,fun j x b=>?_⟩;have c:=(List.getElem?_eq_some_iff.1 b).1;by_cases lt:k<i
  ·have:(k+1)*sz<=i*sz:=Nat.mul_le_mul_right _ lt;rw [Nat.succ_mul] at this;rw [List.append_assoc,List.getElem?_append_left (by omega),List.getElem?_take,if_pos (by omega)];exact g j x b
  ·have:(i+1)*sz<=k*sz:=Nat.mul_le_mul_right _ (by omega);rw [Nat.succ_mul] at this;rw [List.getElem?_append_right (by rw [List.length_append];omega),List.length_append,f,hx,List.getElem?_drop];rw [show i*sz+sz+(k*sz+j-(i*sz+sz))=k*sz+j by omega];exact g j x b
theorem rQ {vs xs:List Value}{o:Nat}(h:o+xs.length<=vs.length):(cI vs o xs).length=vs.length:=by
 rw [kM h];simp only [List.length_append,List.length_take,List.length_drop];omega
theorem Row.swap {vs:List Value}{al:List α}(h:Row sz R V vs al){i j:Nat}(hi:i<al.length)(hj:j<al.length)(hs:0<sz){xs ys:List Value}(hx:xs.length=sz)(hy:ys.length=sz)(h1:R V (.agg xs.toArray) (al.getD i d))(h2:R V (.agg ys.toArray) (al.getD j d)) :
  Row sz R V (cI (cI vs (i*sz) ys) (j*sz) xs) (rR d al i j):=by
 have:=h.put hi hs hy h2;exact this.put (by simpa using hj) hs hx h1
end Go.Eng
namespace Go.Proofs.Tryz
open Go.Eng Go.Big
section
variable {α:Type} (e:α->α->Bool)
def zT:α->List α->List α
 | _,[]=>[]
 | p,a::r=>if e a p then zT a r else a::zT a r
def wW:List α->List α
 | []=>[]
 | a::r=>a::zT e a r
variable {e}
theorem ue:∀{r:List α} {p:α},∀x∈zT e p r,x∈r
 | [],p,x,h=>h
 | b::r,p,x,h=>by
  unfold zT at h;split at h
  ·exact List.mem_cons_of_mem _ (ue x h)
  ·rcases List.mem_cons.1 h with rfl|h
   ·exact List.mem_cons_self ..
   ·exact List.mem_cons_of_mem _ (ue x h)
theorem H4 {l:List α}:∀x∈wW e l,x∈l:=by
 cases l with
 | nil=>exact fun x h=>h
 | cons a r=>
  intro x h;rcases List.mem_cons.1 h with rfl|h
  ·exact List.mem_cons_self ..
  ·exact List.mem_cons_of_mem _ (ue x h)
end
end Go.Proofs.Tryz
namespace Go.Eng
open Go.Proofs.Tryz
section
variable {α:Type} {sz:Nat} {R:View->Value->α->Prop} {V:View} {d:α}
end
end Go.Eng
namespace Go.Proofs.Tryz
open Go.Eng Go.Big
def RA (V:View)(v:Value)(q:Rat):Prop:=∃p n c p' n' c',v=.agg #[.bool (decide (q.num<0)),.slice p n c,.slice p' n' c']/\RD V p n c (af q.num.natAbs)/\RD V p' n' c' (af q.den)
theorem RA.le {V V':View}{v:Value}{q:Rat}(h:RA V v q)(l:V.Le V'):RA V' v q:=by
 obtain ⟨p,n,c,a,b,d,e,f,g⟩:=h;exact ⟨p,n,c,a,b,d,e,f.le l,g.le l⟩
theorem nj {V:View}(b:Bool){p q:OA}{n c m e:Nat}{xs ys:List Nat}(hx:RD V p n c xs)(hy:RD V q m e ys)(hm:xs.length<=1099511627776)(hn:ys.length<=1099511627776) :
  Acts prog 105 #[.agg #[.bool b,.slice p n c,.slice q m e]] V fun r V'=>RR V' r (mkRat (aQ b xs) (val ys)):=by
 refine EV b p n c q m e V _ fun f a=>(bY b (hx.le a) (hy.le a) hm hn).mono ?_;rintro r V2 g h;obtain ⟨u,v,w,rfl⟩:=h.shape;exact ⟨_,_,_,rfl,fun i d=>h.le d⟩
theorem yl {V:View}{v:Value}{q:Rat}(h:RA V v q){k:Nat}(hs:Sz k q)(hk:k<=1099511627776):Acts prog 105 #[v] V fun r V'=>RR V' r q:=by
 obtain ⟨p,n,c,d,e,f,rfl,a,b⟩:=h;have g:=ae hs.1;have i:=ae hs.2;refine (nj _ a b (by omega) (by omega)).mono ?_;rintro r V' _ h;rw [aA,ab,Rat.mkRat_self] at h;exact h
theorem iP {V:View}{v w:Value}{x y:Rat}(hx:RR V v x)(hy:RR V w y){k m:Nat}(hk:Sz k x)(hm:Sz m y)(hkm:k+m<1099511627776) :
  Acts prog 219 #[v,w] V fun r V'=>RR V' r (x*y):=by
 obtain ⟨Y,Z,r2,rfl⟩:=hx.shape;obtain ⟨s0,s1,s2,rfl⟩:=hy.shape;have j:x*y=mkRat (x.num*y.num) (x.den*y.den):=Rat.mul_def' x y;have b1:(x.num*y.num).natAbs<2^(k+m):=by rw [Int.natAbs_mul,Nat.pow_add];exact Nat.mul_lt_mul'' hk.1 hm.1
 have b2:x.den*y.den<2^(k+m):=by rw [Nat.pow_add];exact Nat.mul_lt_mul'' hk.2 hm.2
 have q1:=ae hk.1;have q2:=ae hk.2;have q3:=ae hm.1;have q4:=ae hm.2;have q5:=ae b1;have q6:=ae b2;refine xh Y Z r2 s0 s1 s2 V _ ⟨fun hr=>⟨fun _ _=>True,⟨fun hs=>?_,fun _=>⟨(),by (try dsimp only);and_intros<;>trivial,trivial⟩⟩,fun _ V8 l8 _=>⟨rfl,fun V9 Zi=>?_⟩⟩,fun _ V9 l=>?_⟩
 ·rcases hx with ⟨ex,W⟩|⟨a,b,p,n,c,p',n',c',ex,-,-,-,-,-,W⟩
  ·rcases hy with ⟨t,X⟩|⟨a,b,p,n,c,p',n',c',t,-,-,-,-,-,X⟩
   ·simp only [Value.agg.injEq,Array.mk.injEq,List.cons.injEq,Value.int.injEq,Value.pointer.injEq,true_and,and_true] at ex t;obtain ⟨rfl,rfl,rfl⟩:=ex;obtain ⟨rfl,rfl,rfl⟩:=t;obtain ⟨Q5,Xm⟩:=W;obtain ⟨Q6,Xn⟩:=X;have dx:=x.den_nz;have dy:=y.den_nz;have e1:i64.wrap ((x.den:Int)-1+1)=x.den:=by rw [i64w (by omega)];omega
    have e2:i64.wrap ((y.den:Int)-1+1)=y.den:=by rw [i64w (by omega)];omega
    rw [e1,e2];intro V1 l1;refine (fE _ _ Q5 Q6).mono ?_;rintro r V2 l2 ⟨z1,rfl,E⟩;refine ⟨_,_,rfl,fun V3 l3=>(fE _ _ (by omega) (by omega)).mono ?_⟩;rintro r V4 l4 ⟨z2,rfl,F⟩;refine ⟨_,_,rfl,fun t1=>⟨fun t2 V5 l5=>?_,fun _=>⟨(),by (try dsimp only);and_intros<;>trivial,trivial⟩⟩,fun _=>⟨(),by (try dsimp only);and_intros<;>trivial,trivial⟩⟩;have t1:=of_decide_eq_true t1;have t2:=of_decide_eq_true t2;rw [E t1,F t2];have hd:((x.den:Int)*(y.den:Int))=((x.den*y.den:Nat):Int):=(Int.natCast_mul ..).symm;rw [hd] at t2 ⊢;refine (mQ _ _ t1 (by rwa [Int.natAbs_natCast] at t2) (Nat.mul_ne_zero dx dy)).mono ?_;rintro r V6 l6 G;rw [←j] at G;obtain ⟨n,d,p,rfl⟩:=G.shape;exact ⟨_,_,_,rfl,fun V7 l7=>G.le l7⟩
   ·simp only [Value.agg.injEq,Array.mk.injEq,List.cons.injEq,Value.int.injEq,Value.pointer.injEq,true_and,and_true] at t;obtain ⟨rfl,rfl,rfl⟩:=t;cases hs
  ·simp only [Value.agg.injEq,Array.mk.injEq,List.cons.injEq,Value.int.injEq,Value.pointer.injEq,true_and,and_true] at ex;obtain ⟨rfl,rfl,rfl⟩:=ex;cases hr
 ·have l:=l8.trans Zi;refine (fC (hx.le l) hk (by omega)).mono ?_;rintro r H h ⟨p1,n1,c1,rfl,I⟩;refine ⟨_,_,_,_,rfl,fun J e=>(fC (hy.le (l.trans (h.trans e))) hm (by omega)).mono ?_⟩;rintro r K i ⟨p2,n2,c2,rfl,L⟩;refine ⟨_,_,_,_,rfl,fun M f=>(gg _ _ (I.le (e.trans (i.trans f))) (L.le f) (by omega)).mono ?_⟩;rintro r N O u;rw [aA,aA] at u;obtain ⟨p3,n3,c3,rfl,P⟩:=u;have z:=l.trans (h.trans (e.trans (i.trans (f.trans O))));refine ⟨_,_,_,_,rfl,fun Q o=>(eO (hx.le (z.trans o)) hk (by omega)).mono ?_⟩;rintro r j9 A ⟨p4,n4,c4,rfl,R⟩;refine ⟨_,_,_,rfl,fun ng q=>(eO (hy.le (z.trans (o.trans (A.trans q)))) hm (by omega)).mono ?_⟩;rintro r oo B ⟨p5,n5,c5,rfl,S⟩;refine ⟨_,_,_,rfl,fun se s=>(fR (R.le (q.trans (B.trans s))) (S.le s) (by omega)).mono ?_⟩;rintro r DB T ⟨p6,n6,c6,rfl,C⟩;rw [ab,ab] at C;refine ⟨_,_,_,rfl,fun pZ D=>(bY _ (P.le (o.trans (A.trans (q.trans (B.trans (s.trans (T.trans D))))))) (C.le D) (by omega) (by omega)).mono ?_⟩;rintro r rf iN g;rw [aA,ab,←j] at g;obtain ⟨n,d,p,rfl⟩:=g.shape;exact ⟨_,_,_,rfl,fun tE U=>g.le U⟩
 ·skip
  refine (fC (hx.le l) hk (by omega)).mono ?_;rintro r H h ⟨p1,n1,c1,rfl,I⟩;refine ⟨_,_,_,_,rfl,fun J e=>(fC (hy.le (l.trans (h.trans e))) hm (by omega)).mono ?_⟩;rintro r K i ⟨p2,n2,c2,rfl,L⟩;refine ⟨_,_,_,_,rfl,fun M f=>(gg _ _ (I.le (e.trans (i.trans f))) (L.le f) (by omega)).mono ?_⟩;rintro r N O u;rw [aA,aA] at u;obtain ⟨p3,n3,c3,rfl,P⟩:=u;have z:=l.trans (h.trans (e.trans (i.trans (f.trans O))));refine ⟨_,_,_,_,rfl,fun Q o=>(eO (hx.le (z.trans o)) hk (by omega)).mono ?_⟩;rintro r j9 A ⟨p4,n4,c4,rfl,R⟩;refine ⟨_,_,_,rfl,fun ng q=>(eO (hy.le (z.trans (o.trans (A.trans q)))) hm (by omega)).mono ?_⟩;rintro r oo B ⟨p5,n5,c5,rfl,S⟩;refine ⟨_,_,_,rfl,fun se s=>(fR (R.le (q.trans (B.trans s))) (S.le s) (by omega)).mono ?_⟩;rintro r DB T ⟨p6,n6,c6,rfl,C⟩;rw [ab,ab] at C;refine ⟨_,_,_,rfl,fun pZ D=>(bY _ (P.le (o.trans (A.trans (q.trans (B.trans (s.trans (T.trans D))))))) (C.le D) (by omega) (by omega)).mono ?_⟩;rintro r rf iN g;rw [aA,ab,←j] at g;obtain ⟨n,d,p,rfl⟩:=g.shape;exact ⟨_,_,_,rfl,fun tE U=>g.le U⟩
theorem inv_neg {q:Rat}(h:q.num<0):(q⁻¹).num=-(q.den:Int)/\(q⁻¹).den=q.num.natAbs:=by
 show (Rat.inv q).num=_/\(Rat.inv q).den=_;unfold Rat.inv;rw [dif_pos h];exact ⟨rfl,rfl⟩
theorem inv_pos {q:Rat}(h:0<q.num):(q⁻¹).num=(q.den:Int)/\(q⁻¹).den=q.num.natAbs:=by
 show (Rat.inv q).num=_/\(Rat.inv q).den=_;unfold Rat.inv;rw [dif_neg (by omega),dif_pos h];exact ⟨rfl,rfl⟩
theorem inv_zero {q:Rat}(h:q.num=0):q⁻¹=0:=by
 have:q=0:=Rat.num_eq_zero.1 h;subst this;exact Rat.inv_zero
theorem dJ {k:Nat}{q:Rat}(h:Sz k q):Sz k q⁻¹:=by
 rcases Int.lt_trichotomy q.num 0 with a|a|a
 ·obtain ⟨b,c⟩:=inv_neg a;refine ⟨?_,?_⟩
  ·rw [b,Int.natAbs_neg];exact h.2
  ·rw [c];exact h.1
 ·rw [inv_zero a];exact ⟨Nat.two_pow_pos _,Nat.lt_of_le_of_lt (Nat.pos_of_ne_zero q.den_nz) h.2⟩
 ·obtain ⟨b,c⟩:=inv_pos a;exact ⟨by rw [b];exact h.2,by rw [c];exact h.1⟩
theorem Ku {V:View}{v:Value}{q:Rat}(h:RR V v q){k:Nat}(hs:Sz k q)(hk:k<=1099511627776):Acts prog 236 #[v] V fun r V'=>RR V' r q⁻¹:=by
 rcases h with ⟨rfl,hw⟩|⟨a,b,p,n,c,s,t,y,rfl,z,A,B,C,D,hw⟩
 ·obtain ⟨l,m⟩:=hw;have H:=q.den_nz;refine mZ _ _ _ V _ ⟨(fun d=>nomatch d),fun _=>⟨fun g I J=>?_,fun g=>⟨fun j K L=>?_,fun j M N=>?_⟩⟩⟩
  ·have g:=of_decide_eq_true g;obtain ⟨f,i⟩:=inv_neg g;refine .inl ⟨?_,?_⟩
   ·rw [f,i,i64w (x:=(q.den:Int)-1+1) (by omega),i64w (x:=0-q.num) (by omega),i64w (x:=0-((q.den:Int)-1+1)) (by omega),i64w (by omega)];congr 4
    ·omega
    ·congr 1;omega
   ·unfold Wd;rw [f,i,Int.natAbs_neg];exact ⟨m,l⟩
  ·have j:q.num=0:=by simpa using j
   rw [inv_zero j];exact .inl ⟨rfl,by decide,by decide⟩
  ·have g:¬q.num<0:=of_decide_eq_false g;have j:q.num≠0:=by simpa using j
   obtain ⟨f,i⟩:=inv_pos (q:=q) (by omega);refine .inl ⟨?_,?_⟩
   ·rw [f,i,i64w (x:=(q.den:Int)-1+1) (by omega),i64w (by omega)];congr 4
    ·omega
    ·congr 1;omega
   ·unfold Wd;rw [f,i];exact ⟨m,l⟩
 ·obtain ⟨rfl,E⟩:=C.inv;have O:=ae hs.1;have P:=ae hs.2;refine mZ _ _ _ V _ ⟨fun _=>⟨rfl,rfl,rfl,decide (q.num<0),⟨a.add 0,by simp [addrAdd,Addr.add],z⟩,rfl,rfl,s,t,y,⟨a.add 2,rfl,B⟩,rfl,rfl,rfl,p,n,c,⟨a.add 1,by simp [addrAdd,Addr.add],A⟩,fun Q o=>(bY _ (D.le o) (E.le o) (by omega) (by omega)).mono ?_⟩,fun d=>nomatch d⟩;rintro r V2 R h
  have e:mkRat (aQ (decide (q.num<0)) (af q.den)) (val (af q.num.natAbs))=q⁻¹:=by
   rw [ab]
   have F:aQ (decide (q.num<0)) (af q.den)=if q.num<0 then -(q.den:Int) else (q.den:Int):=by
    unfold aQ;rw [ab];by_cases g:q.num<0<;>simp [g]
   rw [F];rcases Int.lt_trichotomy q.num 0 with d|d|d
   ·obtain ⟨f,i⟩:=inv_neg d;rw [if_pos d,←f,←i,Rat.mkRat_self]
   ·rw [inv_zero d,d];simp
   ·obtain ⟨f,i⟩:=inv_pos d;rw [if_neg (by omega),←f,←i,Rat.mkRat_self]
  rw [e] at h;obtain ⟨u,v,w,rfl⟩:=h.shape;exact ⟨_,_,_,rfl,fun S G=>h.le G⟩
theorem zH {V:View}{v w:Value}{x y:Rat}(hx:RR V v x)(hy:RR V w y){k m:Nat}(hk:Sz k x)(hm:Sz m y)(hkm:k+m<1099511627776) :
  Acts prog 213 #[v,w] V fun r V'=>RR V' r (x*y⁻¹):=by
 have a:=hx;have b:=hy;obtain ⟨h,i,j,rfl⟩:=hx.shape;obtain ⟨l,s1,s2,rfl⟩:=hy.shape;refine xi h i j l s1 s2 V _ fun q d=>(Ku (b.le d) hm (by omega)).mono ?_;rintro r V2 n e;have c:=e;obtain ⟨u,v,w,rfl⟩:=e.shape;refine ⟨_,_,_,rfl,fun s f=>(iP (a.le (d.trans (n.trans f))) (c.le f) hk (dJ hm) hkm).mono ?_⟩;rintro r t z g;have o:=g;obtain ⟨u,v,w,rfl⟩:=g.shape;exact ⟨_,_,_,rfl,fun A p=>o.le p⟩
def RPt (V:View)(v:Value)(x y:Rat):Prop:=∃(x1 x2:Int)(p:OA)(y1 y2:Int)(q:OA),v=.agg #[.int .i64 x1,.int .i64 x2,.pointer p,.int .i64 y1,.int .i64 y2,.pointer q] /\
 RR V (.agg #[.int .i64 x1,.int .i64 x2,.pointer p]) x/\RR V (.agg #[.int .i64 y1,.int .i64 y2,.pointer q]) y
theorem RPt.le {V V':View}{v:Value}{x y:Rat}(h:RPt V v x y)(l:V.Le V'):RPt V' v x y:=by
 obtain ⟨a,b,p,c,d,q,e,f,g⟩:=h;exact ⟨a,b,p,c,d,q,e,f.le l,g.le l⟩
theorem zK {V:View}{p:Value}{fy fA:Rat}{q:Value}{o_ pf:Rat}(hp:RPt V p fy fA)(hq:RPt V q o_ pf){k:Nat}(dH:Sz k fy)(dI:Sz k fA)(kP:Sz k o_)(kQ:Sz k pf)(hk:2*k+1<274877906944) :
  Acts prog 233 #[p,q] V fun r V'=>RPt V' r ((fy)+(o_)) ((fA)+(pf)):=by
 have i:=hp;obtain ⟨j,l,m,n,o,s,rfl,t,u⟩:=hp;have v:=hq;obtain ⟨w,x,y,z,A,B,rfl,C,D⟩:=hq;refine xA j l m n o s w x y z A B V _ fun F a=>(ke (t.le (a)) (C.le (a)) dH kP (by omega)).mono ?_;rintro r V2 e f;have b:=f;obtain ⟨G,H,I,rfl⟩:=f.shape;refine ⟨_,_,_,rfl,fun J c=>(ke (u.le (a.trans (e.trans (c)))) (D.le (a.trans (e.trans (c)))) dI kQ (by omega)).mono ?_⟩;rintro r K E g;have d:=g;obtain ⟨L,M,N,rfl⟩:=g.shape;exact ⟨_,_,_,rfl,fun O h=>⟨_,_,_,_,_,_,rfl,(b.le (c.trans (E.trans (h)))),(d.le (h))⟩⟩
theorem wo {fy fA o_ pf:Rat}{k:Nat}(dH:Sz k fy)(dI:Sz k fA)(kP:Sz k o_)(kQ:Sz k pf):Sz (2*k+1) ((fy)+(o_)):=by
 have a:=Sz.mono (m:=2*k+1) (Sz.add dH kP) (by omega);exact Sz.mono a (by omega)
theorem wq {fy fA o_ pf:Rat}{k:Nat}(dH:Sz k fy)(dI:Sz k fA)(kP:Sz k o_)(kQ:Sz k pf):Sz (2*k+1) ((fA)+(pf)):=by
 have a:=Sz.mono (m:=2*k+1) (Sz.add dI kQ) (by omega);exact Sz.mono a (by omega)
theorem ll {V:View}{p:Value}{fy fA:Rat}{c:Value}{J_:Rat}(hp:RPt V p fy fA)(hc:RR V c J_){k:Nat}(dH:Sz k fy)(dI:Sz k fA)(Hd:Sz k J_)(hk:2*k+1<274877906944) :
  Acts prog 234 #[p,c] V fun r V'=>RPt V' r ((fy)*(J_)) ((fA)*(J_)):=by
 have l:=hp;obtain ⟨m,n,o,q,s,t,rfl,u,v⟩:=hp;have a:=hc;obtain ⟨w,x,y,rfl⟩:=hc.shape;refine sM m n o q s t w x y V _ fun A b=>(iP (u.le (b)) (a.le (b)) dH Hd (by omega)).mono ?_;rintro r V2 g h;have d:=h;obtain ⟨B,C,D,rfl⟩:=h.shape;refine ⟨_,_,_,rfl,fun E e=>(iP (v.le (b.trans (g.trans (e)))) (a.le (b.trans (g.trans (e)))) dI Hd (by omega)).mono ?_⟩;rintro r F z i;have f:=i;obtain ⟨G,H,I,rfl⟩:=i.shape;exact ⟨_,_,_,rfl,fun J j=>⟨_,_,_,_,_,_,rfl,(d.le (e.trans (z.trans (j)))),(f.le (j))⟩⟩
theorem dV {fy fA J_:Rat}{k:Nat}(dH:Sz k fy)(dI:Sz k fA)(Hd:Sz k J_):Sz (2*k+1) ((fy)*(J_)):=by
 have a:=Sz.mono (m:=2*k+1) (Sz.mul dH Hd) (by omega);exact Sz.mono a (by omega)
theorem dW {fy fA J_:Rat}{k:Nat}(dH:Sz k fy)(dI:Sz k fA)(Hd:Sz k J_):Sz (2*k+1) ((fA)*(J_)):=by
 have a:=Sz.mono (m:=2*k+1) (Sz.mul dI Hd) (by omega);exact Sz.mono a (by omega)
theorem kj {V:View}{p:Value}{fy fA:Rat}{q:Value}{o_ pf:Rat}(hp:RPt V p fy fA)(hq:RPt V q o_ pf){k:Nat}(dH:Sz k fy)(dI:Sz k fA)(kP:Sz k o_)(kQ:Sz k pf)(hk:4*k+3<274877906944) :
  Acts prog 174 #[p,q] V fun r V'=>RR V' r (((fy)*(o_))+((fA)*(pf))):=by
 have j:=hp;obtain ⟨l,n,o,s,t,u,rfl,v,w⟩:=hp;have x:=hq;obtain ⟨y,z,A,B,C,D,rfl,E,F⟩:=hq;refine xB l n o s t u y z A B C D V _ fun L a=>(iP (v.le (a)) (E.le (a)) dH kP (by omega)).mono ?_;rintro r V2 e f;have b:=f;obtain ⟨M,N,O,rfl⟩:=f.shape;have G:=Sz.mono (m:=2*k+1) (Sz.mul dH kP) (by omega);refine ⟨_,_,_,rfl,fun P c=>(iP (w.le (a.trans (e.trans (c)))) (F.le (a.trans (e.trans (c)))) dI kQ (by omega)).mono ?_⟩;rintro r Q H g;have d:=g;obtain ⟨R,S,T,rfl⟩:=g.shape;have I:=Sz.mono (m:=2*k+1) (Sz.mul dI kQ) (by omega);refine ⟨_,_,_,rfl,fun U h=>(ke (b.le (c.trans (H.trans (h)))) (d.le (h)) G I (by omega)).mono ?_⟩;rintro r W X i;have J:=i;obtain ⟨Y,Z,LH,rfl⟩:=i.shape;exact ⟨_,_,_,rfl,fun V7 K=>(J.le (K))⟩
theorem cM {fy fA o_ pf:Rat}{k:Nat}(dH:Sz k fy)(dI:Sz k fA)(kP:Sz k o_)(kQ:Sz k pf):Sz (4*k+3) (((fy)*(o_))+((fA)*(pf))):=by
 have a:=Sz.mono (m:=2*k+1) (Sz.mul dH kP) (by omega);have b:=Sz.mono (m:=2*k+1) (Sz.mul dI kQ) (by omega);have c:=Sz.mono (m:=4*k+3) (Sz.add a b) (by omega);exact Sz.mono c (by omega)
theorem tT {V:View}{p:Value}{fy fA:Rat}{q:Value}{o_ pf:Rat}(hp:RPt V p fy fA)(hq:RPt V q o_ pf){k:Nat}(dH:Sz k fy)(dI:Sz k fA)(kP:Sz k o_)(kQ:Sz k pf)(hk:4*k+3<274877906944) :
  Acts prog 216 #[p,q] V fun r V'=>RR V' r (((fy)*(pf))-((fA)*(o_))):=by
 have j:=hp;obtain ⟨l,n,o,s,t,u,rfl,v,w⟩:=hp;have x:=hq;obtain ⟨y,z,A,B,C,D,rfl,E,F⟩:=hq;refine sL l n o s t u y z A B C D V _ fun L a=>(iP (v.le (a)) (F.le (a)) dH kQ (by omega)).mono ?_;rintro r V2 e f;have b:=f;obtain ⟨M,N,O,rfl⟩:=f.shape;have G:=Sz.mono (m:=2*k+1) (Sz.mul dH kQ) (by omega);refine ⟨_,_,_,rfl,fun P c=>(iP (w.le (a.trans (e.trans (c)))) (E.le (a.trans (e.trans (c)))) dI kP (by omega)).mono ?_⟩;rintro r Q H g;have d:=g;obtain ⟨R,S,T,rfl⟩:=g.shape;have I:=Sz.mono (m:=2*k+1) (Sz.mul dI kP) (by omega);refine ⟨_,_,_,rfl,fun U h=>(zI (b.le (c.trans (H.trans (h)))) (d.le (h)) G I (by omega)).mono ?_⟩;rintro r W X i;have J:=i;obtain ⟨Y,Z,LH,rfl⟩:=i.shape;exact ⟨_,_,_,rfl,fun V7 K=>(J.le (K))⟩
theorem q_ {fy fA o_ pf:Rat}{k:Nat}(dH:Sz k fy)(dI:Sz k fA)(kP:Sz k o_)(kQ:Sz k pf):Sz (4*k+3) (((fy)*(pf))-((fA)*(o_))):=by
 have a:=Sz.mono (m:=2*k+1) (Sz.mul dH kQ) (by omega);have b:=Sz.mono (m:=2*k+1) (Sz.mul dI kP) (by omega);have c:=Sz.mono (m:=4*k+3) (Sz.sub a b) (by omega);exact Sz.mono c (by omega)
theorem ki {V:View}{l:Value}{bC l_1 cG:Rat}(hl:r_ V l bC l_1 cG){k:Nat}(aY:Sz k bC)(bf:Sz k l_1)(aX:Sz k cG)(hk:1*k+1<274877906944) :
  Acts prog 171 #[l] V fun r V'=>RPt V' r (l_1) (-(bC)):=by
 have f:=hl;obtain ⟨g,a,c,b,h,i,j,m,n,rfl,o,p,q⟩:=hl;refine xy g a c b h i j m n V _ fun s a=>(iQ (o.le (a)) aY (by omega)).mono ?_;rintro r V2 c e;have d:=e;obtain ⟨t,u,v,rfl⟩:=e.shape;exact ⟨_,_,_,rfl,fun w b=>⟨_,_,_,_,_,_,rfl,(p.le (a.trans (c.trans (b)))),(d.le (b))⟩⟩
theorem iI {bC l_1 cG:Rat}{k:Nat}(aY:Sz k bC)(bf:Sz k l_1)(aX:Sz k cG):Sz (1*k+0) (l_1):=by
 exact Sz.mono bf (by omega)
theorem iJ {bC l_1 cG:Rat}{k:Nat}(aY:Sz k bC)(bf:Sz k l_1)(aX:Sz k cG):Sz (1*k+0) (-(bC)):=by
 have a:=Sz.mono (m:=1*k+0) (Sz.neg aY) (by omega);exact Sz.mono a (by omega)
theorem gL {V:View}{l:Value}{bC l_1 cG:Rat}(hl:r_ V l bC l_1 cG){k:Nat}(aY:Sz k bC)(bf:Sz k l_1)(aX:Sz k cG)(hk:1*k+1<274877906944) :
  Acts prog 173 #[l] V fun r V'=>RPt V' r (bC) (l_1):=by
 have b:=hl;obtain ⟨c,a,d,e,f,g,h,i,j,rfl,m,n,o⟩:=hl;exact qW c a d e f g h i j V _ fun p a=>⟨_,_,_,_,_,_,rfl,(m.le (a)),(n.le (a))⟩
theorem cA {bC l_1 cG:Rat}{k:Nat}(aY:Sz k bC)(bf:Sz k l_1)(aX:Sz k cG):Sz (1*k+0) (bC):=by
 exact Sz.mono aY (by omega)
theorem cB {bC l_1 cG:Rat}{k:Nat}(aY:Sz k bC)(bf:Sz k l_1)(aX:Sz k cG):Sz (1*k+0) (l_1):=by
 exact Sz.mono bf (by omega)
theorem qh {V:View}{l:Value}{bC l_1 cG:Rat}(hl:r_ V l bC l_1 cG){k:Nat}(aY:Sz k bC)(bf:Sz k l_1)(aX:Sz k cG)(hk:1*k+1<274877906944) :
  Acts prog 198 #[l] V fun r V'=>r_ V' r (-(bC)) (-(l_1)) (-(cG)):=by
 have o:=hl;obtain ⟨p,a,e,b,f,c,g,d,q,rfl,s,t,u⟩:=hl;refine pS p a e b f c g d q V _ fun w a=>(iQ (s.le (a)) aY (by omega)).mono ?_;rintro r V2 e j;have h:=j;obtain ⟨x,y,z,rfl⟩:=j.shape;refine ⟨_,_,_,rfl,fun A b=>(iQ (t.le (a.trans (e.trans (b)))) bf (by omega)).mono ?_⟩;rintro r B f m;have i:=m;obtain ⟨C,D,E,rfl⟩:=m.shape;refine ⟨_,_,_,rfl,fun F c=>(iQ (u.le (a.trans (e.trans (b.trans (f.trans (c)))))) aX (by omega)).mono ?_⟩;rintro r G g n;have v:=n;obtain ⟨H,I,J,rfl⟩:=n.shape;exact ⟨_,_,_,rfl,fun K d=>⟨_,_,_,_,_,_,_,_,_,rfl,(h.le (b.trans (f.trans (c.trans (g.trans (d)))))),(i.le (c.trans (g.trans (d)))),(v.le (d))⟩⟩
theorem lj {V:View}{l:Value}{bC l_1 cG:Rat}{p:Value}{fy fA:Rat}(hl:r_ V l bC l_1 cG)(hp:RPt V p fy fA){k:Nat}(aY:Sz k bC)(bf:Sz k l_1)(aX:Sz k cG)(dH:Sz k fy)(dI:Sz k fA)(hk:5*k+4<274877906944) :
  Acts prog 145 #[l,p] V fun r V'=>RR V' r ((((bC)*(fy))+((l_1)*(fA)))+(cG)):=by
 have e:=hl;obtain ⟨v,a,c,b,f,d,n,g,w,rfl,G,H,x⟩:=hl;have h:=hp;obtain ⟨y,z,A,B,C,D,rfl,I,J⟩:=hp;refine sK v a c b f d n g w y z A B C D V _ fun K a=>(gL (e.le (a)) (Sz.mono aY (by omega):Sz (1*k+0) _) (Sz.mono bf (by omega):Sz (1*k+0) _) (Sz.mono aX (by omega):Sz (1*k+0) _) (by omega)).mono ?_;rintro r V2 c o;have i:=o;obtain ⟨L,M,N,O,P,Q,rfl,R,S⟩:=o;have q:=Sz.mono (m:=1*k+0) ((cA (Sz.mono aY (by omega):Sz (1*k+0) _) (Sz.mono bf (by omega):Sz (1*k+0) _) (Sz.mono aX (by omega):Sz (1*k+0) _))) (by omega);have s:=Sz.mono (m:=1*k+0) ((cB (Sz.mono aY (by omega):Sz (1*k+0) _) (Sz.mono bf (by omega):Sz (1*k+0) _) (Sz.mono aX (by omega):Sz (1*k+0) _))) (by omega);refine ⟨_,_,_,_,_,_,rfl,fun T b=>(kj (i.le (b)) (h.le (a.trans (c.trans (b)))) (Sz.mono q (by omega):Sz (1*k+0) _) (Sz.mono s (by omega):Sz (1*k+0) _) (Sz.mono dH (by omega):Sz (1*k+0) _) (Sz.mono dI (by omega):Sz (1*k+0) _) (by omega)).mono ?_⟩;rintro r U f t;have j:=t;obtain ⟨W,X,Y,rfl⟩:=t.shape;have E:=Sz.mono (m:=4*k+3) ((cM (Sz.mono q (by omega):Sz (1*k+0) _) (Sz.mono s (by omega):Sz (1*k+0) _) (Sz.mono dH (by omega):Sz (1*k+0) _) (Sz.mono dI (by omega):Sz (1*k+0) _))) (by omega);refine ⟨_,_,_,rfl,fun Z d=>(ke (j.le (d)) (x.le (a.trans (c.trans (b.trans (f.trans (d)))))) E aX (by omega)).mono ?_⟩;rintro r V6 n u;have F:=u;obtain ⟨LD,LG,LH,rfl⟩:=u.shape;exact ⟨_,_,_,rfl,fun V7 g=>(F.le (g))⟩
theorem j8 {bC l_1 cG fy fA:Rat}{k:Nat}(aY:Sz k bC)(bf:Sz k l_1)(aX:Sz k cG)(dH:Sz k fy)(dI:Sz k fA):Sz (5*k+4) ((((bC)*(fy))+((l_1)*(fA)))+(cG)):=by
 have a:=Sz.mono (m:=1*k+0) ((cA (Sz.mono aY (by omega):Sz (1*k+0) _) (Sz.mono bf (by omega):Sz (1*k+0) _) (Sz.mono aX (by omega):Sz (1*k+0) _))) (by omega);have b:=Sz.mono (m:=1*k+0) ((cB (Sz.mono aY (by omega):Sz (1*k+0) _) (Sz.mono bf (by omega):Sz (1*k+0) _) (Sz.mono aX (by omega):Sz (1*k+0) _))) (by omega);have c:=Sz.mono (m:=4*k+3) ((cM (Sz.mono a (by omega):Sz (1*k+0) _) (Sz.mono b (by omega):Sz (1*k+0) _) (Sz.mono dH (by omega):Sz (1*k+0) _) (Sz.mono dI (by omega):Sz (1*k+0) _))) (by omega);have d:=Sz.mono (m:=5*k+4) (Sz.add c aX) (by omega);exact Sz.mono d (by omega)
theorem mR {V:View}{l:Value}{bC l_1 cG:Rat}(hl:r_ V l bC l_1 cG){k:Nat}(aY:Sz k bC)(bf:Sz k l_1)(aX:Sz k cG)(hk:10*k+9<274877906944) :
  Acts prog 212 #[l] V fun r V'=>RPt V' r ((bC)*(((-(cG))*(((bC)*(bC))+((l_1)*(l_1)))⁻¹))) ((l_1)*(((-(cG))*(((bC)*(bC))+((l_1)*(l_1)))⁻¹))):=by
 have n:=hl;obtain ⟨A,i,o,b,d,c,j,e,p,rfl,K,L,B⟩:=hl;refine vM A i o b d c j e p V _ fun M i=>(gL (n.le (i)) (Sz.mono aY (by omega):Sz (1*k+0) _) (Sz.mono bf (by omega):Sz (1*k+0) _) (Sz.mono aX (by omega):Sz (1*k+0) _) (by omega)).mono ?_;rintro r V2 o s;have a:=s;obtain ⟨N,O,P,Q,R,S,rfl,T,U⟩:=s;have f:=Sz.mono (m:=1*k+0) ((cA (Sz.mono aY (by omega):Sz (1*k+0) _) (Sz.mono bf (by omega):Sz (1*k+0) _) (Sz.mono aX (by omega):Sz (1*k+0) _))) (by omega);have g:=Sz.mono (m:=1*k+0) ((cB (Sz.mono aY (by omega):Sz (1*k+0) _) (Sz.mono bf (by omega):Sz (1*k+0) _) (Sz.mono aX (by omega):Sz (1*k+0) _))) (by omega);refine ⟨_,_,_,_,_,_,rfl,fun W b=>(iQ (B.le (i.trans (o.trans (b)))) aX (by omega)).mono ?_⟩;rintro r X d t;have q:=t;obtain ⟨Y,Z,J0,rfl⟩:=t.shape;have u:=Sz.mono (m:=1*k+0) (Sz.neg aX) (by omega);refine ⟨_,_,_,rfl,fun V5 c=>(kj (a.le (b.trans (d.trans (c)))) (a.le (b.trans (d.trans (c)))) (Sz.mono f (by omega):Sz (1*k+0) _) (Sz.mono g (by omega):Sz (1*k+0) _) (Sz.mono f (by omega):Sz (1*k+0) _) (Sz.mono g (by omega):Sz (1*k+0) _) (by omega)).mono ?_⟩;rintro r V6 j v;have C:=v;obtain ⟨LD,LG,LH,rfl⟩:=v.shape;have w:=Sz.mono (m:=4*k+3) ((cM (Sz.mono f (by omega):Sz (1*k+0) _) (Sz.mono g (by omega):Sz (1*k+0) _) (Sz.mono f (by omega):Sz (1*k+0) _) (Sz.mono g (by omega):Sz (1*k+0) _))) (by omega);refine ⟨_,_,_,rfl,fun V7 e=>(zH (q.le (c.trans (j.trans (e)))) (C.le (e)) u w (by omega)).mono ?_⟩;rintro r V8 p x;have D:=x;obtain ⟨U1,U2,U3,rfl⟩:=x.shape;have E:=Sz.mono (m:=5*k+4) (Sz.mul u (dJ w)) (by omega);refine ⟨_,_,_,rfl,fun V9 y=>(ll (a.le (b.trans (d.trans (c.trans (j.trans (e.trans (p.trans (y)))))))) (D.le (y)) (Sz.mono f (by omega):Sz (5*k+4) _) (Sz.mono g (by omega):Sz (5*k+4) _) (Sz.mono E (by omega):Sz (5*k+4) _) (by omega)).mono ?_⟩;rintro r F G z;have KD:=z;obtain ⟨ZU,ZV,ZW,ZX,ZY,ZZ,rfl,H,I⟩:=z;exact ⟨_,_,_,_,_,_,rfl,fun J h=>⟨_,_,_,_,_,_,rfl,(H.le (h)),(I.le (h))⟩⟩
theorem df {bC l_1 cG:Rat}{k:Nat}(aY:Sz k bC)(bf:Sz k l_1)(aX:Sz k cG):Sz (10*k+9) ((bC)*(((-(cG))*(((bC)*(bC))+((l_1)*(l_1)))⁻¹))):=by
 have a:=Sz.mono (m:=1*k+0) ((cA (Sz.mono aY (by omega):Sz (1*k+0) _) (Sz.mono bf (by omega):Sz (1*k+0) _) (Sz.mono aX (by omega):Sz (1*k+0) _))) (by omega);have b:=Sz.mono (m:=1*k+0) ((cB (Sz.mono aY (by omega):Sz (1*k+0) _) (Sz.mono bf (by omega):Sz (1*k+0) _) (Sz.mono aX (by omega):Sz (1*k+0) _))) (by omega);have c:=Sz.mono (m:=1*k+0) (Sz.neg aX) (by omega);have d:=Sz.mono (m:=4*k+3) ((cM (Sz.mono a (by omega):Sz (1*k+0) _) (Sz.mono b (by omega):Sz (1*k+0) _) (Sz.mono a (by omega):Sz (1*k+0) _) (Sz.mono b (by omega):Sz (1*k+0) _))) (by omega);have e:=Sz.mono (m:=5*k+4) (Sz.mul c (dJ d)) (by omega);have f:=Sz.mono (m:=10*k+9) ((dV (Sz.mono a (by omega):Sz (5*k+4) _) (Sz.mono b (by omega):Sz (5*k+4) _) (Sz.mono e (by omega):Sz (5*k+4) _))) (by omega);exact Sz.mono f (by omega)
theorem dg {bC l_1 cG:Rat}{k:Nat}(aY:Sz k bC)(bf:Sz k l_1)(aX:Sz k cG):Sz (10*k+9) ((l_1)*(((-(cG))*(((bC)*(bC))+((l_1)*(l_1)))⁻¹))):=by
 have a:=Sz.mono (m:=1*k+0) ((cA (Sz.mono aY (by omega):Sz (1*k+0) _) (Sz.mono bf (by omega):Sz (1*k+0) _) (Sz.mono aX (by omega):Sz (1*k+0) _))) (by omega);have b:=Sz.mono (m:=1*k+0) ((cB (Sz.mono aY (by omega):Sz (1*k+0) _) (Sz.mono bf (by omega):Sz (1*k+0) _) (Sz.mono aX (by omega):Sz (1*k+0) _))) (by omega);have c:=Sz.mono (m:=1*k+0) (Sz.neg aX) (by omega);have d:=Sz.mono (m:=4*k+3) ((cM (Sz.mono a (by omega):Sz (1*k+0) _) (Sz.mono b (by omega):Sz (1*k+0) _) (Sz.mono a (by omega):Sz (1*k+0) _) (Sz.mono b (by omega):Sz (1*k+0) _))) (by omega);have e:=Sz.mono (m:=5*k+4) (Sz.mul c (dJ d)) (by omega);have f:=Sz.mono (m:=10*k+9) ((dW (Sz.mono a (by omega):Sz (5*k+4) _) (Sz.mono b (by omega):Sz (5*k+4) _) (Sz.mono e (by omega):Sz (5*k+4) _))) (by omega);exact Sz.mono f (by omega)
theorem BB {V:View}{l:Value}{bC l_1 cG:Rat}{t:Value}{EP:Rat}(hl:r_ V l bC l_1 cG)(ht:RR V t EP){k:Nat}(aY:Sz k bC)(bf:Sz k l_1)(aX:Sz k cG)(vC:Sz k EP)(hk:20*k+19<274877906944) :
  Acts prog 210 #[l,t] V fun r V'=>RPt V' r ((((bC)*(((-(cG))*(((bC)*(bC))+((l_1)*(l_1)))⁻¹))))+(((l_1)*(EP)))) ((((l_1)*(((-(cG))*(((bC)*(bC))+((l_1)*(l_1)))⁻¹))))+((((-(bC)))*(EP)))):=by
 have a:=hl;obtain ⟨y,b,e,c,f,d,h,g,q,rfl,G,H,I⟩:=hl;have i:=ht;obtain ⟨t0,t1,t2,rfl⟩:=ht.shape;refine AU y b e c f d h g q t0 t1 t2 V _ fun J b=>(mR (a.le (b)) (Sz.mono aY (by omega):Sz (1*k+0) _) (Sz.mono bf (by omega):Sz (1*k+0) _) (Sz.mono aX (by omega):Sz (1*k+0) _) (by omega)).mono ?_;rintro r V2 e s;have j:=s;obtain ⟨K,L,M,N,O,P,rfl,Q,R⟩:=s;have z:=Sz.mono (m:=10*k+9) ((df (Sz.mono aY (by omega):Sz (1*k+0) _) (Sz.mono bf (by omega):Sz (1*k+0) _) (Sz.mono aX (by omega):Sz (1*k+0) _))) (by omega);have A:=Sz.mono (m:=10*k+9) ((dg (Sz.mono aY (by omega):Sz (1*k+0) _) (Sz.mono bf (by omega):Sz (1*k+0) _) (Sz.mono aX (by omega):Sz (1*k+0) _))) (by omega);refine ⟨_,_,_,_,_,_,rfl,fun S c=>(ki (a.le (b.trans (e.trans (c)))) (Sz.mono aY (by omega):Sz (1*k+0) _) (Sz.mono bf (by omega):Sz (1*k+0) _) (Sz.mono aX (by omega):Sz (1*k+0) _) (by omega)).mono ?_⟩;rintro r T f u;have n:=u;obtain ⟨U,W,X,Y,Z,UT,rfl,Ss,Su⟩:=u;have o:=Sz.mono (m:=1*k+0) ((iI (Sz.mono aY (by omega):Sz (1*k+0) _) (Sz.mono bf (by omega):Sz (1*k+0) _) (Sz.mono aX (by omega):Sz (1*k+0) _))) (by omega);have p:=Sz.mono (m:=1*k+0) ((iJ (Sz.mono aY (by omega):Sz (1*k+0) _) (Sz.mono bf (by omega):Sz (1*k+0) _) (Sz.mono aX (by omega):Sz (1*k+0) _))) (by omega);refine ⟨_,_,_,_,_,_,rfl,fun V5 d=>(ll (n.le (d)) (i.le (b.trans (e.trans (c.trans (f.trans (d)))))) (Sz.mono o (by omega):Sz (1*k+0) _) (Sz.mono p (by omega):Sz (1*k+0) _) (Sz.mono vC (by omega):Sz (1*k+0) _) (by omega)).mono ?_⟩;rintro r V6 h v;have B:=v;obtain ⟨UU,UW,UX,UY,UZ,U0,rfl,Pf,Pg⟩:=v;have C:=Sz.mono (m:=2*k+1) ((dV (Sz.mono o (by omega):Sz (1*k+0) _) (Sz.mono p (by omega):Sz (1*k+0) _) (Sz.mono vC (by omega):Sz (1*k+0) _))) (by omega);have D:=Sz.mono (m:=2*k+1) ((dW (Sz.mono o (by omega):Sz (1*k+0) _) (Sz.mono p (by omega):Sz (1*k+0) _) (Sz.mono vC (by omega):Sz (1*k+0) _))) (by omega);refine ⟨_,_,_,_,_,_,rfl,fun V7 g=>(zK (j.le (c.trans (f.trans (d.trans (h.trans (g)))))) (B.le (g)) (Sz.mono z (by omega):Sz (10*k+9) _) (Sz.mono A (by omega):Sz (10*k+9) _) (Sz.mono C (by omega):Sz (10*k+9) _) (Sz.mono D (by omega):Sz (10*k+9) _) (by omega)).mono ?_⟩;rintro r V8 q w;have Kc:=w;obtain ⟨ZO,ZP,ZQ,ZR,ZS,ZT,rfl,E,F⟩:=w;exact ⟨_,_,_,_,_,_,rfl,fun V9 x=>⟨_,_,_,_,_,_,rfl,(E.le (x)),(F.le (x))⟩⟩
theorem xR {bC l_1 cG EP:Rat}{k:Nat}(aY:Sz k bC)(bf:Sz k l_1)(aX:Sz k cG)(vC:Sz k EP):Sz (20*k+19) ((((bC)*(((-(cG))*(((bC)*(bC))+((l_1)*(l_1)))⁻¹))))+(((l_1)*(EP)))):=by
 have c:=Sz.mono (m:=10*k+9) ((df (Sz.mono aY (by omega):Sz (1*k+0) _) (Sz.mono bf (by omega):Sz (1*k+0) _) (Sz.mono aX (by omega):Sz (1*k+0) _))) (by omega);have d:=Sz.mono (m:=10*k+9) ((dg (Sz.mono aY (by omega):Sz (1*k+0) _) (Sz.mono bf (by omega):Sz (1*k+0) _) (Sz.mono aX (by omega):Sz (1*k+0) _))) (by omega);have a:=Sz.mono (m:=1*k+0) ((iI (Sz.mono aY (by omega):Sz (1*k+0) _) (Sz.mono bf (by omega):Sz (1*k+0) _) (Sz.mono aX (by omega):Sz (1*k+0) _))) (by omega);have b:=Sz.mono (m:=1*k+0) ((iJ (Sz.mono aY (by omega):Sz (1*k+0) _) (Sz.mono bf (by omega):Sz (1*k+0) _) (Sz.mono aX (by omega):Sz (1*k+0) _))) (by omega);have e:=Sz.mono (m:=2*k+1) ((dV (Sz.mono a (by omega):Sz (1*k+0) _) (Sz.mono b (by omega):Sz (1*k+0) _) (Sz.mono vC (by omega):Sz (1*k+0) _))) (by omega);have f:=Sz.mono (m:=2*k+1) ((dW (Sz.mono a (by omega):Sz (1*k+0) _) (Sz.mono b (by omega):Sz (1*k+0) _) (Sz.mono vC (by omega):Sz (1*k+0) _))) (by omega);have g:=Sz.mono (m:=20*k+19) ((wo (Sz.mono c (by omega):Sz (10*k+9) _) (Sz.mono d (by omega):Sz (10*k+9) _) (Sz.mono e (by omega):Sz (10*k+9) _) (Sz.mono f (by omega):Sz (10*k+9) _))) (by omega);exact Sz.mono g (by omega)
theorem xS {bC l_1 cG EP:Rat}{k:Nat}(aY:Sz k bC)(bf:Sz k l_1)(aX:Sz k cG)(vC:Sz k EP):Sz (20*k+19) ((((l_1)*(((-(cG))*(((bC)*(bC))+((l_1)*(l_1)))⁻¹))))+((((-(bC)))*(EP)))):=by
 have c:=Sz.mono (m:=10*k+9) ((df (Sz.mono aY (by omega):Sz (1*k+0) _) (Sz.mono bf (by omega):Sz (1*k+0) _) (Sz.mono aX (by omega):Sz (1*k+0) _))) (by omega);have d:=Sz.mono (m:=10*k+9) ((dg (Sz.mono aY (by omega):Sz (1*k+0) _) (Sz.mono bf (by omega):Sz (1*k+0) _) (Sz.mono aX (by omega):Sz (1*k+0) _))) (by omega);have a:=Sz.mono (m:=1*k+0) ((iI (Sz.mono aY (by omega):Sz (1*k+0) _) (Sz.mono bf (by omega):Sz (1*k+0) _) (Sz.mono aX (by omega):Sz (1*k+0) _))) (by omega);have b:=Sz.mono (m:=1*k+0) ((iJ (Sz.mono aY (by omega):Sz (1*k+0) _) (Sz.mono bf (by omega):Sz (1*k+0) _) (Sz.mono aX (by omega):Sz (1*k+0) _))) (by omega);have e:=Sz.mono (m:=2*k+1) ((dV (Sz.mono a (by omega):Sz (1*k+0) _) (Sz.mono b (by omega):Sz (1*k+0) _) (Sz.mono vC (by omega):Sz (1*k+0) _))) (by omega);have f:=Sz.mono (m:=2*k+1) ((dW (Sz.mono a (by omega):Sz (1*k+0) _) (Sz.mono b (by omega):Sz (1*k+0) _) (Sz.mono vC (by omega):Sz (1*k+0) _))) (by omega);have g:=Sz.mono (m:=20*k+19) ((wq (Sz.mono c (by omega):Sz (10*k+9) _) (Sz.mono d (by omega):Sz (10*k+9) _) (Sz.mono e (by omega):Sz (10*k+9) _) (Sz.mono f (by omega):Sz (10*k+9) _))) (by omega);exact Sz.mono g (by omega)
theorem fS {V:View}{v w:Value}{x y:Rat}(hx:RQ V v x)(hy:RQ V w y)(hy0:y.num≠0){k m:Nat}(hk:Sz k x)(hm:Sz m y)(hkm:k+m<274877906944) :
  Acts prog 83 #[v,w] V fun r V'=>RQ V' r (x*y⁻¹):=by
 obtain ⟨p,n,c,K,L,M,rfl,d,f⟩:=hx;obtain ⟨q,i,e,N,O,P,rfl,g,j⟩:=hy;have l:=dJ hm;have q1:=ae hk.1;have q2:=ae hk.2;have q3:=ae hm.1;have q4:=ae l.1
 have E:(y⁻¹).num=(if decide (y.num<0)=true then -((y.den:Nat):Int) else ((y.den:Nat):Int))/\(y⁻¹).den=y.num.natAbs:=by
  rcases Int.lt_or_gt_of_ne hy0 with h|h
  ·rw [if_pos (decide_eq_true h)];exact inv_neg h
  ·rw [if_neg (fun Q=>by have:=of_decide_eq_true Q;omega)];exact inv_pos h
 have o:x*y⁻¹=mkRat (x.num*(y⁻¹).num) (x.den*(y⁻¹).den):=Rat.mul_def' x y⁻¹;have b1:(x.num*(y⁻¹).num).natAbs<2^(k+m):=by rw [Int.natAbs_mul];exact bD hk.1 l.1
 have b2:x.den*(y⁻¹).den<2^(k+m):=bD hk.2 l.2;refine Dp _ p n c K L M _ q i e N O P V _ fun V1 s=>(ch y _ (j.le s)).mono ?_;rintro r V2 F ⟨p1,n1,c1,rfl,R⟩;refine ⟨_,_,_,rfl,fun V3 t=>(eX _ (R.le t)).mono ?_⟩;rw [←E.1];rintro r V4 G ⟨p4,n4,c4,rfl,S⟩;refine ⟨_,_,_,_,rfl,fun V5 u=>(jF x.num (y⁻¹).num (d.le (s.trans (F.trans (t.trans (G.trans u))))) (S.le u) (by omega)).mono ?_⟩;rintro r V6 T ⟨p6,n6,c6,rfl,U⟩;have H:=s.trans (F.trans (t.trans (G.trans (u.trans T))));refine ⟨_,_,_,_,rfl,fun V7 z=>(ch x _ (f.le (H.trans z))).mono ?_⟩;rintro r V8 I ⟨p8,n8,c8,rfl,W⟩;refine ⟨_,_,_,rfl,fun V9 A=>(bZ (W.le A) (g.le (H.trans (z.trans (I.trans A)))) (by omega)).mono ?_⟩;rintro r X B ⟨Hv,Y,Z,rfl,a⟩;rw [ab,ab,←E.2] at a;refine ⟨_,_,_,rfl,fun a0 b=>(ko _ (U.le (z.trans (I.trans (A.trans (B.trans b))))) (a.le b) (Nat.le_trans (ae b1) (by omega)) (Nat.le_trans (ae b2) (by omega)) (Nat.mul_ne_zero x.den_nz (y⁻¹).den_nz)).mono ?_⟩;rw [o];rintro r rf iN ⟨W4,a1,a2,W5,a3,VE,rfl,C,D⟩;exact ⟨_,_,_,_,_,_,_,rfl,fun tE J=>⟨_,_,_,_,_,_,rfl,C.le J,D.le J⟩⟩
theorem Gu {V:View}(z:Int){p:OA}{n c:Nat}(h:RD V p n c (af z.natAbs)) :
  Acts prog 84 #[.agg #[.bool (decide (z<0)),.slice p n c]] V fun r V'=>RQ V' r (z:Rat):=
 Fe _ p n c V _ fun b a=>mW (z:=z) (d:=1) rfl rfl (h.le a) RD.nil rfl
end Go.Proofs.Tryz
