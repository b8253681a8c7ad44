import Derived.Test.YtapnijmlbakblaaGreatDoorT16
import Derived.Test.YtapnijmlbakblaaGreatDoorT17
import Derived.Test.YtapnijmlbakblaaGreatDoorT15
import Derived.Test.YtapnijmlbakblaaGreatDoorT6
import Derived.Test.YtapnijmlbakblaaGreatDoorT11
import Derived.Laws.IdiomCopy
import Derived.Lib.Overlaps
import Derived.Lib.JoinLaws
import Derived.Lib.AppendZerosOnto
import Derived.Shelf.RegionOpenPlain
import Derived.Lib.Walk
import Derived.Lib.SliceRun
import Derived.Laws.NewBlocks
import Derived.Test.YtapnijmlbakblaaGreatDoorT13
import Derived.Test.YtapnijmlbakblaaGreatDoorT14
import Derived.Test.YtapnijmlbakblaaGreatDoorT8
import Derived.Test.YtapnijmlbakblaaGreatDoorT9
set_option linter.unusedVariables false
open Go.IntKind (i64 u64 u32)
namespace Go.Proofs.Tryz
open Go.Eng Go.Big
theorem Cv {s u:Sp}{t:Rat}:(s.meet u).inn t↔s.inn t/\u.inn t:=by
 have c:EK s.lo u.lo<t↔s.lo<t/\u.lo<t:=by
  unfold EK;rcases dO u.lo s.lo with ⟨h,e⟩|⟨h,e⟩|⟨h,e⟩<;>rw [e]<;>simp<;>grind
 have d:t<EN s.hi u.hi↔t<s.hi/\t<u.hi:=by
  unfold EN;rcases dO u.hi s.hi with ⟨h,e⟩|⟨h,e⟩|⟨h,e⟩<;>rw [e]<;>simp<;>grind
 unfold Sp.inn Sp.meet;cases s.a<;>cases s.b<;>cases u.a<;>cases u.b<;>simp [c,d]<;>grind
theorem reg_one {s:Sp}(h:s.good):w_ [s]:=⟨fun x a=>(show x=s by simpa using a)▸h,by simp⟩
theorem uP {s u:Sp}(hs:s.can)(hu:u.can):combL 2 [s] [u]=if (s.meet u).emp=true then [] else [s.meet u]:=by
 have key:∀t,inB (combL 2 [s] [u]) t=true->t∉endsL ([s]++[u])->(s.meet u).inn t:=fun t h c=>by
  rw [comb_inB _ _ _ c] at h;have h:(inB [s] t&&inB [u] t)=true:=h;rw [Bool.and_eq_true] at h;have e:∀x:Sp,inB [x] t=x.innB t:=fun x=>by unfold inB;simp
  rw [e,e,innB_iff,innB_iff] at h;exact Cv.2 h
 refine reg_eq (endsL ([s]++[u])) (comb_reg _ _ _) ?_ fun t c=>?_
 ·split
  ·exact ⟨(fun _ h=>by cases h),List.Pairwise.nil⟩
  ·rename_i h;exact reg_one ⟨Sp.Jl hs hu,by simpa using h⟩
 ·refine zV ⟨fun h=>?_,fun h=>?_⟩
  ·have hk:=key t h c;split
   ·rename_i he;obtain ⟨a,b⟩:=hk;generalize s.meet u=m at he a b;unfold Sp.emp at he;rw [Bool.and_eq_true,Bool.and_eq_true,Bool.not_eq_true',Bool.not_eq_true',decide_eq_true_eq] at he;obtain ⟨⟨d,hb⟩,g⟩:=he;rw [d] at a;rw [hb] at b;have a:=a.resolve_left (by decide);have b:=b.resolve_left (by decide);rcases dO m.lo m.hi with ⟨h,e⟩|⟨h,e⟩|⟨h,e⟩
    ·omega
    ·grind
    ·grind
   ·exact jt.2 ⟨_,by simp,hk⟩
  ·rw [comb_inB _ _ _ c];show (inB [s] t&&inB [u] t)=true;split at h
   ·cases h
   ·obtain ⟨x,f,hi⟩:=jt.1 h;obtain rfl:x=s.meet u:=by simpa using f
    obtain ⟨a,b⟩:=Cv.1 hi;rw [Bool.and_eq_true];exact ⟨jt.2 ⟨s,by simp,a⟩,jt.2 ⟨u,by simp,b⟩⟩
theorem FJ (l:L3):lL (lL l)=lL l:=by
 unfold lL;by_cases h:l.1<0\/l.1=0/\l.2.1<0
 ·rw [if_pos h,if_neg];unfold revL;dsimp only;omega
 ·rw [if_neg h,if_neg h]
theorem JD {l:L3}(h:lR l=true):lR (lL l)=true:=by
 unfold lL;split
 ·unfold lR revL bE at *;simp only [Int.natAbs_neg];rw [Bool.and_eq_true,decide_eq_true_iff,decide_eq_true_iff] at h ⊢;exact ⟨fun e=>h.1 ⟨by omega,by omega⟩,h.2⟩
 ·exact h
theorem Nv {l:L3}(h:lR l=true):¬(l.1=0/\l.2.1=0):=by
 unfold lR at h;rw [Bool.and_eq_true,decide_eq_true_iff] at h;exact h.1
theorem Lr {s:Sp}:s.emp=false↔∃t,s.inn t:=by
 constructor
 ·intro h;obtain ⟨c,d⟩:=Sp.Mp h;refine ⟨s.C2,?_,?_⟩
  ·cases ha:s.a
   ·exact .inr (c ha)
   ·exact .inl rfl
  ·cases hb:s.b
   ·exact .inr (d hb)
   ·exact .inl rfl
 ·rintro ⟨t,c,d⟩;rw [Sp.ic];rcases c with c|c
  ·exact .inl c
  ·rcases d with d|d
   ·exact .inr (.inl d)
   ·exact .inr (.inr (by grind))
abbrev Sd:=L3×Sp
def NB:List Sd->L3->Sp->Option Sp
 | [],_,v=>some v
 | s::c,l,v=>if lN l v s.1 then NB c l (iJ l v s.1) else none
theorem uN (l:L3):lL l=l\/lL l=revL l:=by unfold lL;split;exact .inr rfl;exact .inl rfl
theorem rev_rev (l:L3):revL (revL l)=l:=by unfold revL;simp
theorem FN (l:L3):br.bw (revL l)=(-(br.bw l).1,-(br.bw l).2):=by unfold br.bw revL;simp only [Rat.intCast_neg]
theorem Ui {l:L3}(h:lR l=true):(br.bw l).1≠0\/(br.bw l).2≠0:=by
 have:=Nv h;unfold br.bw;by_cases e:l.2.1=0
 ·right;intro a;have:(l.1:Rat)=0:=by grind
  exact Nv h ⟨by exact_mod_cast this,e⟩
 ·left;show (l.2.1:Rat)≠0;exact_mod_cast e
theorem Rx {l m:L3}(ol:lR l=true)(om:lR m=true){p:br.V2}(h1:bg l p.1 p.2=0)(h2:bg m p.1 p.2=0)(hc:br.cr (br.bw l) (br.bw m)=0):l=m\/l=revL m:=by
 have a:∀{x:L3},bg x p.1 p.2=0->bg (lL x) p.1 p.2=0:=fun {x} h=>by
  rcases uN x with e|e<;>rw [e]
  ·exact h
  ·rw [val_rev];grind
 have b:br.cr (br.bw (lL l)) (br.bw (lL m))=0:=by
  unfold br.cr at *;rcases uN l with e|e<;>rcases uN m with e'|e'<;>rw [e,e']<;>(try rw [FN l])<;>(try rw [FN m])<;>(try dsimp only)<;>grind
 have:=br.HB (JD ol) (JD om) (FJ l) (FJ m) (a h1) (a h2) b;rcases uN l with e|e<;>rcases uN m with e'|e'<;>rw [e,e'] at this
 ·exact .inl this
 ·exact .inr this
 ·right;rw [←this,rev_rev]
 ·left;have:=congrArg revL this;rwa [rev_rev,rev_rev] at this
theorem N7 {M:List L3}(hk:∀m∈M,lR m=true){q:br.V2}(hq:br.pos M q):br.Vx M:=by
 intro l d m hm c p f g h;rcases Rx (hk l d) (hk m hm) f g h with e|e
 ·exact c e
 ·have a:=hq l d;have b:=hq m hm;rw [e,val_rev] at a;grind
def fullSp:Sp:=⟨0,0,true,true⟩
theorem kf:fullSp.good:=⟨⟨fun _=>rfl,fun _=>rfl⟩,rfl⟩
theorem full_inn (t:Rat):fullSp.inn t:=⟨.inl rfl,.inl rfl⟩
structure sN (M:List L3) (c:List Sd):Prop where
 pos:∃q,br.pos M q
 mem:∀s∈c,s.1∈M/\s.2.good/\∀t,s.2.inn t↔∀m∈M,m≠s.1->0<bg m (BB s.1 t) (BC s.1 t)
 all:∀l∈M,br.Es M l->∃v,(l,v)∈c
 asc:c.Pairwise fun s u=>br.fM (br.bw s.1) (br.bw u.1)<0
def EB (x:Sd):List Sd->List Sd
 | []=>[x]
 | s::r=>if br.fM (br.bw s.1) (br.bw x.1)<0 then s::EB x r else x::s::r
def Tl (c:List Sd)(l:L3):List Sd:=c.filterMap fun s=>if lN s.1 s.2 l then some (s.1,iJ s.1 s.2 l) else none
def JS:List Sd->L3->Int
 | [],_=>-1
 | s::c,l=>if (bg l (BB s.1 s.2.C2) (BC s.1 s.2.C2)).num.sign≠0 then (bg l (BB s.1 s.2.C2) (BC s.1 s.2.C2)).num.sign else if s.1=l then 1 else JS c l
def P6 (c:List Sd)(l:L3):Option (List Sd):=
 match NB c l fullSp with
 | some v=>some (EB (l,v) (Tl c l))
 | none=>if 0<JS c l then some c else none
theorem K5 {a b d:br.V2}(h:br.fM a b<0)(h':br.fM b d<0):br.fM a d<0:=by
 by_cases q:br.fM a d<0
 ·exact q
 ·exact absurd h (br.uu _ _ _ q (br.FB _ _ h'))
section
variable {M:List L3} {c:List Sd} (h:sN M c) (hk:∀m ∈ M,lR m=true)
include h hk
theorem sN.int {p:br.V2}(hp:∀s∈c,0<bg s.1 p.1 p.2):br.pos M p:=by
 obtain ⟨q,a⟩:=h.pos;refine br.YE (N7 hk a) (fun m hm=>Ui (hk m hm)) a fun m hm he=>?_;obtain ⟨v,b⟩:=h.all m hm he;exact hp _ b
end
theorem sN.nil:sN [] []:=⟨⟨(0,0),fun m hm=>by cases hm⟩,(fun s a=>by cases a),(fun l b=>by cases b),List.Pairwise.nil⟩
def qU:List L3->List L3->List Sd->Option (List Sd)
 | [],_,c=>some c
 | l::r,M,c=>match P6 c l with
  | some c'=>qU r (l::M) c'
  | none=>none
end Go.Proofs.Tryz
namespace Go.Proofs.Tryz
open Go.Eng Go.Big
theorem cross_dot (l m:L3):crossL l m=-dotL m l:=by unfold crossL dotL;grind
theorem Es.of {M N:List L3}(h:∀x,x∈M->x∈N){l:L3}(e:br.Es N l):br.Es M l:=by
 obtain ⟨p,a,b⟩:=e;exact ⟨p,a,fun m hm=>b m (h m hm)⟩
section
variable {M:List L3} {c:List Sd} (h:sN M c) (hk:∀m ∈ M,lR m=true)
include h hk
end
end Go.Proofs.Tryz
namespace Go.Proofs.Tryz
open Go.Eng Go.Big
section
variable {M:List L3} {c:List Sd} (h:sN M c) (hk:∀m ∈ M,lR m=true)
include h hk
end
end Go.Proofs.Tryz
namespace Go.Proofs.Tryz
open Go.Eng Go.Big
namespace br
end br
section
variable {M:List L3} {c:List Sd} (h:sN M c) (hk:∀m ∈ M,lR m=true)
include h hk
end
end Go.Proofs.Tryz
namespace Go.Proofs.Tryz
open Go.Eng Go.Big
namespace br
end br
section
variable {M:List L3} {c:List Sd} (h:sN M c) (hk:∀m ∈ M,lR m=true)
include h hk
end
end Go.Proofs.Tryz
namespace Go.Proofs.Tryz
open Go.Eng Go.Big
section
variable {M:List L3} {c:List Sd} (h:sN M c) (hk:∀m ∈ M,lR m=true) (hb:∀s ∈ c,s.2.a=false/\s.2.b=false)
include h hk hb
end
end Go.Proofs.Tryz
namespace Go.Proofs.Tryz
open Go.Eng Go.Big
section
variable {M:List L3} {c:List Sd} (h:sN M c) (hk:∀m ∈ M,lR m=true) (hb:∀s ∈ c,s.2.a=false/\s.2.b=false)
include h hk hb
end
end Go.Proofs.Tryz
namespace Go.Proofs.Tryz
open Go.Eng Go.Big
theorem dot_rev (l m:L3):dotL (revL l) m=-dotL l m:=by unfold dotL revL;simp only [Rat.intCast_neg];grind
theorem K7 (l m:L3):uz (revL l) m=-uz l m:=by unfold uz;exact val_rev ..
theorem cutP_rev {l m:L3}(h:dotL l m≠0):cutP (revL l) m=cutP l m:=by
 have a:=Rat.mul_inv_cancel _ h;have b:=Rat.mul_inv_cancel _ (show -dotL l m≠0 by grind);unfold cutP;rw [dot_rev,K7];grind
section
variable {M:List L3} {c:List Sd} (h:sN M c) (hk:∀m ∈ M,lR m=true) (hb:∀s ∈ c,s.2.a=false/\s.2.b=false)
include h hk hb
end
end Go.Proofs.Tryz
namespace Go.Proofs.Tryz
open Go.Eng Go.Big
section
variable {M:List L3} {c:List Sd} (h:sN M c) (hk:∀m ∈ M,lR m=true)
include h hk
end
end Go.Proofs.Tryz
namespace Go.Proofs.Tryz
open Go.Eng Go.Big
theorem Ia:∀(L:List Rat) {lo hi:Rat},lo<hi->∃t,lo<t/\t<hi/\∀r∈L,t≠r
 | [],lo,hi,h=>⟨(lo+hi) / 2,by grind,by grind,(fun r hr=>by cases hr)⟩
 | r::L,lo,hi,h=>by
  by_cases c:lo<r/\r<hi
  ·obtain ⟨t,h1,h2,h3⟩:=Ia L c.1;refine ⟨t,h1,by grind,fun x a=>?_⟩;rcases List.mem_cons.1 a with rfl|a
   ·grind
   ·exact h3 x a
  ·obtain ⟨t,h1,h2,h3⟩:=Ia L h;refine ⟨t,h1,h2,fun x a=>?_⟩;rcases List.mem_cons.1 a with rfl|a
   ·intro e;subst e;exact c ⟨h1,h2⟩
   ·exact h3 x a
theorem IQ {s:Sp}(h:s.good):∃lo hi,lo<hi/\∀t,lo<t->t<hi->s.inn t:=by
 obtain ⟨t,e⟩:=Lr.1 h.2;obtain ⟨lo,hi,a,b⟩:=s;unfold Sp.inn at *;dsimp only at *;cases a<;>cases b<;>simp at e ⊢
 ·exact ⟨lo,hi,by grind,fun t c d=>⟨c,d⟩⟩
 ·exact ⟨lo,lo+1,by grind,fun t c d=>c⟩
 ·exact ⟨hi-1,hi,by grind,fun t c d=>d⟩
 ·exact ⟨0,1,by decide⟩
def halfU (l m:L3):List Sp:=if crossL l m=0 then (if 0<bg m (BB l 0) (BC l 0) then [fullSp] else []) else if 0<dotL m l then [⟨cutP m l,0,false,true⟩] else [⟨0,cutP m l,true,false⟩]
theorem He (l m:L3):halfU l m=[]\/∃u,halfU l m=[u]/\u.can:=by
 unfold halfU;split
 ·split
  ·exact .inr ⟨_,rfl,kf.1⟩
  ·exact .inl rfl
 ·split
  ·exact .inr ⟨_,rfl,⟨(fun h=>by cases h),fun _=>rfl⟩⟩
  ·exact .inr ⟨_,rfl,⟨fun _=>rfl,(fun h=>by cases h)⟩⟩
theorem comb_nil (a:List Sp):combL 2 a []=[]:=by
 cases e:combL 2 a [] with
 | nil=>rfl
 | cons s r=>
  exfalso;have f:=comb_reg 2 a [];rw [e] at f;obtain ⟨k,l,b,c⟩:=IQ (f.1 s (List.mem_cons_self ..));obtain ⟨t,t1,t2,t3⟩:=Ia (endsL (a++[])) b;have d:=comb_inB 2 a [] (t:=t) (fun h=>t3 t h rfl);rw [e] at d;have g:inB (s::r) t=true:=jt.2 ⟨s,List.mem_cons_self ..,c t t1 t2⟩;have i:inB [] t=false:=rfl;have j:opB 2 (inB a t) false=(inB a t&&false):=rfl;rw [g,i,j,Bool.and_false] at d;cases d
theorem Hm {v:Sp}(hv:v.can):v.meet fullSp=v:=by
 obtain ⟨c,d,a,b⟩:=v;unfold Sp.can at hv;unfold Sp.meet fullSp;cases a<;>cases b<;>simp at hv⊢<;> simp [hv]
theorem Hb {v:Sp}(hv:v.can):fullSp.meet v=v:=by
 obtain ⟨c,d,a,b⟩:=v;unfold Sp.can at hv;unfold Sp.meet fullSp;cases a<;>cases b<;>simp at hv⊢<;> simp [hv]
theorem vK {u:Sp}(hu:u.good):combL 2 [fullSp] [u]=[u]:=by
 rw [uP kf.1 hu.1,Hb hu.1,if_neg (by rw [hu.2];exact Bool.false_ne_true)]
theorem HH {l m:L3}{v:Sp}(hv:v.good):combL 2 [v] (combL 2 [fullSp] (halfU l m))=if lN l v m=true then [iJ l v m] else []:=by
 unfold halfU;by_cases b:crossL l m=0
 ·have a:dotL m l=0:=by rw [cross_dot] at b;grind
  have d:iJ l v m=v:=by unfold iJ;rw [a];rfl
  have c:lN l v m=decide ((uz m l).num.sign>0):=by unfold lN;rw [a];rfl
  rw [if_pos b,d,c];by_cases g:0<bg m (BB l 0) (BC l 0)
  ·rw [if_pos g,vK kf,uP hv.1 kf.1,Hm hv.1,if_neg (by rw [hv.2];exact Bool.false_ne_true),if_pos (decide_eq_true (show (uz m l).num.sign>0 from br.sE.2 g))]
  ·rw [if_neg g,comb_nil,comb_nil,if_neg (by rw [decide_eq_true_eq];exact fun h=>g (br.sE.1 h))]
 ·have a:dotL m l≠0:=fun e=>b (by rw [cross_dot,e];grind)
  have c:lN l v m=!(iJ l v m).emp:=by
   unfold lN;rcases Gg (dotL m l) with ⟨h,e⟩|⟨h,e⟩|⟨h,e⟩
   ·exact absurd h a
   ·rw [e];rfl
   ·rw [e];rfl
  have fin:∀{u:Sp},u.good->v.meet u=iJ l v m->combL 2 [v] (combL 2 [fullSp] [u])=if lN l v m=true then [iJ l v m] else []:=fun {u} hu e=>by
   rw [vK hu,uP hv.1 hu.1,e,c];cases (iJ l v m).emp<;>rfl
  rw [if_neg b];rcases Gg (dotL m l) with ⟨h,e⟩|⟨h,e⟩|⟨h,e⟩
  ·exact absurd h a
  ·rw [if_pos h];refine fin ⟨⟨(fun h=>by cases h),fun _=>rfl⟩,Sp.ic.2 (.inr (.inl rfl))⟩ ?_;unfold iJ;rw [e];rfl
  ·rw [if_neg (by grind)];refine fin ⟨⟨fun _=>rfl,(fun h=>by cases h)⟩,Sp.ic.2 (.inl rfl)⟩ ?_;unfold iJ;rw [e];rfl
theorem eh.up {k K:Nat}{l:L3}(h:eh k l)(hk:k<=K):eh K l:=⟨h.1.mono hk,h.2.1.mono hk,h.2.2.mono hk⟩
def SU (s:Sd):Prop:=Bd s.1/\s.2.sz 100000
theorem FT {x:Sd}:∀{r:List Sd} {i:Nat},i<=r.length->(∀k (h:k<r.length),k<i->br.fM (br.bw r[k].1) (br.bw x.1)<0)->(∀h:i<r.length,¬br.fM (br.bw r[i].1) (br.bw x.1)<0)->EB x r=r.take i++x::r.drop i
 | [],i,hi,_,_=>by simp [EB]
 | s::r,0,_,_,h=>by
  have:¬br.fM (br.bw s.1) (br.bw x.1)<0:=h (Nat.zero_lt_succ _);unfold EB;rw [if_neg this];rfl
 | s::r,i+1,hi,h1,h2=>by
  have:br.fM (br.bw s.1) (br.bw x.1)<0:=h1 0 (Nat.zero_lt_succ _) (Nat.zero_lt_succ _);unfold EB;rw [if_pos this,FT (r:=r) (i:=i) (by simpa using hi) (fun k hk a=>h1 (k+1) (by simpa using hk) (by omega)) fun h=>h2 (by simpa using h)];rfl
structure Bs (r:List Sd) (l:L3) (i j:Nat):Prop where
 le:i<=j
 len:j<=r.length
 lo:∀k (h:k<r.length),k<i->br.fM (br.bw r[k].1) (br.bw l)<0
 hi:∀h:j<r.length,¬br.fM (br.bw r[j].1) (br.bw l)<0
theorem Bs.start (r:List Sd)(l:L3):Bs r l 0 r.length:=⟨Nat.zero_le _,Nat.le_refl _,fun k h hk=>absurd hk (Nat.not_lt_zero _),fun h=>absurd h (Nat.lt_irrefl _)⟩
theorem Bs.up {r:List Sd}{l:L3}{i j h:Nat}(b:Bs r l i j)(asc:r.Pairwise fun s u=>br.fM (br.bw s.1) (br.bw u.1)<0)(h2:h<j)(hl:h<r.length)(hc:br.fM (br.bw r[h].1) (br.bw l)<0):Bs r l (h+1) j:=
 ⟨h2,b.len,fun k hk a=>by
  by_cases e:k=h
  ·subst e;exact hc
  ·exact K5 (List.pairwise_iff_getElem.1 asc k h hk hl (by omega)) hc,b.hi⟩
theorem Bs.down {r:List Sd}{l:L3}{i j h:Nat}(b:Bs r l i j)(h1:i<=h)(hl:h<r.length)(hc:¬br.fM (br.bw r[h].1) (br.bw l)<0):Bs r l i h:=
 ⟨h1,by omega,b.lo,fun _=>hc⟩
theorem Bs.done {r:List Sd}{l:L3}{i:Nat}(b:Bs r l i i)(v:Sp):EB (l,v) r=r.take i++(l,v)::r.drop i:=FT b.len b.lo b.hi
theorem RR.half (V:View):RR V (.agg #[.int .i64 1,.int .i64 1,.pointer none]) (((2:Int):Rat)⁻¹):=by
 have a:(((2:Int):Rat)⁻¹).num=1:=by decide +kernel
 have b:(((2:Int):Rat)⁻¹).den=2:=by decide +kernel
 refine .inl ⟨by rw [a,b];rfl,?_⟩;unfold Wd;rw [a,b];decide
def NP (V:View)(v:Value)(s:Sd):Prop:=lT V v s.1 s.2/\SU s
theorem NP.le {V V':View}{v:Value}{s:Sd}(h:NP V v s)(l:V.Le V'):NP V' v s:=⟨h.1.le l,h.2⟩
theorem NP.shape {V:View}{v:Value}{s:Sd}(h:NP V v s):∃(x1:Int)(x2:Int)(p:OA)(y1:Int)(y2:Int)(q:OA)(z1:Int)(z2:Int)(r:OA)(u1:Int)(u2:Int)(t:OA)(w1:Int)(w2:Int)(o:OA),v=.agg #[.int .i64 x1,.int .i64 x2,.pointer p,.int .i64 y1,.int .i64 y2,.pointer q,.int .i64 z1,.int .i64 z2,.pointer r,.int .i64 u1,.int .i64 u2,.pointer t,.int .i64 w1,.int .i64 w2,.pointer o,.bool s.2.a,.bool s.2.b]:=by
 obtain ⟨x1,x2,p,y1,y2,q,z1,z2,r,u1,u2,t,w1,w2,o,e,-⟩:=h.1;exact ⟨x1,x2,p,y1,y2,q,z1,z2,r,u1,u2,t,w1,w2,o,e⟩
theorem NP.both {V:View}{s:Sd}{x1:Int}{x2:Int}{p:OA}{y1:Int}{y2:Int}{q:OA}{z1:Int}{z2:Int}{r:OA}{u1:Int}{u2:Int}{t:OA}{w1:Int}{w2:Int}{o:OA}{c d:Bool}(h:NP V (.agg #[.int .i64 x1,.int .i64 x2,.pointer p,.int .i64 y1,.int .i64 y2,.pointer q,.int .i64 z1,.int .i64 z2,.pointer r,.int .i64 u1,.int .i64 u2,.pointer t,.int .i64 w1,.int .i64 w2,.pointer o,.bool c,.bool d]) s) :
  pg V (.agg #[.int .i64 x1,.int .i64 x2,.pointer p,.int .i64 y1,.int .i64 y2,.pointer q,.int .i64 z1,.int .i64 z2,.pointer r]) s.1/\lU V (.agg #[.int .i64 u1,.int .i64 u2,.pointer t,.int .i64 w1,.int .i64 w2,.pointer o,.bool s.2.a,.bool s.2.b]) s.2/\c=s.2.a/\d=s.2.b:=by
 obtain ⟨f,g,y,i,j,z,k,l,A,m,n,B,u,v,C,e,w,x⟩:=h.1;have e:=congrArg Array.toList (Value.agg.inj e);simp only [List.cons.injEq,Value.bool.injEq,Value.int.injEq,Value.pointer.injEq,true_and,and_true] at e;obtain ⟨rfl,rfl,rfl,rfl,rfl,rfl,rfl,rfl,rfl,rfl,rfl,rfl,rfl,rfl,rfl,rfl,rfl⟩:=e;exact ⟨w,x,rfl,rfl⟩
end Go.Proofs.Tryz
namespace Go.Eng
open Go.Lib
variable {P:Program}
end Go.Eng
namespace Go.Proofs.Tryz
open Go.Eng Go.RowKit Go.Lib
end Go.Proofs.Tryz
namespace Go.Proofs.Tryz
open Go.Eng
end Go.Proofs.Tryz
namespace Go.Proofs.Tryz
open Go.Eng Go.Big
def N6:Rat×Rat:=(0,0)
def P3 (a b:Rat×Rat):Int:=br.fM a b
def KH (V:View)(v:Value)(c:Rat×Rat):Prop:=jS V v c.1 c.2/\Sz 100000 c.1/\Sz 100000 c.2
theorem KH.le {V V':View}{v:Value}{c:Rat×Rat}(h:KH V v c)(l:V.Le V'):KH V' v c:=⟨h.1.le l,h.2⟩
theorem KH.shape {V:View}{v:Value}{c:Rat×Rat}(h:KH V v c):∃(x y:Int)(p:OA)(xb yb:Int)(pb:OA),v=.agg #[.int .i64 x,.int .i64 y,.pointer p,.int .i64 xb,.int .i64 yb,.pointer pb]:=by
 obtain ⟨⟨a,b,p,d,f,q,e,-⟩,-⟩:=h;exact ⟨_,_,_,_,_,_,e⟩
def eP (a b:Rat×Rat):Bool:=br.eP a b
def pT (p:Rat×Rat):Rat×Rat:=(p.1*(cJ p.1 p.2)⁻¹,p.2*(cJ p.1 p.2)⁻¹)
def SP (k:Nat)(V:View)(v:Value)(c:Rat×Rat):Prop:=jS V v c.1 c.2/\Sz k c.1/\Sz k c.2
theorem SP.le {k:Nat}{V V':View}{v:Value}{c:Rat×Rat}(h:SP k V v c)(l:V.Le V'):SP k V' v c:=⟨h.1.le l,h.2⟩
def Sa (V:View)(v:Value)(l:L3):Prop:=RL V v l.1 l.2.1 l.2.2
theorem Sa.le {V V':View}{v:Value}{l:L3}(h:Sa V v l)(e:V.Le V'):Sa V' v l:=RL.le h e
def Pv (ls:List L3):Bool:=decide (ls.length<=1024)&&ls.all lR
def Pz (V:View)(v:Value)(c:Rat×Rat):Prop:=RP V v c.1 c.2
theorem Pz.le {V V':View}{v:Value}{c:Rat×Rat}(h:Pz V v c)(l:V.Le V'):Pz V' v c:=RP.le h l
theorem Pz.shape {V:View}{v:Value}{c:Rat×Rat}(h:Pz V v c):∃(b:Bool)(p:OA)(n c:Nat)(p':OA)(n' c':Nat)(d:Bool)(q:OA)(m e:Nat)(q':OA)(m' e':Nat),v=.agg #[.bool b,.slice p n c,.slice p' n' c',.bool d,.slice q m e,.slice q' m' e']:=by
 obtain ⟨p,n,c,p',n',c',q,m,e,q',m',e',h,-⟩:=h;exact ⟨_,p,n,c,p',n',c',_,q,m,e,q',m',e',h⟩
theorem OJ {R:View->Value->Rat×Rat->Prop}(sh:∀{V v c},R V v c->∃(b:Bool)(p:OA)(n c:Nat)(p':OA)(n' c':Nat)(d:Bool)(q:OA)(m e:Nat)(q':OA)(m' e':Nat),v=.agg #[.bool b,.slice p n c,.slice p' n' c',.bool d,.slice q m e,.slice q' m' e'])
  {V:View}{p:OA}{n:Nat}{al:List (Rat×Rat)}(h:jW 6 R V p n al){i:Nat}(hi:i<al.length) :
  p.isSome=true/\∃(b1:Bool)(p1:OA)(n1 c1:Nat)(p2:OA)(n2 c2:Nat)(b2:Bool)(p3:OA)(n3 c3:Nat)(p4:OA)(n4 c4:Nat)(a:Addr),ah p (i*6)=some a/\V.at (a.add 0) (.bool b1)/\V.at (a.add 1) (.slice p1 n1 c1)/\V.at (a.add 2) (.slice p2 n2 c2)/\V.at (a.add 3) (.bool b2)/\V.at (a.add 4) (.slice p3 n3 c3)/\V.at (a.add 5) (.slice p4 n4 c4) /\
   R V (.agg #[.bool b1,.slice p1 n1 c1,.slice p2 n2 c2,.bool b2,.slice p3 n3 c3,.slice p4 n4 c4]) al[i]:=by
 obtain ⟨l,j,xs,o,k,f⟩:=h.at_ i hi;have g:=k;obtain ⟨_,_,_,_,_,_,_,_,_,_,_,_,_,_,e⟩:=sh k;have e:=congrArg Array.toList (Value.agg.inj e);dsimp only at e;subst e;refine ⟨?_,_,_,_,_,_,_,_,_,_,_,_,_,_,_,l,j,f 0 _ rfl,f 1 _ rfl,f 2 _ rfl,f 3 _ rfl,f 4 _ rfl,f 5 _ rfl,g⟩
 cases p with
 | none=>cases j
 | some a=>rfl
def pk (V:View)(v:Value)(c:Rat×Rat):Prop:=zM V v c.1 c.2
theorem pk.le {V V':View}{v:Value}{c:Rat×Rat}(h:pk V v c)(l:V.Le V'):pk V' v c:=zM.le h l
theorem pk.shape {V:View}{v:Value}{c:Rat×Rat}(h:pk V v c):∃(b:Bool)(p:OA)(n c:Nat)(p':OA)(n' c':Nat)(d:Bool)(q:OA)(m e:Nat)(q':OA)(m' e':Nat),v=.agg #[.bool b,.slice p n c,.slice p' n' c',.bool d,.slice q m e,.slice q' m' e']:=by
 obtain ⟨_,_,_,_,_,_,_,_,_,_,_,_,_,_,h,-⟩:=h;exact ⟨_,_,_,_,_,_,_,_,_,_,_,_,_,_,h⟩
def K3 (ls:List L3)(bad Xd:Prop)(some_:List Sd->Prop):Prop:=(Pv ls=false/\bad)\/(Pv ls=true/\qU ls [] []=none/\Xd)\/(Pv ls=true/\∃c,qU ls [] []=some c/\some_ c)
theorem K3.bad {ls:List L3}{p q:Prop}{s:List Sd->Prop}(h:K3 ls p q s)(e:Pv ls=false):p:=by
 rcases h with ⟨-,h⟩|⟨h,-⟩|⟨h,-⟩
 ·exact h
 ·rw [e] at h;cases h
 ·rw [e] at h;cases h
theorem K3.Xd {ls:List L3}{p q:Prop}{s:List Sd->Prop}(h:K3 ls p q s)(e:Pv ls=true)(e':qU ls [] []=none):q:=by
 rcases h with ⟨h,-⟩|⟨-,-,h⟩|⟨-,c,h,-⟩
 ·rw [e] at h;cases h
 ·exact h
 ·rw [e'] at h;cases h
theorem K3.some {ls:List L3}{p q:Prop}{s:List Sd->Prop}{c:List Sd}(h:K3 ls p q s)(e:Pv ls=true)(e':qU ls [] []=Option.some c):s c:=by
 rcases h with ⟨h,-⟩|⟨-,h,-⟩|⟨-,b,h,a⟩
 ·rw [e] at h;cases h
 ·rw [e'] at h;cases h
 ·rw [e'] at h;cases h;exact a
theorem K3.imp {ls:List L3}{p q p' q':Prop}{s s':List Sd->Prop}(h:K3 ls p q s)(hp:p->p')(hq:q->q')(hs:∀c,qU ls [] []=Option.some c->s c->s' c):K3 ls p' q' s':=by
 rcases h with ⟨h,a⟩|⟨h,b,a⟩|⟨h,c,b,a⟩
 ·exact .inl ⟨h,hp a⟩
 ·exact .inr (.inl ⟨h,b,hq a⟩)
 ·exact .inr (.inr ⟨h,c,b,hs c b a⟩)
def xD (x:L3):List L3->List L3
 | []=>[x]
 | y::r=>if sW y x<0 then y::xD x r else if y=x then y::r else x::y::r
def tm (a b:L3):Prop:=sW a b<0
theorem Ns {a b c:L3}(h:tm a b)(h':tm b c):tm a c:=by unfold tm at *;rw [pF] at *;omega
theorem Nr {a b:L3}(h:tm a b)(h':tm b a):False:=by unfold tm at *;rw [pF] at *;omega
theorem FZ {a:L3}(h:tm a a):False:=Nr h h
theorem Jj {a b:L3}(h:¬tm a b)(hne:a≠b):tm b a:=by
 have:¬(a.1=b.1/\a.2.1=b.2.1/\a.2.2=b.2.2):=fun ⟨c,d,e⟩=>hne (Prod.ext c (Prod.ext d e));unfold tm at *;rw [pF] at *;omega
theorem DU:∀{l m:List L3},l.Pairwise tm->m.Pairwise tm->(∀x,x∈l↔x∈m)->l=m
 | [],[],_,_,_=>rfl
 | [],b::m,_,_,h=>by have:=(h b).2 (by simp);cases this
 | a::l,[],_,_,h=>by have:=(h a).1 (by simp);cases this
 | a::l,b::m,h1,h2,h=>by
  obtain ⟨g,j⟩:=List.pairwise_cons.1 h1;obtain ⟨i,k⟩:=List.pairwise_cons.1 h2
  have e:a=b:=by
   rcases List.mem_cons.1 ((h a).1 (by simp)) with e|e
   ·exact e
   ·rcases List.mem_cons.1 ((h b).2 (by simp)) with d|d
    ·exact d.symm
    ·exact (Nr (i a e) (g b d)).elim
  subst e;rw [DU j k fun x=>⟨fun c=>?_,fun c=>?_⟩]
  ·rcases List.mem_cons.1 ((h x).1 (List.mem_cons_of_mem _ c)) with rfl|f
   ·exact (FZ (g _ c)).elim
   ·exact f
  ·rcases List.mem_cons.1 ((h x).2 (List.mem_cons_of_mem _ c)) with rfl|f
   ·exact (FZ (i _ c)).elim
   ·exact f
theorem vj {x y:L3}:∀{o:List L3},y∈xD x o↔y=x\/y∈o
 | []=>by simp [xD]
 | z::r=>by
  unfold xD;split
  ·simp only [List.mem_cons,vj (o:=r)];constructor
   ·rintro (h|h|h)<;>simp [h]
   ·rintro (h|h|h)<;>simp [h]
  ·split
   ·rename_i e;subst e;simp
   ·simp
theorem Ck {x:L3}:∀{o:List L3},o.Pairwise tm->(xD x o).Pairwise tm
 | [],_=>List.pairwise_singleton _ _
 | z::r,h=>by
  obtain ⟨h1,h2⟩:=List.pairwise_cons.1 h;unfold xD;split
  ·rename_i b;refine List.pairwise_cons.2 ⟨fun y a=>?_,Ck h2⟩;rcases vj.1 a with rfl|a
   ·exact b
   ·exact h1 y a
  ·rename_i b;split
   ·exact h
   ·rename_i c;have d:tm x z:=Jj b c;refine List.pairwise_cons.2 ⟨fun y a=>?_,h⟩;rcases List.mem_cons.1 a with rfl|a
    ·exact d
    ·exact Ns d (h1 y a)
end Go.Proofs.Tryz
namespace Go.Proofs.Tryz
open Go.Eng
set_option maxRecDepth 100000
end Go.Proofs.Tryz
namespace Go.Proofs.Tryz
open Go.Eng Go.Big
theorem jW.q {V:View}{p:OA}{n:Nat}{ls:List L3}(h:jW 6 Sa V p n ls):jW 6 KZ V p n ls:=⟨h.len,fun i a=>by
 obtain ⟨b,c,xs,d,e,f⟩:=h.at_ i a;exact ⟨b,c,xs,d,.inl e,f⟩⟩
def ER (p:Rat×Rat):Rat×Rat:=(-p.1,-p.2)
def Rs (l:L3):List (Rat×Rat):=[pT (br.bw l),ER (pT (br.bw l))]
def J4 (M:List L3):List (Rat×Rat):=M.flatMap Rs
structure MT (V:View) (n:Nat) (vs:List Value) (l:List (Rat×Rat)):Prop where
 row:Row 6 KH V vs l
 len:n=l.length
 lP:l.length<50
theorem MT.le {V V':View}{n:Nat}{vs:List Value}{l:List (Rat×Rat)}(h:MT V n vs l)(e:V.Le V'):MT V' n vs l:=⟨h.row.le fun _ _ g=>KH.le g e,h.len,h.lP⟩
theorem MT.get {V:View}{n:Nat}{vs:List Value}{l:List (Rat×Rat)}(h:MT V n vs l){k:Nat}(hk:k<l.length):∃(x y:Int)(p:OA)(xb yb:Int)(pb:OA),
  ((0+k*6)+6<=vs.length/\(vs.drop (0+k*6)).take 6=[.int .i64 x,.int .i64 y,.pointer p,.int .i64 xb,.int .i64 yb,.pointer pb])/\KH V (.agg #[.int .i64 x,.int .i64 y,.pointer p,.int .i64 xb,.int .i64 yb,.pointer pb]) (l.getD k N6):=by
 obtain ⟨xs,-,b,c,f⟩:=h.row.get (d:=N6) hk (by decide);have a:=b;obtain ⟨x,y,p,xb,yb,pb,e⟩:=b.shape;have e:=congrArg Array.toList (Value.agg.inj e);dsimp only at e;subst e;rw [Nat.zero_add];exact ⟨x,y,p,xb,yb,pb,⟨c,f⟩,a⟩
theorem MT.swap {V:View}{n:Nat}{vs:List Value}{l:List (Rat×Rat)}(h:MT V n vs l){i j:Nat}(hi:i<l.length)(hj:j<l.length){x y:Int}{p:OA}{xb yb:Int}{pb:OA}{x' y':Int}{p':OA}{Kz KB:Int}{pb':OA}
  (h1:KH V (.agg #[.int .i64 x,.int .i64 y,.pointer p,.int .i64 xb,.int .i64 yb,.pointer pb]) (l.getD i N6))(h2:KH V (.agg #[.int .i64 x',.int .i64 y',.pointer p',.int .i64 Kz,.int .i64 KB,.pointer pb']) (l.getD j N6)) :
  (0+i*6)+6<=vs.length/\(0+j*6)+6<=(aS vs (0+i*6) [.int .i64 x',.int .i64 y',.pointer p',.int .i64 Kz,.int .i64 KB,.pointer pb']).length /\
  MT V n (aS (aS vs (0+i*6) [.int .i64 x',.int .i64 y',.pointer p',.int .i64 Kz,.int .i64 KB,.pointer pb']) (0+j*6) [.int .i64 x,.int .i64 y,.pointer p,.int .i64 xb,.int .i64 yb,.pointer pb]) (nT N6 l i j):=by
 obtain ⟨-,-,-,a,-⟩:=h.row.get (d:=N6) hi (by decide);obtain ⟨-,-,-,b,-⟩:=h.row.get (d:=N6) hj (by decide);rw [Nat.zero_add,Nat.zero_add];refine ⟨a,by rw [fl (by exact a)];exact b,h.row.swap hi hj (by decide) rfl rfl h1 h2,by rw [fF];exact h.len,by rw [fF];exact h.lP⟩
def O4 (u w:Rat×Rat):Rat×Rat:=if br.cr u w>0 then (u.1+w.1,u.2+w.2) else (-u.2,u.1)
def Ka (D:List (Rat×Rat)):List (Rat×Rat):=if D=[] then [(1,0)] else br.Ry O4 D
theorem EO (n:Int){d:Nat}(h:d≠0):mkRat n d*((d:Nat):Rat)=(n:Rat):=by
 have a:((d:Nat):Rat)≠0:=by exact_mod_cast h
 rw [Rat.mkRat_eq_div,Rat.div_def];exact br.inv_mul a _
theorem IM {p:Rat×Rat}(h:br.nz p):cJ p.1 p.2>0:=by
 have a:p.1.den*p.2.den≠0:=Nat.mul_ne_zero p.1.den_nz p.2.den_nz;have e:=EO (Nat.gcd (p.1.num.natAbs*p.2.den) (p.2.num.natAbs*p.1.den):Nat) a
 have b:0<Nat.gcd (p.1.num.natAbs*p.2.den) (p.2.num.natAbs*p.1.den):=by
  apply Nat.pos_of_ne_zero;intro z;rw [Nat.gcd_eq_zero_iff] at z
  have c:p.1=0:=by
   rcases Nat.mul_eq_zero.1 z.1 with e|e
   ·exact Rat.num_eq_zero.1 (by omega)
   ·exact absurd e p.2.den_nz
  have d:p.2=0:=by
   rcases Nat.mul_eq_zero.1 z.2 with e|e
   ·exact Rat.num_eq_zero.1 (by omega)
   ·exact absurd e p.1.den_nz
  unfold br.nz at h;rcases h with h|h
  ·exact h c
  ·exact h d
 have d0:((p.1.den*p.2.den:Nat):Rat)>0:=by exact_mod_cast Nat.pos_of_ne_zero a
 have g:(((Nat.gcd (p.1.num.natAbs*p.2.den) (p.2.num.natAbs*p.1.den):Nat):Int):Rat)>0:=by exact_mod_cast b
 show mkRat _ _>0;generalize mkRat ((Nat.gcd (p.1.num.natAbs*p.2.den) (p.2.num.natAbs*p.1.den):Nat):Int) (p.1.den*p.2.den)=q at *;by_cases f:q>0
 ·exact f
 ·have:=br.mn (show -q≥0 by grind) (show ((p.1.den*p.2.den:Nat):Rat)≥0 by grind);grind
theorem CK {p:Rat×Rat}(h:br.nz p):∃c:Rat,c>0/\pT p=(c*p.1,c*p.2):=
 ⟨(cJ p.1 p.2)⁻¹,Rat.inv_pos.2 (IM h),Prod.ext (Rat.mul_comm ..) (Rat.mul_comm ..)⟩
theorem F5 {l:L3}(h:¬(l.1=0/\l.2.1=0)):br.nz (br.bw l):=by
 unfold br.nz br.bw;by_cases e:l.2.1=0
 ·right;intro a;have:(l.1:Rat)=0:=by grind
  exact h ⟨by exact_mod_cast this,e⟩
 ·left;show (l.2.1:Rat)≠0
  exact_mod_cast e
def Tk (s a:Bool):Int:=if a then 2 else if s then 1 else 0
def Fz (t:Tr)(p:Rat×Rat)(c:Int):Prop:=∀D S,br.MQ D->br.Se D S->br.Pf D (br.km t p)->c=Tk (br.anyS t p S) (br.K4 t p S)
theorem LW {q:L3->Prop}{t:Tr}(h:t.KD q){p:Rat×Rat}:∀l∈br.km t p,q l:=fun l a=>Av h l (br.vE a).2
theorem Ms {u w:Rat×Rat}(h:br.cr u w≥0):br.Gv u w (O4 u w):=by
 unfold O4;by_cases g:br.cr u w>0
 ·rw [if_pos g];exact .inl ⟨g,1,1,by decide,by decide,Prod.ext (by unfold br.KR;grind) (by unfold br.KR;grind)⟩
 ·rw [if_neg g];exact .inr ⟨by grind,1,by decide,Prod.ext (by unfold br.KR br.RH;grind) (by unfold br.KR br.RH;grind)⟩
theorem HD {D:List (Rat×Rat)}(h:br.MQ D):br.Se D (Ka D):=by
 unfold Ka;by_cases e:D=[]
 ·rw [if_pos e];exact .inl ⟨e,rfl⟩
 ·rw [if_neg e];exact br.Mq h (fun u _ w _ a=>Ms a) e
theorem Me {M:List L3}(ho:∀l∈M,¬(l.1=0/\l.2.1=0)){m:List (Rat×Rat)}(pm:m.Perm (J4 M))(pw:m.Pairwise fun x y=>¬P3 y x<0):br.MQ (gC eP m)/\br.Pf (gC eP m) M:=by
 have mem:∀r,r∈m↔∃l∈M,r=pT (br.bw l)\/r=ER (pT (br.bw l)):=fun r=>by
  rw [pm.mem_iff];unfold J4 Rs;simp only [List.mem_flatMap,List.mem_cons,List.not_mem_nil,or_false]
 have key:=br.OX (m:=m) pw ?_ ?_
 ·obtain ⟨j,k⟩:=key;refine ⟨j,fun l a=>?_⟩;obtain ⟨y,n,c,o,e⟩:=k (pT (br.bw l)) ((mem _).2 ⟨l,a,.inl rfl⟩);obtain ⟨d,d0,g⟩:=CK (F5 (ho l a));refine ⟨y,n,c*d,br.mp o d0,?_⟩;rw [e,g];exact Prod.ext (by show c*(d*_)=_;grind) (by show c*(d*_)=_;grind)
 ·intro r i;obtain ⟨l,a,h⟩:=(mem r).1 i;have b:=F5 (ho l a);obtain ⟨d,d0,g⟩:=CK b
  have f:br.nz (pT (br.bw l)):=by
   rw [g];unfold br.nz at b ⊢;rcases b with b|b
   ·exact .inl fun h=>by rcases Rat.mul_eq_zero.1 h with h|h;grind;exact b h
   ·exact .inr fun h=>by rcases Rat.mul_eq_zero.1 h with h|h;grind;exact b h
  rcases h with rfl|rfl
  ·exact f
  ·unfold br.nz ER at *;rcases f with f|f
   ·exact .inl (by show -(pT (br.bw l)).1≠0;grind)
   ·exact .inr (by show -(pT (br.bw l)).2≠0;grind)
 ·intro r i;obtain ⟨l,a,h⟩:=(mem r).1 i;rcases h with rfl|rfl
  ·exact ⟨_,(mem _).2 ⟨l,a,.inr rfl⟩,1,by decide,by unfold ER;grind,by unfold ER;grind⟩
  ·exact ⟨_,(mem _).2 ⟨l,a,.inl rfl⟩,1,by decide,by unfold ER;grind,by unfold ER;grind⟩
def KE (V:View)(w:Value)(p:Rat×Rat):Prop:=(∃b q n c q' n' c' d r m e r' m' e',w=.agg #[.bool b,.slice q n c,.slice q' n' c',.bool d,.slice r m e,.slice r' m' e']) /\
 ∀V1,V.Le V1->ae prog 51 #[w] V1 fun r V'=>jS V' r p.1 p.2
theorem KE.le {V V':View}{w:Value}{p:Rat×Rat}(h:KE V w p)(l:V.Le V'):KE V' w p:=⟨h.1,fun a b=>h.2 a (l.trans b)⟩
theorem KE.of {V:View}{w:Value}{p:Rat×Rat}(h:zM V w p.1 p.2){k:Nat}(s1:Sz k p.1)(s2:Sz k p.2)(hk:k<=1099511627776):KE V w p:=by
 refine ⟨?_,fun f a=>fP (h.le a) s1 s2 hk⟩;obtain ⟨b,q,n,c,g,i,j,d,r,m,e,l,o,s,rfl,-⟩:=h;exact ⟨_,_,_,_,_,_,_,_,_,_,_,_,_,_,rfl⟩
theorem KE.raw {V:View}{b d:Bool}{q q' r r':OA}{n c n' c' m e m' e':Nat}{xs ys us vs:List Nat}(h1:RD V q n c xs)(h2:RD V q' n' c' ys)(h3:RD V r m e us)(h4:RD V r' m' e' vs)(k1:xs.length<=1000000)(k2:ys.length<=1000000)(k3:us.length<=1000000)(k4:vs.length<=1000000) :
  KE V (.agg #[.bool b,.slice q n c,.slice q' n' c',.bool d,.slice r m e,.slice r' m' e']) (mkRat (aW b xs) (val ys),mkRat (aW d us) (val vs)):=by
 refine ⟨⟨_,_,_,_,_,_,_,_,_,_,_,_,_,_,rfl⟩,fun o a=>?_⟩;refine sM b q n c q' n' c' d r m e r' m' e' o _ fun t f=>(kG b (h1.le (a.trans f)) (h2.le (a.trans f)) (by omega) (by omega)).mono ?_;rintro r V2 j g;have p:=g;obtain ⟨u,v,w,rfl⟩:=g.shape;refine ⟨_,_,_,rfl,fun x h=>(kG d (h3.le (a.trans (f.trans (j.trans h)))) (h4.le (a.trans (f.trans (j.trans h)))) (by omega) (by omega)).mono ?_⟩;rintro r y s k;have i:=k;obtain ⟨z,A,B,rfl⟩:=k.shape;exact ⟨_,_,_,rfl,fun C l=>⟨_,_,_,_,_,_,rfl,p.le (h.trans (s.trans l)),i.le l⟩⟩
theorem KE.zero {V:View}:KE V (.agg #[.bool false,.slice none 0 0,.slice none 0 0,.bool false,.slice none 0 0,.slice none 0 0]) (0,0):=by
 have e:mkRat (aW false []) (val [])=0:=by decide
 have:=@KE.raw V false false none none none none 0 0 0 0 0 0 0 0 [] [] [] [] RD.nil RD.nil RD.nil RD.nil (by decide) (by decide) (by decide) (by decide);rw [e] at this;exact this
def Pg (k:Nat)(V:View)(v:Value)(c:Rat×Rat):Prop:=RP V v c.1 c.2/\Sz k c.1/\Sz k c.2
theorem Pg.le {k:Nat}{V V':View}{v:Value}{c:Rat×Rat}(h:Pg k V v c)(l:V.Le V'):Pg k V' v c:=⟨h.1.le l,h.2⟩
theorem Pg.mono {k m:Nat}{V:View}{v:Value}{c:Rat×Rat}(h:Pg k V v c)(l:k<=m):Pg m V v c:=⟨h.1,h.2.1.mono l,h.2.2.mono l⟩
theorem AT.leaf {V:View}(i:Bool):AT V (.agg #[.int .i64 (rt 0 (.leaf i)),.slice none 0 0]) (rt 0 (.leaf i)) (wr 0 (.leaf i)):=⟨_,_,_,rfl,NS.nil⟩
def Gw (V:View)(vs:List Value)(i:Nat)(d:Nd):Prop:=∃(b1:Bool)(p1:OA)(n1 c1:Nat)(b2:Bool)(p2:OA)(n2 c2:Nat)(b3:Bool)(p3:OA)(n3 c3:Nat),
 (∀j v,([.bool b1,.slice p1 n1 c1,.bool b2,.slice p2 n2 c2,.bool b3,.slice p3 n3 c3,.int .i64 d.left,.int .i64 d.right]:List Value)[j]?=some v->vs[i*8+j]?=some v) /\
 KZ V (.agg #[.bool b1,.slice p1 n1 c1,.bool b2,.slice p2 n2 c2,.bool b3,.slice p3 n3 c3]) d.ln
theorem Gw.le {V V':View}{vs:List Value}{i:Nat}{d:Nd}(h:Gw V vs i d)(hl:V.Le V'):Gw V' vs i d:=by
 obtain ⟨b1,a,b,c,b2,e,f,g,b3,j,k,l,m,n⟩:=h;exact ⟨b1,a,b,c,b2,e,f,g,b3,j,k,l,m,n.le hl⟩
theorem JU {vs xs:List Value}{k i:Nat}(hx:xs.length=8)(h:k*8+8<=vs.length)(hi:i<k*8\/k*8+8<=i):(vs.take (k*8)++xs++vs.drop (k*8+8))[i]?=vs[i]?:=by
 have a:(vs.take (k*8)).length=k*8:=by rw [List.length_take];omega
 rcases hi with hi|hi
 ·rw [List.append_assoc,List.getElem?_append_left (by omega),List.getElem?_take,if_pos hi]
 ·rw [List.getElem?_append_right (by rw [List.length_append];omega),List.length_append,a,hx,List.getElem?_drop];congr 1;omega
theorem Zx {a b c d e f g h v:Value}{j:Nat}(hv:([a,b,c,d,e,f,g,h]:List Value)[j]?=some v):j<8:=by
 rcases Nat.lt_or_ge j 8 with i|i
 ·exact i
 ·rw [List.getElem?_eq_none (by simpa using i)] at hv;cases hv
theorem Gw.out {V:View}{vs xs:List Value}{k i:Nat}{d:Nd}(h:Gw V vs i d)(hx:xs.length=8)(hk:k*8+8<=vs.length)(hi:i≠k):Gw V (vs.take (k*8)++xs++vs.drop (k*8+8)) i d:=by
 obtain ⟨b1,b,c,e,b2,f,g,l,b3,m,n,o,p,q⟩:=h;refine ⟨b1,b,c,e,b2,f,g,l,b3,m,n,o,fun j v a=>?_,q⟩;have:=Zx a;rw [JU hx hk (by omega)];exact p j v a
theorem HF (l:List (Rat×Rat)):∃m:List (Rat×Rat),m.Perm l/\m.Pairwise fun x y=>¬P3 y x<0:=by
 refine ⟨l.mergeSort (fun x y=>decide (¬P3 y x<0)),List.mergeSort_perm ..,?_⟩;refine (List.pairwise_mergeSort (le:=fun x y=>decide (¬P3 y x<0)) (fun a b c d e=>?_) (fun a b=>?_) l).imp fun h=>of_decide_eq_true h
 ·exact decide_eq_true (br.uu c b a (of_decide_eq_true e) (of_decide_eq_true d))
 ·by_cases h:P3 b a<0
  ·have:=br.FB b a h;rw [Bool.or_eq_true];exact .inr (decide_eq_true this)
  ·rw [Bool.or_eq_true];exact .inl (decide_eq_true h)
theorem indep {t:Tr}{l:L3}(ho:(Tr.node l t t).KD fun l=>¬(l.1=0/\l.2.1=0)){p:Rat×Rat}{a b:Int}(h1:Fz t p a)(h2:Fz (.node l t t) p b):a=b:=by
 obtain ⟨m,pm,g⟩:=HF (J4 (br.km (.node l t t) p));obtain ⟨d,f⟩:=Me (LW ho) pm g;have sm:=HD d
 have sub:∀x∈br.km t p,x∈br.km (.node l t t) p:=fun x c=>by
  rw [br.km];by_cases e:bg l p.1 p.2≥0
  ·rw [if_pos e];exact List.mem_append_right _ (List.mem_append_left _ c)
  ·rw [if_pos (show bg l p.1 p.2<=0 by grind)];exact List.mem_append_right _ (List.mem_append_right _ c)
 have i:=h1 _ _ d sm fun l j=>f l (sub l j);have k:=h2 _ _ d sm f;generalize Ka (gC eP m)=S at *
 have key:∀v∈S,br.C_ (.node l t t) p v=br.C_ t p v:=fun v o=>by
  have n:=f.gen (br.Mt d sm v o);have:=(br.wk n fun l _=>⟨id,id⟩).2;rw [br.C_] at this ⊢;split
  ·rfl
  ·rename_i q;rw [if_neg q] at this;split
   ·rfl
   ·rename_i r;rw [if_neg r] at this;cases this
 have s:br.anyS (.node l t t) p S=br.anyS t p S:=by
  unfold br.anyS;rw [Bool.eq_iff_iff,List.any_eq_true,List.any_eq_true];constructor
  ·rintro ⟨x,c,h⟩;exact ⟨x,c,by rw [←key x c];exact h⟩
  ·rintro ⟨x,c,h⟩;exact ⟨x,c,by rw [key x c];exact h⟩
 have u:br.K4 (.node l t t) p S=br.K4 t p S:=by
  unfold br.K4;rw [Bool.eq_iff_iff,List.all_eq_true,List.all_eq_true];constructor
  ·intro h x c;rw [←key x c];exact h x c
  ·intro h x c;rw [key x c];exact h x c
 rw [i,k,s,u]
end Go.Proofs.Tryz
namespace Go.Eng
def View.bare (V:View)(b:Nat):View:=⟨V.w,fun x=>V.H x/\x≠b,fun x=>V.X x/\x≠b,fun x h=>V.hH x h.1,fun x h=>⟨V.hX x h.1,h.2⟩⟩
theorem ae.bare {P:Program}{f:FuncId}{args:Array Value}{V:View}{b:Nat}{R:Value->View->Prop}(hs:b<V.w.heap.size)(h:ae P f args (V.bare b) R) :
  ae P f args V fun r V'=>V'.w.heap[b]?=V.w.heap[b]?/\R r (V'.bare b):=by
 refine ⟨h.1,h.2.mono fun _ g ⟨r,he,a,c⟩=>⟨r,he,⟨a.size,fun x d e=>a.bC x d fun h=>e h.1,a.os,a.tape,a.out⟩,a.bC b hs (fun h=>h.2 rfl),c⟩⟩
def MP (V:View)(b:Nat):Prop:=∃(cs:Array Value)(ty:TypeId)(m:Nat×Nat),V.w.heap[b]?=some (.cells cs ty m)/\∀v∈cs,∀k z,v≠.int k z
theorem MP.ne {V:View}{b:Nat}(h:MP V b){a:Addr}{k:IntKind}{z:Int}(ha:(V.bare b).at a (.int k z)):a.block≠b:=by
 obtain ⟨cs,ty,m,hb,f⟩:=h;intro e;have c:=ha.2;unfold World.cell? at c;rw [e] at c;have d:(V.bare b).w.heap[b]?=some (.cells cs ty m):=hb;rw [d] at c;dsimp only at c;split at c
 ·cases c
 ·obtain ⟨g,i⟩:=Array.getElem?_eq_some_iff.1 c;exact f _ (i▸Array.getElem_mem g) k z rfl
end Go.Eng
namespace Go.Proofs.Tryz
open Go.Eng Go.Big
end Go.Proofs.Tryz
namespace Go.Proofs.Tryz
open Go.Eng
set_option maxRecDepth 100000
end Go.Proofs.Tryz
namespace Go.Proofs.Tryz
open Go.Eng Go.Big
def sideL (m:L3)(k:Int):L3:=if k=1 then m else revL m
theorem Ke (m l:L3)(k:Int):dotL (sideL m k) l=if k=1 then dotL m l else -dotL m l:=by
 unfold sideL;split
 ·rfl
 ·exact dot_rev ..
theorem side_cross (m l:L3)(k:Int):crossL l (sideL m k)=0↔crossL l m=0:=by
 rw [cross_dot,cross_dot,Ke];split<;>grind
def SQ (V:View)(v:Value)(p:Rat×Rat):Prop:=RP V v p.1 p.2
theorem SQ.le {V V':View}{v:Value}{p:Rat×Rat}(h:SQ V v p)(l:V.Le V'):SQ V' v p:=RP.le h l
def SO (V:View)(v:Value)(x:L3×Sp):Prop:=RF V v x.1 x.2
theorem SO.le {V V':View}{v:Value}{x:L3×Sp}(h:SO V v x)(l:V.Le V'):SO V' v x:=RF.le h l
theorem Q8 {b1:Bool}{p1:OA}{n1 c1:Nat}{b2:Bool}{p2:OA}{n2 c2:Nat}{b3:Bool}{p3:OA}{n3 c3:Nat}{b:Bool}{q1:OA}{m1 e1:Nat}{q2:OA}{m2 e2:Nat}{d:Bool}{q3:OA}{m3 e3:Nat}{q4:OA}{m4 e4:Nat}{x y:Bool} :
  ∀v∈([.bool b1,.slice p1 n1 c1,.bool b2,.slice p2 n2 c2,.bool b3,.slice p3 n3 c3,.bool b,.slice q1 m1 e1,.slice q2 m2 e2,.bool d,.slice q3 m3 e3,.slice q4 m4 e4,.bool x,.bool y]:List Value),v.oneCell'=true:=by
 intro v a;simp only [List.mem_cons,List.not_mem_nil,or_false] at a;rcases a with rfl|rfl|rfl|rfl|rfl|rfl|rfl|rfl|rfl|rfl|rfl|rfl|rfl|rfl<;>rfl
def splS (l:L3)(s:Sp)(m:L3):List (L3×Sp):=(combL 2 [s] (halfU l m)).map fun u=>(l,u)
theorem CO:∀{a b:List Rat},asc a->asc b->(∀x,x∈a↔x∈b)->a=b
 | [],[],_,_,_=>rfl
 | [],y::b,_,_,h=>by have:=(h y).2 (List.mem_cons_self ..);cases this
 | x::a,[],_,_,h=>by have:=(h x).1 (List.mem_cons_self ..);cases this
 | x::a,y::b,h1,h2,h=>by
  obtain ⟨g,j⟩:=List.pairwise_cons.1 h1;obtain ⟨i,l⟩:=List.pairwise_cons.1 h2
  have e:x=y:=by
   rcases List.mem_cons.1 ((h x).1 (List.mem_cons_self ..)) with e|e
   ·exact e
   ·rcases List.mem_cons.1 ((h y).2 (List.mem_cons_self ..)) with c|c
    ·exact c.symm
    ·have:=g y c;have:=i x e;grind
  subst e;rw [CO j l fun z=>?_];have d:=h z;rw [List.mem_cons,List.mem_cons] at d;refine ⟨fun k=>?_,fun k=>?_⟩
  ·rcases d.1 (.inr k) with rfl|f
   ·exact absurd (g z k) (by grind)
   ·exact f
  ·rcases d.2 (.inr k) with rfl|f
   ·exact absurd (i z k) (by grind)
   ·exact f
def eQ (a b:Rat):Bool:=decide (a=b)
theorem IC:∀{r:List Rat} {p:Rat},(p::r).Pairwise (fun x y=>¬y<x)->asc (kd eQ p r)/\(∀x∈kd eQ p r,p<x)/\∀x,x∈p::kd eQ p r↔x∈p::r
 | [],p,_=>⟨List.Pairwise.nil,(fun x h=>by cases h),fun x=>Iff.rfl⟩
 | a::r,p,h=>by
  obtain ⟨h1,h2⟩:=List.pairwise_cons.1 h;obtain ⟨i1,i2,i3⟩:=IC h2;unfold kd;by_cases e:a=p
  ·subst e;rw [if_pos (by simp [eQ])];refine ⟨i1,i2,fun x=>?_⟩;rw [i3 x];simp
  ·rw [if_neg (by simp [eQ,e])];have b:p<a:=by have:=h1 a (by simp);grind
   refine ⟨List.pairwise_cons.2 ⟨i2,i1⟩,fun x c=>?_,fun x=>?_⟩
   ·rcases List.mem_cons.1 c with rfl|c
    ·exact b
    ·have:=i2 x c;grind
   ·have:=i3 x;show x∈p::a::kd eQ a r↔x∈p::a::r;rw [List.mem_cons,this,←List.mem_cons]
theorem N3 {m:List Rat}(h:m.Pairwise (fun x y=>¬y<x)):asc (gC eQ m)/\∀x,x∈gC eQ m↔x∈m:=by
 cases m with
 | nil=>exact ⟨List.Pairwise.nil,fun x=>Iff.rfl⟩
 | cons p r=>
  obtain ⟨a,b,c⟩:=IC h;exact ⟨List.pairwise_cons.2 ⟨b,a⟩,c⟩
def ascL (l:List Rat):List Rat:=l.foldl (fun o x=>dj x o) []
theorem ascL_spec (l:List Rat):asc (ascL l)/\∀x,x∈ascL l↔x∈l:=by
 have:∀(l o:List Rat),asc o->asc (l.foldl (fun o x=>dj x o) o)/\∀x,x∈l.foldl (fun o x=>dj x o) o↔x∈o\/x∈l:=by
  intro l
  induction l with
  | nil=>intro o h;exact ⟨h,fun x=>by simp⟩
  | cons y r ih=>
   intro o h;obtain ⟨a,b⟩:=ih (dj y o) (Cl h);refine ⟨a,fun x=>?_⟩;rw [List.foldl_cons,b x,vk,List.mem_cons];constructor
   ·rintro ((h|h)|h)<;>simp [h]
   ·rintro (h|h|h)<;>simp [h]
 obtain ⟨a,b⟩:=this l [] List.Pairwise.nil;exact ⟨a,fun x=>by rw [ascL,b x];simp⟩
theorem GJ {l m:List Rat}(hp:m.Perm l)(h:m.Pairwise (fun x y=>¬y<x)):gC eQ m=ascL l:=by
 obtain ⟨a,b⟩:=N3 h;obtain ⟨c,d⟩:=ascL_spec l;exact CO a c fun x=>by rw [b x,d x];exact hp.mem_iff
def chop:Sp->List Rat->List Sp
 | s,[]=>[s]
 | s,t::r=>⟨s.lo,t,s.a,false⟩::chop ⟨t,s.hi,false,s.b⟩ r
theorem Hf {l m:L3}:∀u∈halfU l m,u.good:=fun u hu=>by
 unfold halfU at hu;split at hu
 ·split at hu
  ·rw [List.mem_singleton.1 hu];exact kf
  ·cases hu
 ·split at hu
  ·rw [List.mem_singleton.1 hu];exact ⟨⟨(fun h=>by cases h),fun _=>rfl⟩,rfl⟩
  ·rw [List.mem_singleton.1 hu];exact ⟨⟨fun _=>rfl,(fun h=>by cases h)⟩,rfl⟩
theorem JE (l m:L3):combL 2 [fullSp] (halfU l m)=halfU l m:=by
 rcases He l m with h|⟨u,h,-⟩
 ·rw [h,comb_nil]
 ·rw [h];exact vK (Hf u (by rw [h];exact List.mem_singleton.2 rfl))
theorem spl_side {l m:L3}{s:Sp}(hs:s.good):splS l s m=sideF l s m:=by
 have h:=HH (l:=l) (m:=m) hs;rw [JE] at h;unfold splS sideF;rw [h];split<;>rfl
def lO:Rat:=0
def KJ (a b:Rat):Int:=cmpQ a b
theorem DX {a b:Rat}:KJ a b<0↔a<b:=cmpQ_neg
theorem Ny:Ord KJ:=⟨fun a b h=>by rw [DX] at *;grind,fun a b d c e=>by rw [DX] at *;grind⟩
def tW (V:View)(v:Value)(c:Rat):Prop:=RR V v c/\Sz 1000000 c
theorem tW.le {V V':View}{v:Value}{c:Rat}(h:tW V v c)(l:V.Le V'):tW V' v c:=⟨h.1.le l,h.2⟩
theorem tW.shape {V:View}{v:Value}{c:Rat}(h:tW V v c):∃(x y:Int)(p:OA),v=.agg #[.int .i64 x,.int .i64 y,.pointer p]:=by
 obtain ⟨x,y,p,e⟩:=h.1.shape;exact ⟨_,_,_,e⟩
theorem D1 {V:View}{v w:Value}{a b:Rat}(h:tW V v a)(h':tW V w b):ae prog 111 #[v,w] V fun r V'=>r=.int .i64 (KJ a b):=
 eI h.1 h'.1 h.2 h'.2 (by omega)
def eR (a b:Rat):Bool:=eQ a b
theorem Iw {V:View}{v w:Value}{a b:Rat}(h:tW V v a)(h':tW V w b):ae prog 90 #[v,w] V fun r V'=>r=.bool (eR a b):=
 ir h.1 h'.1 h.2 h'.2 (by omega)
structure zN (V:View) (n:Nat) (vs:List Value) (l:List Rat):Prop where
 row:Row 3 tW V vs l
 len:n=l.length
 lP:l.length<50
theorem zN.le {V V':View}{n:Nat}{vs:List Value}{l:List Rat}(h:zN V n vs l)(e:V.Le V'):zN V' n vs l:=⟨h.row.le fun _ _ g=>tW.le g e,h.len,h.lP⟩
theorem zN.get {V:View}{n:Nat}{vs:List Value}{l:List Rat}(h:zN V n vs l){k:Nat}(hk:k<l.length):∃(x y:Int)(p:OA),
  ((0+k*3)+3<=vs.length/\(vs.drop (0+k*3)).take 3=[.int .i64 x,.int .i64 y,.pointer p])/\tW V (.agg #[.int .i64 x,.int .i64 y,.pointer p]) (l.getD k lO):=by
 obtain ⟨xs,-,b,c,f⟩:=h.row.get (d:=lO) hk (by decide);have a:=b;obtain ⟨x,y,p,e⟩:=b.shape;have e:=congrArg Array.toList (Value.agg.inj e);dsimp only at e;subst e;rw [Nat.zero_add];exact ⟨x,y,p,⟨c,f⟩,a⟩
theorem zN.swap {V:View}{n:Nat}{vs:List Value}{l:List Rat}(h:zN V n vs l){i j:Nat}(hi:i<l.length)(hj:j<l.length){x y:Int}{p:OA}{x' y':Int}{p':OA}
  (h1:tW V (.agg #[.int .i64 x,.int .i64 y,.pointer p]) (l.getD i lO))(h2:tW V (.agg #[.int .i64 x',.int .i64 y',.pointer p']) (l.getD j lO)) :
  (0+i*3)+3<=vs.length/\(0+j*3)+3<=(aS vs (0+i*3) [.int .i64 x',.int .i64 y',.pointer p']).length /\
  zN V n (aS (aS vs (0+i*3) [.int .i64 x',.int .i64 y',.pointer p']) (0+j*3) [.int .i64 x,.int .i64 y,.pointer p]) (nT lO l i j):=by
 obtain ⟨-,-,-,a,-⟩:=h.row.get (d:=lO) hi (by decide);obtain ⟨-,-,-,b,-⟩:=h.row.get (d:=lO) hj (by decide);rw [Nat.zero_add,Nat.zero_add];refine ⟨a,by rw [fl (by exact a)];exact b,h.row.swap hi hj (by decide) rfl rfl h1 h2,by rw [fF];exact h.len,by rw [fF];exact h.lP⟩
def H4 (lb n:Nat)(l:List Rat)(a b:Nat)(V':View)(Q:List Rat->Prop):Prop:=∃vs' l',V'.w.heap[lb]?=some (.cells vs'.toArray 98 (0,0))/\zN V' n vs' l'/\lB lO l l' a b/\Q l'
theorem qR {V:View}{lb n c:Nat}{vs:List Value}{l:List Rat}(hw:V.w.heap[lb]?=some (.cells vs.toArray 98 (0,0)))(hx:V.X lb)(h:zN V n vs l){a b:Nat}(wZ:a<=b)(hb:b<=l.length) :
  ae prog 206 #[.slice (some ⟨lb,0,none⟩) n c,.int .i64 a,.int .i64 b,.func (.func 111) #[] #[]] V fun r V'=>r=.tuple #[]/\H4 lb n l a b V' fun l'=>pf KJ lO l' a b:=by
 have lP:=h.lP;have len:=h.len;have M:i64.wrap ((a:Int)+1)=((a+1:Nat):Int):=by rw [aw (by omega)];omega
 refine fK lb n c vs a b V _ hw hx ⟨fun z V'=>∃(i:Nat)(m:List Rat),z.1=(i:Int)/\a<i/\(i<=b\/i=a+1)/\zN V' n z.2 m/\lB lO l m a b/\pf KJ lO m a i,fun z=>(b-z.1).toNat,
  ⟨(_,vs),by and_intros<;>rfl,a+1,l,M,by omega,.inr rfl,h,.refl _ _ _,.short (by omega)⟩,?_⟩
 rintro ⟨z,us⟩ T U ⟨i,m,e,N,q,f,d,o⟩;dsimp only at e f;subst e;dsimp only;have W:m.length=l.length:=d.len;refine ⟨rfl,fun g=>?_,fun g Y O P=>⟨rfl,us,m,P,f.le O,d,?_⟩⟩
 ·have g:(i:Int)<b:=of_decide_eq_true g;have Q:i64.wrap ((i:Int)+1)=((i+1:Nat):Int):=by rw [aw (by omega)];omega
  rw [Q];refine ⟨fun z V'=>∃(j:Nat)(k:List Rat),z.1=(j:Int)/\a<=j/\j<=i/\zN V' n z.2 k/\lB lO l k a b/\KF KJ lO k a i j,fun z=>z.1.toNat,⟨((i:Int),us),by and_intros<;>rfl,i,m,rfl,by omega,Nat.le_refl _,f,d,.start o⟩,?_⟩;rintro ⟨z,ws⟩ V2 Z ⟨j,k,e,R,u,f,d,p⟩;dsimp only at e f;subst e;dsimp only;have kl:k.length=l.length:=d.len;refine ⟨rfl,fun z V'=>V2.Le V'/\(z=true->a<j/\KJ (k.getD j lO) (k.getD (j-1) lO)<0)/\(z=false->j<=a\/¬KJ (k.getD j lO) (k.getD (j-1) lO)<0),⟨fun s=>?_,fun s=>?_⟩,?_⟩
  ·have s:(j:Int)>a:=of_decide_eq_true s;have y:i64.wrap ((j:Int)-1)=((j-1:Nat):Int):=by rw [aw (by omega)];omega
   rw [y,Int.toNat_natCast,Int.toNat_natCast];obtain ⟨A,B,C,D,E⟩:=f.get (k:=j) (by omega);obtain ⟨F,G,H,I,J⟩:=f.get (k:=j-1) (by omega);refine ⟨⟨by omega,by omega⟩,A,B,C,D,⟨by omega,by omega⟩,F,G,H,I,fun V3 K=>(D1 (E.le K) (J.le K)).mono ?_⟩;rintro r V4 S rfl;exact ⟨_,rfl,_,by and_intros<;>rfl,K.trans S,fun h=>⟨by omega,of_decide_eq_true h⟩,fun h=>.inr (of_decide_eq_false h)⟩
  ·have s:¬(j:Int)>a:=of_decide_eq_false s;exact ⟨false,by and_intros<;>rfl,View.Le.refl _,(fun h=>nomatch h),fun _=>.inl (by omega)⟩
  ·rintro t V5 x ⟨lv,t1,t2⟩;refine ⟨rfl,fun L=>?_,fun L=>⟨(((i+1:Nat):Int),ws),by dsimp only;omega,by and_intros<;>rfl,i+1,k,rfl,by omega,.inl (by omega),f.le x,d,p.done Ny u (t2 L)⟩⟩;obtain ⟨s,v⟩:=t1 L;have y:i64.wrap ((j:Int)-1)=((j-1:Nat):Int):=by rw [aw (by omega)];omega
   rw [y,Int.toNat_natCast,Int.toNat_natCast];obtain ⟨A,B,C,D,E⟩:=(f.le x).get (k:=j) (by omega);obtain ⟨F,G,H,I,J⟩:=(f.le x).get (k:=j-1) (by omega);obtain ⟨s1,s2,s3⟩:=(f.le x).swap (i:=j) (j:=j-1) (by omega) (by omega) E J
   exact ⟨⟨by omega,by omega⟩,F,G,H,I,⟨by omega,by omega⟩,A,B,C,D,⟨by omega,by omega⟩,s1,⟨by omega,by omega⟩,s2,(((j-1:Nat):Int),_),by dsimp only;omega,by and_intros<;>rfl,j-1,_,rfl,by omega,by omega,s3,
    d.trans (lB.nT (by omega) (by omega) (by omega) (by omega) (by omega)),p.move Ny s u (by omega) v⟩
 ·have g:¬(i:Int)<b:=of_decide_eq_false g;rcases q with q|q
  ·rw [show b=i by omega];exact o
  ·exact .short (by omega)
theorem sR {V:View}:ae prog 110 #[.slice none 0 0,.func (.func 111) #[] #[]] V fun r V'=>r=.tuple #[]:=by
 have ins:∀{W:View},ae prog 206 #[.slice none 0 0,.int .i64 0,.int .i64 0,.func (.func 111) #[] #[]] W fun r V'=>r=.tuple #[]:=by
  intro W;refine eg 0 0 W _ ⟨fun z _=>z=1,fun _=>0,⟨1,by and_intros<;>first|rfl|exact aw (by omega),rfl⟩,?_⟩;rintro z e f rfl;exact ⟨rfl,fun h=>absurd (of_decide_eq_true h) (by omega),fun _ V2 g=>rfl⟩
 refine jQ V _ fun e f=>(kF 0 (by omega)).mono ?_;rintro r V2 g rfl;refine ⟨_,rfl,fun b m=>?_⟩
 have a:ae prog 167 #[.slice none 0 0,.int .i64 0,.int .i64 0,.int .i64 (bh 0:Int),.func (.func 111) #[] #[]] b fun r V'=>r=.tuple #[]:=by
  refine f_ 0 0 _ b _ ⟨fun z _=>z.1=0/\z.2.1=0,fun _=>0,⟨(0,0,_,true,true),by and_intros<;>rfl,rfl,rfl⟩,?_⟩;rintro ⟨n,o,p,q,s⟩ t u ⟨c,d⟩;dsimp only at c d;subst c d;dsimp only;refine ⟨rfl,fun _ v w=>ins.mono ?_,fun h=>absurd (of_decide_eq_false h) (by decide)⟩;rintro r i j rfl;exact ⟨rfl,fun k l=>rfl⟩
 refine a.mono ?_;rintro r i j rfl;exact ⟨rfl,fun k l=>rfl⟩
set_option maxHeartbeats 1000000 in
theorem uC {V:View}{lb n c:Nat}{vs:List Value}{l:List Rat}(hw:V.w.heap[lb]?=some (.cells vs.toArray 98 (0,0)))(hx:V.X lb)(h:zN V n vs l)(hc:n<=c) :
  ae prog 112 #[.slice (some ⟨lb,0,none⟩) n c,.func (.func 90) #[] #[]] V fun r V'=>∃vs',r=.slice (some ⟨lb,0,none⟩) (gC eR l).length c/\V'.w.heap[lb]?=some (.cells vs'.toArray 98 (0,0))/\Row 3 tW V' vs' (gC eR l)/\vs'.length=vs.length:=by
 have lP:=h.lP;have len:=h.len;have Z:=h.row.fT (by decide);refine ky lb n c vs V _ hw hx ⟨fun x V1 l1 I=>?_,fun x=>⟨fun z V'=>∃k:Nat,z=((k+1:Nat):Int)/\k+1<=n/\gC eR (l.take (k+1))=l.take (k+1),fun z=>n-z.toNat,⟨1,by and_intros<;>rfl,0,rfl,by have:=of_decide_eq_false x;omega,BV (by rw [List.length_take];omega)⟩,?_⟩⟩
 ·have x:(n:Int)<2:=of_decide_eq_true x;have e:=BV (e:=eR) (l:=l) (by omega);rw [e,←len];exact ⟨vs,rfl,I,h.row.le fun _ _ g=>tW.le g l1,rfl⟩
 have x:¬(n:Int)<2:=of_decide_eq_false x;rintro z V2 J ⟨k,rfl,hk,j⟩;have E:=h.le J;refine ⟨rfl,fun b=>?_,fun b V9 l9 Zk=>?_⟩;rotate_left
 ·have b:¬((k+1:Nat):Int)<n:=of_decide_eq_false b;have e:l.take (k+1)=l:=List.take_of_length_le (by omega);rw [e] at j;rw [j,←len];exact ⟨vs,rfl,Zk,h.row.le fun _ _ g=>tW.le g (J.trans l9),rfl⟩
 have b:((k+1:Nat):Int)<n:=of_decide_eq_true b;have w1:i64.wrap (((k+1:Nat):Int)-1)=(k:Int):=by rw [aw (by omega)];omega
 have w2:i64.wrap (((k+1:Nat):Int)+1)=((k+1+1:Nat):Int):=by rw [aw (by omega)];rfl
 rw [w1,w2,Int.toNat_natCast,Int.toNat_natCast];obtain ⟨y,A,B,G,F⟩:=E.get (k:=k+1) (by omega);obtain ⟨K,L,M,N,H⟩:=E.get (k:=k) (by omega);refine ⟨⟨by omega,b⟩,y,A,B,G,⟨by omega,by omega⟩,K,L,M,N,fun V3 O=>(Iw (F.le O) (H.le O)).mono ?_⟩;rintro r V4 l4 rfl;have step:=mR (e:=eR) (d:=lO) (l:=l) (k:=k) (by omega);refine ⟨_,rfl,fun he=>⟨⟨by omega,by omega⟩,?_⟩,fun he=>⟨((k+1+1:Nat):Int),by dsimp only;omega,by and_intros<;>rfl,k+1,rfl,by omega,?_⟩⟩;rotate_left
 ·have p:eR (l.getD (k+1) lO) (l.getD k lO)=false:=he;rw [step,j,p];show l.take (k+1)++[_]=_;have C:k+1<l.length:=by omega
  rw [show l.getD (k+1) lO=l[k+1] by rw [List.getD_eq_getElem?_getD,List.getElem?_eq_getElem C];rfl,List.take_append_getElem C]
 have p:eR (l.getD (k+1) lO) (l.getD k lO)=true:=he;have HY:=O.trans l4;have U:∀{m:Nat},m<c->AU 0 c m 3=m*3:=fun hm=>by unfold AU;rw [if_neg (by omega),Nat.zero_add]
 refine ⟨fun z V'=>∃(q t:Nat)(m:List Rat),z.1=(q:Int)/\z.2.1=((t+1:Nat):Int)/\q<=k+1+t/\k+1+t+1<=n/\zN V' n z.2.2 m/\z.2.2.length=vs.length/\(∀i,k+1+t<=i->m.getD i lO=l.getD i lO)/\m.take q=gC eR (l.take (k+1+t+1)),fun z=>n-z.2.1.toNat,
  ⟨(((k+1:Nat):Int),1,vs),by and_intros<;>rfl,k+1,0,l,rfl,rfl,by omega,by omega,h.le (J.trans HY),rfl,fun i _=>rfl,?_⟩,?_⟩
 ·rw [Nat.add_zero,step,p,if_pos rfl,List.append_nil,j]
 rintro ⟨zq,zt,us⟩ V5 l5 ⟨q,t,m,W,Y,hq,ht,s,P,hm,D⟩;dsimp only at W Y s P;subst W Y;dsimp only;have ml:=s.len;have a0:=s.row.fT (by decide);refine ⟨rfl,fun a=>?_,fun a=>?_⟩
 ·have a:((t+1:Nat):Int)<((n-(k+1):Nat):Int):=of_decide_eq_true a;have w3:i64.wrap (((t+1:Nat):Int)-1)=(t:Int):=by rw [aw (by omega)];omega
  have w4:i64.wrap (((t+1:Nat):Int)+1)=((t+1+1:Nat):Int):=by rw [aw (by omega)];rfl
  have w5:i64.wrap ((q:Int)+1)=((q+1:Nat):Int):=by rw [aw (by omega)];rfl
  rw [w3,w4,w5,Int.toNat_natCast,Int.toNat_natCast,Int.toNat_natCast,U (by omega)];obtain ⟨y,A,B,G,F⟩:=s.get (k:=k+1+(t+1)) (by omega);obtain ⟨K,L,M,N,H⟩:=s.get (k:=k+1+t) (by omega);have a1:(k+1)*3+(t+1)*3=0+(k+1+(t+1))*3:=by omega
  have a2:(k+1)*3+t*3=0+(k+1+t)*3:=by omega
  rw [a1,a2];rw [hm _ (by omega)] at F;rw [hm _ (by omega)] at H;refine ⟨⟨by omega,a⟩,y,A,B,G,⟨by omega,by omega⟩,K,L,M,N,fun V6 Q=>(Iw (F.le Q) (H.le Q)).mono ?_⟩;rintro r V7 l7 rfl;have R:=Q.trans l7;have f:=mR (e:=eR) (d:=lO) (l:=l) (k:=k+1+t) (by omega);refine ⟨_,rfl,fun S=>⟨⟨by omega,a⟩,y,A,B,G,⟨by omega,by omega⟩,by omega,(((q+1:Nat):Int),((t+1+1:Nat):Int),_),by dsimp only;omega,by and_intros<;>rfl,q+1,t+1,m.set q (l.getD (k+1+(t+1)) lO),rfl,rfl,by omega,by omega,?_,?_,fun i C=>?_,?_⟩,fun S=>⟨(((q:Nat):Int),((t+1+1:Nat):Int),us),by dsimp only;omega,by and_intros<;>rfl,q,t+1,m,rfl,rfl,by omega,by omega,s.le R,P,fun i C=>hm i (by omega),?_⟩⟩
  ·refine ⟨?_,by rw [List.length_set];exact ml,by rw [List.length_set];exact s.lP⟩;have:=(s.le R).row.put (i:=q) (by omega) (by decide) (xs:=[.int .i64 y,.int .i64 A,.pointer B]) rfl (F.le R);dsimp only;rw [Nat.zero_add];exact this
  ·exact (fl (vs:=us) (xs:=[.int .i64 y,.int .i64 A,.pointer B]) (o:=0+q*3) (by show 0+q*3+3<=_;omega)).trans P
  ·rw [List.getD_eq_getElem?_getD,List.getElem?_set_ne (by omega),←List.getD_eq_getElem?_getD];exact hm i (by omega)
  ·have u:eR (l.getD (k+1+(t+1)) lO) (l.getD (k+1+t) lO)=false:=by simpa using S
   have v:eR (l.getD (k+1+t+1) lO) (l.getD (k+1+t) lO)=false:=u;have C:q<m.length:=by omega
   rw [show k+1+(t+1)+1=k+1+t+2 from rfl,f,v,←D,if_neg (by decide)];rw [List.take_set,List.take_add_one,List.getElem?_eq_getElem C,show (some m[q]).toList=[m[q]] from rfl];rw [List.set_append_right _ _ (by rw [List.length_take];omega),List.length_take,Nat.min_eq_left (by omega),Nat.sub_self];rfl
  ·have u:eR (l.getD (k+1+(t+1)) lO) (l.getD (k+1+t) lO)=true:=by simpa using S
   have v:eR (l.getD (k+1+t+1) lO) (l.getD (k+1+t) lO)=true:=u;rw [show k+1+(t+1)+1=k+1+t+2 from rfl,f,v,if_pos rfl,List.append_nil,D]
 ·have a:¬((t+1:Nat):Int)<((n-(k+1):Nat):Int):=of_decide_eq_false a;have hl:l.take (k+1+t+1)=l:=List.take_of_length_le (by omega);rw [hl] at D
  have a3:q<n:=by
   have:=Ln (e:=eR) (d:=lO) (l:=l) (k:=k) (by omega) p;rw [←D,List.length_take] at this;omega
  rw [Int.toNat_natCast,U (by omega)];have hz:q*3+(n-q)*3=n*3:=by rw [←Nat.add_mul];congr 1;omega
  rw [hz];refine ⟨⟨by omega,by omega⟩,by omega,⟨by omega,by omega⟩,fun V8 l8 T=>⟨_,?_,T,?_,?_⟩⟩
  ·rw [←D,List.length_take,Nat.min_eq_left (by omega)]
  ·rw [←D,List.append_assoc];exact (s.row.le fun _ _ g=>tW.le g l8).Ll (by omega) (by decide)
  ·simp only [List.length_append,List.length_take,List.length_drop,nq,List.length_flatten,List.map_replicate,List.sum_replicate_nat,List.length_cons,List.length_nil];omega
theorem oq {V:View}:ae prog 112 #[.slice none 0 0,.func (.func 90) #[] #[]] V fun r V'=>r=.slice none 0 0:=
 im V _ ⟨fun _ a b=>rfl,fun h=>absurd (of_decide_eq_false h) (by decide)⟩
theorem z_ {V:View}{lb n c:Nat}{vs:List Value}{l:List Rat}(h12:l.length<=12)(hw:V.w.heap[lb]?=some (.cells vs.toArray 98 (0,0)))(hx:V.X lb)(h:zN V n vs l) :
  ae prog 110 #[.slice (some ⟨lb,0,none⟩) n c,.func (.func 111) #[] #[]] V fun r V'=>r=.tuple #[]/\∃vs' l',V'.w.heap[lb]?=some (.cells vs'.toArray 98 (0,0))/\zN V' n vs' l'/\l'.Perm l/\l'.Pairwise fun x y=>¬KJ y x<0:=by
 have lP:=h.lP;have len:=h.len;have w:u64.wrap (n:Int)=n:=aN (by omega);refine mO lb n c vs V _ hw hx ?_;rw [w];refine fun D s=>(kF n (by omega)).mono ?_;rintro r V2 f rfl
 have g:∀{W:View} {d:Nat},W.w.heap[d]?=some (.cells vs.toArray 98 (0,0))->W.X d->zN W n vs l->ae prog 167 #[.slice (some ⟨d,0,none⟩) n c,.int .i64 0,.int .i64 (n:Int),.int .i64 (bh n:Int),.func (.func 111) #[] #[]] W fun r V'=>r=.tuple #[]/\H4 d n l 0 n V' fun l'=>pf KJ lO l' 0 n:=by
  intro W d hw hx h;refine i_ d n c vs 0 n (bh n:Int) W _ hw hx ⟨fun z V'=>z.1=0/\z.2.1=(n:Int)/\zN V' n z.2.2.2.2.2 l,fun _=>0,⟨(0,(n:Int),(bh n:Int),true,true,vs),by and_intros<;>rfl,rfl,rfl,h⟩,?_⟩;rintro ⟨S,T,E,U,wp,us⟩ D s ⟨t,e,u⟩;dsimp only at t e u;subst t e;dsimp only;have F:i64.wrap ((n:Int)-0)=(n:Int):=by rw [aw (by omega)];omega
  rw [F];refine ⟨rfl,fun _ V2 f d e G=>(qR (V:=V2.ax [d]) e ⟨by simp,G⟩ (u.le f) (a:=0) (b:=n) (by omega) (by omega)).mono ?_,fun h12=>by have:=of_decide_eq_false h12;omega⟩;rintro r v A ⟨rfl,ws,H,k,m,I,J⟩;exact ⟨rfl,ws,k,fun K B p=>⟨rfl,ws,H,p,m.le fun b o h=>B b o h,I,J⟩⟩
 refine ⟨_,rfl,fun v A d k L=>(g (W:=v.ax [d]) k ⟨by simp,L⟩ (h.le fun b o h=>A b o (f b o (s b o h)))).mono ?_⟩;rintro r K B ⟨rfl,vs',l',M,q,C,asc⟩;refine ⟨rfl,vs',M,fun Y N O=>⟨rfl,vs',l',O,q.le fun b o h=>N b o h,C.perm,?_⟩⟩;have sl:=C.len;refine List.pairwise_iff_getElem.2 fun i j P Q R=>?_;have:=asc i j (by omega) R (by omega);rw [List.getD_eq_getElem?_getD,List.getD_eq_getElem?_getD,List.getElem?_eq_getElem P,List.getElem?_eq_getElem Q] at this;simp only [Option.getD_some] at this;exact this
def nt (V:View)(v:Value)(x:L3×Sp):Prop:=lT V v x.1 x.2
theorem mB {V:View}{xs:List Value}{x:L3×Sp}(h:nt V (.agg xs.toArray) x):∀v∈xs,v.oneCell'=true:=by
 obtain ⟨_,_,_,_,_,_,_,_,_,_,_,_,_,_,_,ex,-,-⟩:=h;have ex:=congrArg Array.toList (Value.agg.inj ex);dsimp only at ex;subst ex;intro v a;simp only [List.mem_cons,List.not_mem_nil,or_false] at a;rcases a with rfl|rfl|rfl|rfl|rfl|rfl|rfl|rfl|rfl|rfl|rfl|rfl|rfl|rfl|rfl|rfl|rfl<;>rfl
theorem Lb {V:View}{p:OA}{n c:Nat}{fs:List (L3×Sp)}(h:oe V p n fs)(hn:fs.length<=1000000){k:Nat}(hs:∀f∈fs,eh k f.1/\f.2.sz k)(ho:∀f∈fs,HS f.1 f.2)(hk:4*k+4<1099511627776) :
  ae prog 65 #[.slice p n c] V fun r V'=>∃q m e,r=.tuple #[.slice q m e,.bool true]/\jW 17 nt V' q m fs/\(fs=[]->q=none):=by
 obtain rfl:=h.len;refine A2 p _ c V _ ⟨fun z V'=>∃j:Nat,z.2.2.2=(j:Int)/\j<=fs.length/\GR 17 nt V' z.1 z.2.1 z.2.2.1 (fs.take j)/\(j=0->z.2.1=0),fun z=>fs.length-z.2.2.2.toNat,⟨(0,0,[],0),by and_intros<;>rfl,0,rfl,Nat.zero_le _,GR.nil,fun _=>rfl⟩,?_⟩;rintro ⟨C,D,M,N⟩ O E ⟨j,u,P,d,o⟩;dsimp only at u d o;subst u;have s:=d.len;refine ⟨rfl,fun b=>?_,fun b Q F R hb=>?_⟩;rotate_left
 ·have b:¬(j:Int)<fs.length:=of_decide_eq_false b;obtain rfl:j=fs.length:=by omega
  rw [List.take_length] at d s;subst s;exact ⟨_,_,D,rfl,jW.mX hb (d.row.le fun _ _ g=>lT.le g F) (by decide) d.le,fun h=>by rw [h] at o;rw [o rfl];rfl⟩
 have b:(j:Int)<fs.length:=of_decide_eq_true b;have i:j<fs.length:=by omega
 have w:i64.wrap ((j:Int)+1)=((j+1:Nat):Int):=by rw [aw (by omega)];rfl
 dsimp only;rw [Int.toNat_natCast,w];obtain ⟨G,v,xs,y,a⟩:=(h.le E).at_ j i;have t:=y;obtain ⟨_,_,_,_,_,_,_,_,_,_,_,_,_,_,_,_,_,_,_,_,_,_,_,_,_,_,ex,-,-⟩:=y;have ex:=congrArg Array.toList (Value.agg.inj ex);dsimp only at ex;subst ex;obtain ⟨s1,s2⟩:=hs _ (List.getElem_mem i);have ok:=ho _ (List.getElem_mem i);rw [List.length_take] at s;refine ⟨cB v,⟨by omega,by omega⟩,_,_,_,_,_,_,_,_,_,_,_,_,_,_,_,_,_,_,_,_,_,_,_,_,_,_,_,_,G,v,a 0 _ rfl,a 1 _ rfl,a 2 _ rfl,a 3 _ rfl,a 4 _ rfl,a 5 _ rfl,a 6 _ rfl,a 7 _ rfl,a 8 _ rfl,a 9 _ rfl,a 10 _ rfl,a 11 _ rfl,a 12 _ rfl,a 13 _ rfl,fun V2 A=>(j8 (t.le A) ok s1 s2 hk).mono ?_⟩;rintro r H I ⟨w,rfl,B⟩;have l:=B;obtain ⟨_,_,_,_,_,_,_,_,_,_,_,_,_,_,_,rfl,-,-⟩:=B;refine ⟨_,_,_,_,_,_,_,_,_,_,_,_,_,_,_,_,_,_,rfl,(fun h=>by cases h),fun _=>⟨by omega,d.le,d.cap,rfl,mB (V:=H) (x:=fs[j]) l,fun sp J K L=>⟨(C+1,J,_,((j+1:Nat):Int)),by dsimp only;omega,by and_intros<;>rfl,j+1,rfl,i,?_,fun h=>nomatch h⟩⟩⟩;rw [←List.take_append_getElem i];exact (d.mono fun _ _ g=>lT.le g (A.trans I)).snoc rfl l (by decide) K L
def K0 (V:View)(v:Value)(c:Rat×Rat):Prop:=jS V v c.1 c.2
def cutsG (l:L3)(s:Sp)(ps:List (Rat×Rat)):List Rat:=(ps.filter fun p=>decide (bg l p.1 p.2=0)&&s.ins (iT l p.1 p.2)).map fun p=>iT l p.1 p.2
theorem Ej (l:L3)(s:Sp)(ps:List (Rat×Rat))(p:Rat×Rat):cutsG l s (ps++[p])=cutsG l s ps++if (decide (bg l p.1 p.2=0)&&s.ins (iT l p.1 p.2))=true then [iT l p.1 p.2] else []:=by
 unfold cutsG;rw [List.filter_append,List.map_append];congr 1;by_cases h:(decide (bg l p.1 p.2=0)&&s.ins (iT l p.1 p.2))=true
 ·rw [if_pos h];simp only [List.filter_cons,List.filter_nil];rw [if_pos h];rfl
 ·rw [if_neg h];simp only [List.filter_cons,List.filter_nil];rw [if_neg h];rfl
theorem mS (l:L3)(s:Sp)(ps:List (Rat×Rat)):(cutsG l s ps).length<=ps.length:=by
 unfold cutsG;rw [List.length_map];exact List.length_filter_le ..
theorem chop_len:∀(s:Sp)(l:List Rat),(chop s l).length=l.length+1
 | _,[]=>rfl
 | s,t::r=>by show (chop _ r).length+1=_;rw [chop_len];rfl
set_option maxHeartbeats 1000000 in
theorem Is {V:View}{v:Value}{p:OA}{n c:Nat}{L:L3}{s:Sp}{ps:List (Rat×Rat)}(h:lT V v L s)(hp:jW 6 K0 V p n ps){k:Nat}(sl:eh k L)(ss:s.sz k)(sp:∀q∈ps,Sz k q.1/\Sz k q.2)(hn:ps.length<=12)(hk:8*k+7<=1000000) :
  ae prog 52 #[v,.slice p n c] V fun r V'=>∃q m e,r=.slice q m e/\jW 17 nt V' q m ((chop s (ascL (cutsG L s ps))).map fun t=>(L,t)):=by
 obtain rfl:=hp.len;obtain ⟨f0,f1,f2,f3,f4,f5,f6,f7,f8,f9,f10,f11,f12,f13,f14,rfl,h1,h2⟩:=h;refine xQ _ _ _ _ _ _ _ _ _ _ _ _ _ _ _ _ _ p _ c V _ ⟨fun z V'=>∃j:Nat,z.2.2.2=(j:Int)/\j<=ps.length/\GR 3 tW V' z.1 z.2.1 z.2.2.1 (cutsG L s (ps.take j))/\(z.2.2.1≠[]->z.1≠0),fun z=>ps.length-z.2.2.2.toNat,⟨(0,0,[],0),by and_intros<;>rfl,0,rfl,Nat.zero_le _,GR.nil,fun h=>absurd rfl h⟩,?_⟩;rintro ⟨O,D,vs,z4⟩ V1 Q ⟨j,R,Pu,E,F⟩;dsimp only at R E F;subst R;have zl:=E.len;refine ⟨rfl,fun f=>?_,fun f=>?_⟩
 ·have f:(j:Int)<ps.length:=of_decide_eq_true f;have hi:j<ps.length:=by omega
  have w:i64.wrap ((j:Int)+1)=((j+1:Nat):Int):=by rw [aw (by omega)];rfl
  dsimp only;rw [Int.toNat_natCast,w];obtain ⟨ad,h0,xs,-,T,A⟩:=(hp.le Q fun _ _ g=>jS.le g Q).at_ j hi;have QD:jS V1 (.agg xs.toArray) ps[j].1 ps[j].2:=T;obtain ⟨_,_,_,_,_,_,ex,-,-⟩:=T;have ex:=congrArg Array.toList (Value.agg.inj ex);dsimp only at ex;subst ex;obtain ⟨s1,s2⟩:=sp _ (List.getElem_mem hi);have tk:ps.take (j+1)=ps.take j++[ps[j]]:=(List.take_append_getElem hi).symm;have cl:=mS L s (ps.take j);rw [List.length_take] at cl;refine ⟨cB h0,⟨by omega,by omega⟩,_,_,_,_,_,_,ad,h0,A 0 _ rfl,A 1 _ rfl,A 2 _ rfl,A 3 _ rfl,A 4 _ rfl,A 5 _ rfl,fun V2 U=>(At (h1.le (Q.trans U)) (QD.le U) sl s1 s2 (by omega)).mono ?_⟩;rintro r V3 l3 g3;have lQ:RR V3 r (iT L ps[j].1 ps[j].2):=g3;obtain ⟨_,_,_,rfl⟩:=g3.shape;have Vz:=Q.trans (U.trans l3);refine ⟨_,_,_,rfl,fun b V'=>V3.Le V'/\b=(decide (bg L ps[j].1 ps[j].2=0)&&s.ins (iT L ps[j].1 ps[j].2)),fun V4 S=>(Oy (h1.le (Vz.trans S)) (QD.le (U.trans (l3.trans S))) sl s1 s2 (by omega)).mono ?_,?_⟩
  ·rintro r V5 l5 rfl;have O5:=AR (bg L ps[j].1 ps[j].2);refine ⟨_,rfl,fun u V6 l6=>(BK (h2.le (Vz.trans (S.trans (l5.trans l6)))) (lQ.le (S.trans (l5.trans l6))) (k:=8*k+7) ⟨ss.1.mono (by omega),ss.2.mono (by omega)⟩ (qm sl s1 s2) (by omega)).mono ?_,fun u=>⟨_,by and_intros<;>rfl,S.trans l5,?_⟩⟩
   ·rintro r V7 l7 rfl;have u:=O5.1 (beq_iff_eq.1 u);exact ⟨_,rfl,_,by and_intros<;>rfl,S.trans (l5.trans (l6.trans l7)),by rw [decide_eq_true u,Bool.true_and]⟩
   ·have u:¬bg L ps[j].1 ps[j].2=0:=fun e=>by rw [O5.2 e] at u;cases u
    rw [decide_eq_false u,Bool.false_and]
  rintro b V8 l8 ⟨-,rfl⟩;have fL:=U.trans (l3.trans l8);have K:=Ej L s (ps.take j) ps[j];rw [←tk] at K;refine ⟨rfl,fun hb=>⟨by omega,E.le,E.cap,rfl,?_,fun b9 c' X Y=>⟨(O+1,c',_,((j+1:Nat):Int)),by dsimp only;omega,by and_intros<;>rfl,j+1,rfl,hi,?_⟩⟩,fun hb=>⟨(O,D,vs,((j+1:Nat):Int)),by dsimp only;omega,by and_intros<;>rfl,j+1,rfl,hi,?_⟩⟩
  ·intro x hx;simp only [List.mem_cons,List.not_mem_nil,or_false] at hx;rcases hx with rfl|rfl|rfl<;>rfl
  ·rw [K,if_pos hb];exact ⟨(E.mono (V':=V8) fun _ _ g=>tW.le g fL).snoc rfl ⟨lQ.le l8,(qm sl s1 s2).mono (by omega)⟩ (by decide) X Y,fun _=>Nat.succ_ne_zero _⟩
  ·rw [K,if_neg (by rw [hb];decide),List.append_nil];exact ⟨E.mono fun _ _ g=>tW.le g fL,F⟩
 have f:¬(j:Int)<ps.length:=of_decide_eq_false f;obtain rfl:j=ps.length:=by omega
 rw [List.take_length] at E zl;have cl:=mS L s ps;have hle:=E.le;have Z:=E.cap;refine ⟨fun ws V'=>V1.Le V'/\∃m:List Rat,m.Perm (cutsG L s ps)/\(m.Pairwise fun x y=>¬y<x)/\(ws=[]->D=0/\O=0/\m=[])/\(ws≠[]->D≠0/\zN V' O ws m),⟨fun u=>?_,fun u gN bL B e1 e2=>?_⟩,?_⟩
 ·subst u;have c0:D=0:=by simp at Z;omega
  subst c0;have n0:O=0:=by omega
  subst n0;have b0:cutsG L s ps=[]:=List.length_eq_zero_iff.1 zl.symm;refine ⟨rfl,fun V9 l9=>sR.mono ?_⟩;rintro r hZ b8 rfl;exact ⟨rfl,[],by and_intros<;>rfl,l9.trans b8,[],by rw [b0],List.Pairwise.nil,fun _=>⟨rfl,rfl,rfl⟩,fun h=>absurd rfl h⟩
 ·have G:D≠0:=by have:=F u;omega
  have Nc:∀b,mA b D=some ⟨b,0,none⟩:=fun b=>by unfold mA;rw [if_neg G]
  dsimp only;rw [Nc];refine (z_ (by omega) (V:=gN.ax [vb vs gN.w.heap.size B]) (lb:=B) (vs:=vs) (l:=cutsG L s ps) (e1 u) ⟨by simp [zJ u],e2 u⟩ ⟨E.row.le fun _ _ g=>tW.le g fun b o h=>bL b o h,zl,by omega⟩).mono ?_;rintro r jg cY ⟨rfl,ws,m,e3,sr,pm,pw⟩;have Ho:=pm.length_eq
  have hw:ws≠[]:=fun e=>by
   have:=sr.row.fT (by decide);rw [e,Ho,←zl] at this;simp at this;exact F u (by omega)
  exact ⟨rfl,u,ws,hw,e3,ws,by and_intros<;>rfl,fun b o h=>cY b o (bL b o h),m,pm,pw.imp fun h e=>h (DX.2 e),fun e=>absurd e hw,fun _=>⟨G,sr.le fun b o h=>h⟩⟩
 rintro ws ph-⟨cN,m,pm,pw,m0,m1⟩;refine ⟨rfl,fun lC fo B q1 q2=>?_⟩;dsimp only;have ec:gC eR m=ascL (cutsG L s ps):=GJ pm pw;have acl:(ascL (cutsG L s ps)).length<=m.length:=by rw [←ec];exact BU
 have Ho:=pm.length_eq;generalize ascL (cutsG L s ps)=cs at ec acl ⊢
 have hC:ae prog 112 #[.slice (mA B D) O D,.func (.func 90) #[] #[]] (lC.ax [vb ws lC.w.heap.size B]) fun r J=>∃(H:Nat)(us:List Value),(us≠[]->J.w.heap[H]?=some (.cells us.toArray 98 (0,0)))/\(us≠[]->lC.w.heap.size<=H\/(ws≠[]/\H=B)) /\
   ∃e,r=.slice (mA H e) cs.length e/\cs.length<=e/\Row 3 tW (J.shut.cA (us≠[]) H) us cs/\V1.Le (J.shut.cA (us≠[]) H):=by
  by_cases hw:ws=[]
  ·obtain ⟨rfl,rfl,rfl⟩:=m0 hw;subst ec;refine oq.mono ?_;rintro r J dY rfl;exact ⟨0,[],fun h=>absurd rfl h,fun h=>absurd rfl h,0,rfl,Nat.le_refl _,Row.nil,fun b o h=>Cq (fun h=>absurd rfl h) b o (dY b o (fo b o (cN b o h)))⟩
  ·obtain ⟨G,sr⟩:=m1 hw;have Nc:mA B D=some ⟨B,0,none⟩:=by unfold mA;rw [if_neg G]
   rw [Nc];refine ae.QT (uC (V:=lC.ax [vb ws lC.w.heap.size B]) (lb:=B) (vs:=ws) (l:=m) (q1 hw) ⟨by simp [zJ hw],q2 hw⟩ (sr.le fun b o h=>fo b o h) hle) ?_;rintro r J dY hH ⟨us,rfl,R,row,wl⟩;rw [ec] at row ⊢;have lh:=Cq (V:=J) (P:=us≠[]) (b:=B) fun _=>hH B (q2 hw);exact ⟨B,us,fun _=>R,fun _=>.inr ⟨hw,rfl⟩,D,by rw [Nc],by omega,row.le fun _ _ g=>tW.le g lh,fun b o h=>lh b o (dY b o (fo b o (cN b o h)))⟩
 refine hC.mono ?_;clear hC m0 m1 q1 q2;rintro r J-⟨H,us,u1,u2,e,rfl,b5,C,lW⟩;have hlen:=C.fT (by decide);refine ⟨H,us,u1,u2,none,cs.length,e,rfl,?_⟩;generalize J.shut.cA (us≠[]) H=W at C lW ⊢;clear u1 u2;obtain ⟨_,_,_,_,_,_,e2,h3,h4⟩:=h2.le (Q.trans lW);simp only [Value.agg.injEq,Array.mk.injEq,List.cons.injEq,Value.int.injEq,Value.pointer.injEq,true_and,and_true] at e2;obtain ⟨rfl,rfl,rfl,rfl,rfl,rfl⟩:=e2
 refine ⟨fun (n,c,vs,i,a0,a1,a2,a3,a4,a5,a6,a7,a8,a9,MW,MX,I,Sq,Sr,V_,b6) V'=>∃(j:Nat)(o:List (L3×Sp))(r:Sp),i=(j:Int)/\j<=cs.length/\GR 17 nt V' n c vs o/\o.length=j /\
   pg V' (.agg #[.int .i64 a0,.int .i64 a1,.pointer a2,.int .i64 a3,.int .i64 a4,.pointer a5,.int .i64 a6,.int .i64 a7,.pointer a8]) L/\RR V' (.agg #[.int .i64 a9,.int .i64 MW,.pointer MX]) r.lo/\RR V' (.agg #[.int .i64 I,.int .i64 Sq,.pointer Sr]) r.hi/\V_=r.a/\b6=r.b /\
   o++(chop r (cs.drop j)).map (fun t=>(L,t))=(chop s cs).map fun t=>(L,t),fun z=>cs.length-z.2.2.2.1.toNat,
  ⟨(0,0,[],0,f0,f1,f2,f3,f4,f5,f6,f7,f8,f9,f10,f11,f12,f13,f14,s.a,s.b),by and_intros<;>rfl,0,[],s,rfl,Nat.zero_le _,GR.nil,rfl,h1.le (Q.trans lW),h3,h4,rfl,rfl,rfl⟩,?_⟩
 rintro ⟨n,c',os,i,a0,a1,a2,a3,a4,a5,a6,a7,a8,a9,MW,MX,I,Sq,Sr,V_,b6⟩ nG eU ⟨j,o,r,R,Pu,M,ol,r1,r2,r3,e5,e6,N⟩;subst R e5 e6;have c1:=M.len;refine ⟨rfl,fun f=>?_,fun f=>?_⟩
 ·have f:(j:Int)<(cs.length:Nat):=of_decide_eq_true f;have hi:j<cs.length:=by omega
  have w:i64.wrap ((j:Int)+1)=((j+1:Nat):Int):=by rw [aw (by omega)];rfl
  dsimp only;rw [Int.toNat_natCast,w];obtain ⟨ys,-,y2,y3,y4⟩:=C.get (d:=0) hi (by decide);rw [List.getD_eq_getElem?_getD,List.getElem?_eq_getElem hi] at y2;have b7:RR W (.agg ys.toArray) cs[j]:=y2.1;obtain ⟨x,y,q,ex⟩:=y2.shape;have ex:=congrArg Array.toList (Value.agg.inj ex);dsimp only at ex;subst ex;have he:lT nG (.agg #[.int .i64 a0,.int .i64 a1,.pointer a2,.int .i64 a3,.int .i64 a4,.pointer a5,.int .i64 a6,.int .i64 a7,.pointer a8,.int .i64 a9,.int .i64 MW,.pointer MX,.int .i64 x,.int .i64 y,.pointer q,.bool r.a,.bool false]) L ⟨r.lo,cs[j],r.a,false⟩:=⟨_,_,_,_,_,_,_,_,_,_,_,_,_,_,_,rfl,r1,_,_,_,_,_,_,rfl,r2,b7.le eU⟩;refine ⟨⟨by omega,f⟩,b5,_,_,_,⟨y3,y4⟩,by omega,M.le,M.cap,rfl,mB (V:=nG) (x:=(L,_)) he,fun sp c2 X Y=>⟨(n+1,c2,_,((j+1:Nat):Int),a0,a1,a2,a3,a4,a5,a6,a7,a8,x,y,q,I,Sq,Sr,false,r.b),by dsimp only;omega,by and_intros<;>rfl,j+1,o++[(L,⟨r.lo,cs[j],r.a,false⟩)],⟨cs[j],r.hi,false,r.b⟩,rfl,hi,M.snoc (a:=(L,_)) rfl he (by decide) X Y,by rw [List.length_append,ol];rfl,r1,b7.le eU,r3,rfl,rfl,?_⟩⟩;rw [←N,List.drop_eq_getElem_cons hi,List.append_assoc];rfl
 ·have f:¬(j:Int)<(cs.length:Nat):=of_decide_eq_false f;obtain rfl:j=cs.length:=by omega
  rw [List.drop_length] at N;have he:lT nG (.agg #[.int .i64 a0,.int .i64 a1,.pointer a2,.int .i64 a3,.int .i64 a4,.pointer a5,.int .i64 a6,.int .i64 a7,.pointer a8,.int .i64 a9,.int .i64 MW,.pointer MX,.int .i64 I,.int .i64 Sq,.pointer Sr,.bool r.a,.bool r.b]) L r:=⟨_,_,_,_,_,_,_,_,_,_,_,_,_,_,_,rfl,r1,_,_,_,_,_,_,rfl,r2,r3⟩;refine ⟨by omega,M.le,M.cap,rfl,mB (V:=nG) (x:=(L,_)) he,fun sp c2 X Y qH ew c3 hb=>⟨_,_,_,rfl,?_⟩⟩;have g:=M.snoc (a:=(L,r)) rfl he (by decide) X Y;rw [show o++[(L,r)]=(chop s cs).map fun t=>(L,t) from N] at g;have:=jW.mX hb (g.row.le fun _ _ g=>lT.le g ew) (by decide) (by rw [←g.len];exact g.le);rw [←g.len] at this;exact this
def yU:L3×Sp:=((0,0,0),⟨0,0,false,false⟩)
def M4 (a b:L3×Sp):Int:=sW a.1 b.1
theorem Nw:Ord M4:=⟨fun a b h=>Nx.N0 a.1 b.1 h,fun a b d h c=>Nx.tr a.1 b.1 d.1 h c⟩
def HT (V:View)(v:Value)(c:L3×Sp):Prop:=lT V v c.1 c.2/\eh 10000 c.1
theorem HT.le {V V':View}{v:Value}{c:L3×Sp}(h:HT V v c)(l:V.Le V'):HT V' v c:=⟨h.1.le l,h.2⟩
theorem HT.shape {V:View}{v:Value}{c:L3×Sp}(h:HT V v c):∃(x y:Int)(p:OA)(xb yb:Int)(pb:OA)(xc yc:Int)(pc:OA)(xd yd:Int)(pd:OA)(xe ye:Int)(pe:OA)(fa fb:Bool),v=.agg #[.int .i64 x,.int .i64 y,.pointer p,.int .i64 xb,.int .i64 yb,.pointer pb,.int .i64 xc,.int .i64 yc,.pointer pc,.int .i64 xd,.int .i64 yd,.pointer pd,.int .i64 xe,.int .i64 ye,.pointer pe,.bool fa,.bool fb]:=by
 obtain ⟨⟨_,_,_,_,_,_,_,_,_,_,_,_,_,_,_,e,-⟩,-⟩:=h;exact ⟨_,_,_,_,_,_,_,_,_,_,_,_,_,_,_,_,_,e⟩
theorem D0 {V:View}{v w:Value}{a b:L3×Sp}(h:HT V v a)(h':HT V w b):ae prog 124 #[v,w] V fun r V'=>r=.int .i64 (M4 a b):=by
 obtain ⟨⟨_,_,_,_,_,_,_,_,_,_,_,_,_,_,_,rfl,e,-⟩,hb⟩:=h;obtain ⟨⟨_,_,_,_,_,_,_,_,_,_,_,_,_,_,_,rfl,f,-⟩,c⟩:=h';refine rH _ _ _ _ _ _ _ _ _ _ _ _ _ _ _ _ _ _ _ _ _ _ _ _ _ _ _ _ _ _ _ _ _ _ V _ fun g d=>(yL (e.le d) (f.le d) hb.1 hb.2.1 hb.2.2 c.1 c.2.1 c.2.2 (by omega)).mono ?_;rintro r V2 i rfl;rw [JJ];exact ⟨_,rfl,fun j k=>rfl⟩
structure DQ (V:View) (n:Nat) (vs:List Value) (l:List (L3×Sp)):Prop where
 row:Row 17 HT V vs l
 len:n=l.length
 lP:l.length<50
theorem DQ.le {V V':View}{n:Nat}{vs:List Value}{l:List (L3×Sp)}(h:DQ V n vs l)(e:V.Le V'):DQ V' n vs l:=⟨h.row.le fun _ _ g=>HT.le g e,h.len,h.lP⟩
theorem DQ.get {V:View}{n:Nat}{vs:List Value}{l:List (L3×Sp)}(h:DQ V n vs l){k:Nat}(hk:k<l.length):∃(x y:Int)(p:OA)(xb yb:Int)(pb:OA)(xc yc:Int)(pc:OA)(xd yd:Int)(pd:OA)(xe ye:Int)(pe:OA)(fa fb:Bool),
  ((0+k*17)+17<=vs.length/\(vs.drop (0+k*17)).take 17=[.int .i64 x,.int .i64 y,.pointer p,.int .i64 xb,.int .i64 yb,.pointer pb,.int .i64 xc,.int .i64 yc,.pointer pc,.int .i64 xd,.int .i64 yd,.pointer pd,.int .i64 xe,.int .i64 ye,.pointer pe,.bool fa,.bool fb])/\HT V (.agg #[.int .i64 x,.int .i64 y,.pointer p,.int .i64 xb,.int .i64 yb,.pointer pb,.int .i64 xc,.int .i64 yc,.pointer pc,.int .i64 xd,.int .i64 yd,.pointer pd,.int .i64 xe,.int .i64 ye,.pointer pe,.bool fa,.bool fb]) (l.getD k yU):=by
 obtain ⟨xs,-,b,c,f⟩:=h.row.get (d:=yU) hk (by decide);have a:=b;obtain ⟨x,y,p,xb,yb,pb,xc,yc,pc,xd,yd,pd,xe,ye,pe,fa,fb,e⟩:=b.shape;have e:=congrArg Array.toList (Value.agg.inj e);dsimp only at e;subst e;rw [Nat.zero_add];exact ⟨x,y,p,xb,yb,pb,xc,yc,pc,xd,yd,pd,xe,ye,pe,fa,fb,⟨c,f⟩,a⟩
theorem DQ.swap {V:View}{n:Nat}{vs:List Value}{l:List (L3×Sp)}(h:DQ V n vs l){i j:Nat}(hi:i<l.length)(hj:j<l.length){x y:Int}{p:OA}{xb yb:Int}{pb:OA}{xc yc:Int}{pc:OA}{xd yd:Int}{pd:OA}{xe ye:Int}{pe:OA}{fa fb:Bool}{x' y':Int}{p':OA}{Kz KB:Int}{pb':OA}{HR Pc:Int}{pc':OA}{Vc yd':Int}{Up:OA}{Vf Vo:Int}{Ut:OA}{Pm Pn:Bool}
  (h1:HT V (.agg #[.int .i64 x,.int .i64 y,.pointer p,.int .i64 xb,.int .i64 yb,.pointer pb,.int .i64 xc,.int .i64 yc,.pointer pc,.int .i64 xd,.int .i64 yd,.pointer pd,.int .i64 xe,.int .i64 ye,.pointer pe,.bool fa,.bool fb]) (l.getD i yU))(h2:HT V (.agg #[.int .i64 x',.int .i64 y',.pointer p',.int .i64 Kz,.int .i64 KB,.pointer pb',.int .i64 HR,.int .i64 Pc,.pointer pc',.int .i64 Vc,.int .i64 yd',.pointer Up,.int .i64 Vf,.int .i64 Vo,.pointer Ut,.bool Pm,.bool Pn]) (l.getD j yU)) :
  (0+i*17)+17<=vs.length/\(0+j*17)+17<=(aS vs (0+i*17) [.int .i64 x',.int .i64 y',.pointer p',.int .i64 Kz,.int .i64 KB,.pointer pb',.int .i64 HR,.int .i64 Pc,.pointer pc',.int .i64 Vc,.int .i64 yd',.pointer Up,.int .i64 Vf,.int .i64 Vo,.pointer Ut,.bool Pm,.bool Pn]).length /\
  DQ V n (aS (aS vs (0+i*17) [.int .i64 x',.int .i64 y',.pointer p',.int .i64 Kz,.int .i64 KB,.pointer pb',.int .i64 HR,.int .i64 Pc,.pointer pc',.int .i64 Vc,.int .i64 yd',.pointer Up,.int .i64 Vf,.int .i64 Vo,.pointer Ut,.bool Pm,.bool Pn]) (0+j*17) [.int .i64 x,.int .i64 y,.pointer p,.int .i64 xb,.int .i64 yb,.pointer pb,.int .i64 xc,.int .i64 yc,.pointer pc,.int .i64 xd,.int .i64 yd,.pointer pd,.int .i64 xe,.int .i64 ye,.pointer pe,.bool fa,.bool fb]) (nT yU l i j):=by
 obtain ⟨-,-,-,a,-⟩:=h.row.get (d:=yU) hi (by decide);obtain ⟨-,-,-,b,-⟩:=h.row.get (d:=yU) hj (by decide);rw [Nat.zero_add,Nat.zero_add];refine ⟨a,by rw [fl (by exact a)];exact b,h.row.swap hi hj (by decide) rfl rfl h1 h2,by rw [fF];exact h.len,by rw [fF];exact h.lP⟩
def H3 (lb n:Nat)(l:List (L3×Sp))(a b:Nat)(V':View)(Q:List (L3×Sp)->Prop):Prop:=∃vs' l',V'.w.heap[lb]?=some (.cells vs'.toArray 104 (0,0))/\DQ V' n vs' l'/\lB yU l l' a b/\Q l'
theorem qQ {V:View}{lb n c:Nat}{vs:List Value}{l:List (L3×Sp)}(hw:V.w.heap[lb]?=some (.cells vs.toArray 104 (0,0)))(hx:V.X lb)(h:DQ V n vs l){a b:Nat}(wZ:a<=b)(hb:b<=l.length) :
  ae prog 220 #[.slice (some ⟨lb,0,none⟩) n c,.int .i64 a,.int .i64 b,.func (.func 124) #[] #[]] V fun r V'=>r=.tuple #[]/\H3 lb n l a b V' fun l'=>pf M4 yU l' a b:=by
 have lP:=h.lP;have len:=h.len;have wa:i64.wrap ((a:Int)+1)=((a+1:Nat):Int):=by rw [aw (by omega)];omega
 refine fJ lb n c vs a b V _ hw hx ⟨fun z V'=>∃(i:Nat)(m:List (L3×Sp)),z.1=(i:Int)/\a<i/\(i<=b\/i=a+1)/\DQ V' n z.2 m/\lB yU l m a b/\pf M4 yU m a i,fun z=>(b-z.1).toNat,
  ⟨(_,vs),by and_intros<;>rfl,a+1,l,wa,by omega,.inr rfl,h,.refl _ _ _,.short (by omega)⟩,?_⟩
 rintro ⟨z,us⟩ V1 l1 ⟨i,m,e,a0,q,f,d,o⟩;dsimp only at e f;subst e;dsimp only;have ml:m.length=l.length:=d.len;refine ⟨rfl,fun g=>?_,fun g V6 l6 QB=>⟨rfl,us,m,QB,f.le l6,d,?_⟩⟩
 ·have g:(i:Int)<b:=of_decide_eq_true g;have w2:i64.wrap ((i:Int)+1)=((i+1:Nat):Int):=by rw [aw (by omega)];omega
  rw [w2];refine ⟨fun z V'=>∃(j:Nat)(k:List (L3×Sp)),z.1=(j:Int)/\a<=j/\j<=i/\DQ V' n z.2 k/\lB yU l k a b/\KF M4 yU k a i j,fun z=>z.1.toNat,⟨((i:Int),us),by and_intros<;>rfl,i,m,rfl,by omega,Nat.le_refl _,f,d,.start o⟩,?_⟩;rintro ⟨z,ws⟩ V2 l2 ⟨j,k,e,a1,A,f,d,p⟩;dsimp only at e f;subst e;dsimp only;have kl:k.length=l.length:=d.len;refine ⟨rfl,fun z V'=>V2.Le V'/\(z=true->a<j/\M4 (k.getD j yU) (k.getD (j-1) yU)<0)/\(z=false->j<=a\/¬M4 (k.getD j yU) (k.getD (j-1) yU)<0),⟨fun s=>?_,fun s=>?_⟩,?_⟩
  ·have s:(j:Int)>a:=of_decide_eq_true s;have D:i64.wrap ((j:Int)-1)=((j-1:Nat):Int):=by rw [aw (by omega)];omega
   rw [D,Int.toNat_natCast,Int.toNat_natCast];obtain ⟨E,F,G,H,I,J,K,L,u,M,N,O,P,Q,R,v,S,T,U⟩:=f.get (k:=j) (by omega);obtain ⟨W,Y,Z,U_,Vj,Uo,Vb,Vl,x,Ve,Vn,Ur,Vh,Vq,Uv,y,Tp,g2,r2⟩:=f.get (k:=j-1) (by omega);refine ⟨⟨by omega,by omega⟩,E,F,G,H,I,J,K,L,u,M,N,O,P,Q,R,v,S,T,⟨by omega,by omega⟩,W,Y,Z,U_,Vj,Uo,Vb,Vl,x,Ve,Vn,Ur,Vh,Vq,Uv,y,Tp,g2,fun V3 l3=>(D0 (U.le l3) (r2.le l3)).mono ?_⟩;rintro r V4 l4 rfl;exact ⟨_,rfl,_,by and_intros<;>rfl,l3.trans l4,fun h=>⟨by omega,of_decide_eq_true h⟩,fun h=>.inr (of_decide_eq_false h)⟩
  ·have s:¬(j:Int)>a:=of_decide_eq_false s;exact ⟨false,by and_intros<;>rfl,View.Le.refl _,(fun h=>nomatch h),fun _=>.inl (by omega)⟩
  ·rintro t V5 C ⟨lv,t1,t2⟩;refine ⟨rfl,fun ht=>?_,fun ht=>⟨(((i+1:Nat):Int),ws),by dsimp only;omega,by and_intros<;>rfl,i+1,k,rfl,by omega,.inl (by omega),f.le C,d,p.done Nw A (t2 ht)⟩⟩;obtain ⟨s,B⟩:=t1 ht;have D:i64.wrap ((j:Int)-1)=((j-1:Nat):Int):=by rw [aw (by omega)];omega
   rw [D,Int.toNat_natCast,Int.toNat_natCast];obtain ⟨E,F,G,H,I,J,K,L,u,M,N,O,P,Q,R,v,S,T,U⟩:=(f.le C).get (k:=j) (by omega);obtain ⟨W,Y,Z,U_,Vj,Uo,Vb,Vl,x,Ve,Vn,Ur,Vh,Vq,Uv,y,Tp,g2,r2⟩:=(f.le C).get (k:=j-1) (by omega);obtain ⟨s1,s2,s3⟩:=(f.le C).swap (i:=j) (j:=j-1) (by omega) (by omega) U r2
   exact ⟨⟨by omega,by omega⟩,W,Y,Z,U_,Vj,Uo,Vb,Vl,x,Ve,Vn,Ur,Vh,Vq,Uv,y,Tp,g2,⟨by omega,by omega⟩,E,F,G,H,I,J,K,L,u,M,N,O,P,Q,R,v,S,T,⟨by omega,by omega⟩,s1,⟨by omega,by omega⟩,s2,(((j-1:Nat):Int),_),by dsimp only;omega,by and_intros<;>rfl,j-1,_,rfl,by omega,by omega,s3,
    d.trans (lB.nT (by omega) (by omega) (by omega) (by omega) (by omega)),p.move Nw s A (by omega) B⟩
 ·have g:¬(i:Int)<b:=of_decide_eq_false g;rcases q with q|q
  ·rw [show b=i by omega];exact o
  ·exact .short (by omega)
theorem GY {V:View}{lb n c:Nat}{vs:List Value}{l:List (L3×Sp)}(hw:V.w.heap[lb]?=some (.cells vs.toArray 104 (0,0)))(hx:V.X lb)(h:DQ V n vs l)(lP:l.length<20) :
  ae prog 174 #[.slice (some ⟨lb,0,none⟩) n c,.int .i64 n,.func (.func 124) #[] #[]] V fun r V'=>r=.tuple #[]/\H3 lb n l 0 n V' fun l'=>pf M4 yU l' 0 n:=by
 have len:=h.len;refine jf lb n c vs n V _ hw hx ⟨fun z _=>z=(0,20,vs),fun _=>0,⟨(0,20,vs),by and_intros<;>rfl,rfl⟩,?_⟩;rintro z x f rfl;dsimp only;refine ⟨rfl,fun d=>absurd (of_decide_eq_true d) (by omega),fun _ g i j k p=>(qQ (V:=g.ax [j]) k ⟨by simp,p⟩ (h.le fun b o h=>i b o (f b o h)) (a:=0) (b:=n) (by omega) (by omega)).mono ?_⟩;rintro r y A ⟨rfl,ws,m,q,e,s,asc⟩;refine ⟨rfl,ws,q,fun z _=>z=(20,ws),fun _=>0,⟨(20,ws),by and_intros<;>rfl,rfl⟩,?_⟩;rintro z B t rfl;dsimp only;exact ⟨rfl,fun d=>absurd (of_decide_eq_true d) (by omega),fun _ C u v=>⟨rfl,ws,m,v,e.le fun b o h=>u b o (t b o h),s,asc⟩⟩
theorem xj {V:View}{lb n c:Nat}{vs:List Value}{l:List (L3×Sp)}(hw:V.w.heap[lb]?=some (.cells vs.toArray 104 (0,0)))(hx:V.X lb)(h:DQ V n vs l)(lP:l.length<20) :
  ae prog 123 #[.slice (some ⟨lb,0,none⟩) n c,.func (.func 124) #[] #[]] V fun r V'=>r=.tuple #[]/\∃vs' l',V'.w.heap[lb]?=some (.cells vs'.toArray 104 (0,0))/\DQ V' n vs' l'/\l'.Perm l/\l'.Pairwise fun x y=>¬sW y.1 x.1<0:=by
 have len:=h.len;refine iZ lb n c vs V _ hw hx fun e f g k p=>(GY (V:=e.ax [g]) k ⟨by simp,p⟩ (h.le fun b o h=>f b o h) lP).mono ?_;rintro r V2 A ⟨rfl,ws,m,q,s,d,asc⟩;refine ⟨rfl,ws,q,fun B t a=>⟨rfl,ws,m,a,s.le fun b o h=>t b o h,d.perm,?_⟩⟩;have sl:=d.len;refine List.pairwise_iff_getElem.2 fun i j u v z=>?_;have:=asc i j (by omega) z (by omega);rw [List.getD_eq_getElem?_getD,List.getD_eq_getElem?_getD,List.getElem?_eq_getElem u,List.getElem?_eq_getElem v] at this;simp only [Option.getD_some] at this;exact this
theorem pC {V:View}:ae prog 123 #[.slice none 0 0,.func (.func 124) #[] #[]] V fun r V'=>r=.tuple #[]:=by
 refine fY V _ fun b j=>?_
 have st:ae prog 174 #[.slice none 0 0,.int .i64 0,.func (.func 124) #[] #[]] b fun r V'=>r=.tuple #[]:=by
  refine gL 0 b _ ⟨fun z _=>z=(0,20),fun _=>0,⟨(0,20),by and_intros<;>rfl,rfl⟩,?_⟩;rintro z V2 d rfl;refine ⟨rfl,fun a=>absurd (of_decide_eq_true a) (by decide),fun _ c k=>?_⟩
  have ins:ae prog 220 #[.slice none 0 0,.int .i64 0,.int .i64 0,.func (.func 124) #[] #[]] c fun r V'=>r=.tuple #[]:=by
   refine ef 0 0 c _ ⟨fun z _=>z=1,fun _=>0,⟨1,by and_intros<;>first|rfl|exact aw (by omega),rfl⟩,?_⟩;rintro z e f rfl;exact ⟨rfl,fun h=>absurd (of_decide_eq_true h) (by omega),fun _ g i=>rfl⟩
  refine ins.mono ?_;rintro r e f rfl;refine ⟨rfl,fun z _=>z=20,fun _=>0,⟨20,by and_intros<;>rfl,rfl⟩,?_⟩;rintro z g i rfl;exact ⟨rfl,fun h=>absurd (of_decide_eq_true h) (by omega),fun _ l m=>rfl⟩
 refine st.mono ?_;rintro r V2 d rfl;exact ⟨rfl,fun n o=>rfl⟩
theorem Ir {V:View}{p:OA}{n c:Nat}{fs:List (L3×Sp)}(h:jW 17 nt V p n fs)(hn:fs.length<=1000000)(h0:fs=[]->p=none) :
  ae prog 122 #[.slice p n c] V fun r V'=>∃(bm:Nat)(vs:List Value),(vs≠[]->V'.w.heap[bm]?=some (.cells vs.toArray 104 (0,0)))/\(vs≠[]->V.w.heap.size<=bm) /\
   ∃e,r=.slice (mA bm e) fs.length e/\fs.length<=e/\(vs=[]↔e=0)/\(vs≠[]↔fs≠[])/\Row 17 nt (V'.cA (vs≠[]) bm) vs fs/\V.Le (V'.cA (vs≠[]) bm):=by
 obtain rfl:=h.len;refine qE p _ c V _ ⟨fun g B q=>?_,fun g=>?_⟩
 ·have s:p=none:=by simpa using g
  have e:fs=[]:=by
   rcases fs with-| ⟨x,r⟩
   ·rfl
   ·obtain ⟨C,e,-⟩:=h.at_ 0 (Nat.succ_pos _);rw [s] at e;cases e
  subst e;exact ⟨0,[],fun h=>absurd rfl h,fun h=>absurd rfl h,0,rfl,Nat.le_refl _,⟨fun _=>rfl,fun _=>rfl⟩,⟨fun h=>absurd rfl h,fun h=>absurd rfl h⟩,Row.nil,Hi q fun h=>h rfl⟩
 ·have b:fs≠[]:=fun e=>by rw [h0 e] at g;cases g
  have i:0<fs.length:=List.length_pos_iff.2 b;obtain ⟨xs,t,f,j⟩:=rk h (by decide);refine ⟨xs,t,f,by omega,Nat.le_refl _,Nat.le_refl _,f,fun v u=>?_,fun D J sp y k E V2 d z hb A=>?_⟩
  ·obtain ⟨m,hm,rfl⟩:=List.mem_iff_getElem.1 u;exact p_ j (by decide) (fun xs a g=>mB g) (m:=m) (by omega) (List.getElem?_eq_getElem hm)
  rw [Nat.zero_add] at k ⊢;have l:V.Le (V2.cA ((([]:List Value).take (0*17)++xs++sp)≠[]) d):=Ep z
  have o:(([]:List Value).take (0*17)++xs++sp)≠[]:=fun e=>by
   have:=congrArg List.length e;rw [List.length_append,List.length_append,f] at this;simp at this;omega
  exact ⟨d,_,fun _=>hb,fun _=>A.elim id False.elim,y,by rw [mA,if_neg (by omega)],k,⟨fun e=>absurd e o,fun e=>by omega⟩,⟨fun _=>b,fun _=>o⟩,(oI (vs:=[]) (sp:=sp) Row.nil j (by decide)).le fun _ _ g=>lT.le g l,l⟩
end Go.Proofs.Tryz
