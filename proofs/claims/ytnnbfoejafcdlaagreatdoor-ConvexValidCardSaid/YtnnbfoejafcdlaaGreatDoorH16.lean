import Derived.Test.YtnnbfoejafcdlaaGreatDoorH15
import Derived.Test.YtnnbfoejafcdlaaGreatDoorH14
import Derived.Test.YtnnbfoejafcdlaaGreatDoorH8
import Derived.Test.YtnnbfoejafcdlaaGreatDoorH13
import Derived.Test.YtnnbfoejafcdlaaGreatDoorH9
import Derived.Laws.IdiomCopy
import Derived.Lib.Overlaps
import Derived.Lib.JoinLaws
import Derived.Lib.AppendZerosOnto
import Derived.Test.YtnnbfoejafcdlaaGreatDoorH5
import Derived.Shelf.RegionOpenPlain
import Derived.Lib.Walk
import Derived.Lib.SliceRun
import Derived.Laws.NewBlocks
set_option linter.unusedVariables false
open Go.IntKind (i64 u64 u32)
namespace Go.Proofs.Tryz
open Go.bE Go.dP
theorem qK (l m:L3):aU l m=-dW m l:=by unfold aU dW;grind
theorem Oe (m l:L3):aq.cr (aq.ax m) (aq.ax l)=dW m l:=by unfold aq.cr aq.ax dW;grind
def kZ (l m:L3):Rat:=Bq l (GW l m) (GX l m)
theorem Ds {l m:L3}(hl:Nz l)(h:aU l m≠0):kZ l m=dV m l:=by
 obtain ⟨v1,v2⟩:=Pj h
 obtain ⟨t,e1,e2⟩:=tZ hl v1
 have e3:kZ l m=t:=by unfold kZ;rw [e1,e2];exact (nW hl t).2
 rw [e1,e2,wo] at v2
 rw [e3]
 have hd:dW m l≠0:=fun e=>h (by rw [qK,e];grind)
 have hi:=Rat.mul_inv_cancel _ hd
 unfold dV
 grind
def pk (l m:L3)(s:Sp):Option Sp:=
 if aU l m=0 then (if (ar m (ij l 0) (il l 0)).num.sign<=0 then none else some s)
 else
  let s':Sp:=if 0<(dW m l).num.sign then (if s.a=true\/s.lo<kZ l m then ⟨kZ l m,s.hi,false,s.b⟩ else s) else (if s.b=true\/kZ l m<s.hi then ⟨s.lo,kZ l m,s.a,false⟩ else s)
  if s'.a=false/\s'.b=false/\s'.hi<=s'.lo then none else some s'
theorem Jt {s:Sp}:s.emp=true↔s.a=false/\s.b=false/\s.hi<=s.lo:=by
 cases h:s.emp
 ·have:=Sp.kS.1 h
  constructor
  ·intro h;cases h
  ·rintro ⟨h1,h2,h3⟩
   rw [h1,h2] at this
   rcases this with h|h|h
   ·cases h
   ·cases h
   ·exfalso;grind
 ·refine ⟨fun _=>?_,fun _=>rfl⟩
  have hn:¬(s.a=true\/s.b=true\/s.lo<s.hi):=fun g=>by rw [←Sp.kS] at g;rw [h] at g;cases g
  refine ⟨?_,?_,?_⟩
  ·cases e:s.a
   ·rfl
   ·exact absurd (.inl e) hn
  ·cases e:s.b
   ·rfl
   ·exact absurd (.inr (.inl e)) hn
  ·by_cases c:s.lo<s.hi
   ·exact absurd (.inr (.inr c)) hn
   ·grind
theorem vd {l m:L3}{s:Sp}(hl:Nz l)(hs:s.jk):pk l m s=if dN l s m=true then some (dq l s m) else none:=by
 unfold pk
 by_cases hc:aU l m=0
 ·have hd:dW m l=0:=by rw [qK] at hc;grind
  have ec:dq l s m=s:=by unfold dq;rw [hd];rfl
  have eb:dN l s m=decide ((j_ m l).num.sign>0):=by unfold dN;rw [hd];rfl
  rw [if_pos hc,ec,eb]
  show (if (j_ m l).num.sign<=0 then none else some s)=_
  by_cases g:(j_ m l).num.sign<=0
  ·rw [if_pos g,if_neg (by rw [decide_eq_true_iff];omega)]
  ·rw [if_neg g,if_pos (by rw [decide_eq_true_iff];omega)]
 ·have hd:dW m l≠0:=fun e=>hc (by rw [qK,e];grind)
  rw [if_neg hc,Ds hl hc]
  have es:(if 0<(dW m l).num.sign then (if s.a=true\/s.lo<dV m l then (⟨dV m l,s.hi,false,s.b⟩:Sp) else s) else (if s.b=true\/dV m l<s.hi then ⟨s.lo,dV m l,s.a,false⟩ else s))=dq l s m:=by
   obtain ⟨ca,cb⟩:=hs.1
   obtain ⟨lo,hi,a,b⟩:=s
   dsimp only at ca cb ⊢
   unfold dq
   rcases lu (dW m l) with ⟨h,e⟩|⟨h,e⟩|⟨h,e⟩
   ·exact absurd h hd
   ·rw [e,if_pos (by decide)]
    show _=Sp.meet ⟨lo,hi,a,b⟩ ⟨dV m l,0,false,true⟩
    unfold Sp.meet Dg
    rcases mY (dV m l) lo with ⟨g,e⟩|⟨g,e⟩|⟨g,e⟩<;>rw [e]<;>cases a<;>cases b<;>simp at ca cb⊢<;> grind
   ·rw [e,if_neg (by decide)]
    show _=Sp.meet ⟨lo,hi,a,b⟩ ⟨0,dV m l,true,false⟩
    unfold Sp.meet Dj
    rcases mY (dV m l) hi with ⟨g,e⟩|⟨g,e⟩|⟨g,e⟩<;>rw [e]<;>cases a<;>cases b<;>simp at ca cb⊢<;> grind
  have eb:dN l s m=!(dq l s m).emp:=by
   unfold dN
   rcases lu (dW m l) with ⟨h,e⟩|⟨h,e⟩|⟨h,e⟩
   ·exact absurd h hd
   ·rw [e];rfl
   ·rw [e];rfl
  dsimp only
  rw [es,eb]
  by_cases g:(dq l s m).a=false/\(dq l s m).b=false/\(dq l s m).hi<=(dq l s m).lo
  ·rw [if_pos g,Jt.2 g,if_neg (by decide)]
  ·rw [if_neg g]
   cases h:(dq l s m).emp
   ·rw [if_pos (by decide)]
   ·exact absurd (Jt.1 h) g
def dL (l:L3):List L3->Sp->Option Sp
 | [],s=>some s
 | m::r,s=>if m=l then dL l r s else match pk l m s with
  | some s'=>dL l r s'
  | none=>none
theorem qN {l:L3}(hl:Nz l):∀{c:List L3} {s w:Sp},s.jk->dL l c s=some w->w.jk/\∀t,w.oh t↔s.oh t/\∀m∈c,m≠l->0<ar m (ij l t) (il l t)
 | [],s,w,h,e=>by cases e;exact ⟨h,fun t=>⟨fun g=>⟨g,fun m hm=>by cases hm⟩,fun g=>g.1⟩⟩
 | m::c,s,w,h,e=>by
  unfold dL at e
  by_cases hm:m=l
  ·rw [if_pos hm] at e
   obtain ⟨g1,g2⟩:=qN hl h e
   refine ⟨g1,fun t=>(g2 t).trans (and_congr_right fun _=>?_)⟩
   rw [List.forall_mem_cons]
   exact ⟨fun g=>⟨fun hne=>absurd hm hne,g⟩,fun g=>g.2⟩
  ·rw [if_neg hm,vd hl h] at e
   by_cases hb:dN l s m=true
   ·rw [if_pos hb] at e
    obtain ⟨g1,g2⟩:=qN hl (kh h hb) e
    refine ⟨g1,fun t=>?_⟩
    rw [g2,js.1 hb t,List.forall_mem_cons,and_assoc]
    exact and_congr_right fun _=>and_congr_left fun _=>⟨fun g _=>g,fun g=>g hm⟩
   ·rw [if_neg hb] at e;cases e
theorem qL {l:L3}(hl:Nz l):∀{c:List L3} {s:Sp},s.jk->dL l c s=none->∀t,s.oh t->¬∀m∈c,m≠l->0<ar m (ij l t) (il l t)
 | [],s,h,e=>by cases e
 | m::c,s,h,e=>by
  intro t ht hall
  obtain ⟨ha,hr⟩:=List.forall_mem_cons.1 hall
  unfold dL at e
  by_cases hm:m=l
  ·rw [if_pos hm] at e
   exact qL hl h e t ht hr
  ·rw [if_neg hm,vd hl h] at e
   by_cases hb:dN l s m=true
   ·rw [if_pos hb] at e
    exact qL hl (kh h hb) e t ((js.1 hb t).2 ⟨ht,ha hm⟩) hr
   ·exact js.2 h.2 (by simpa using hb) t ht (ha hm)
theorem tU {l:L3}(hl:Nz l){c:List L3}:(dL l c bD).isSome=true↔aq.Es c l:=by
 constructor
 ·intro h
  obtain ⟨w,hw⟩:=Option.isSome_iff_exists.1 h
  obtain ⟨g1,g2⟩:=qN hl ki hw
  obtain ⟨t,ht⟩:=pr.1 g1.2
  exact ⟨(ij l t,il l t),(nW hl t).1,((g2 t).1 ht).2⟩
 ·rintro ⟨p,p0,p1⟩
  obtain ⟨t,e1,e2⟩:=tZ hl p0
  cases h:dL l c bD with
  | some w=>rfl
  | none=>
   rw [e1,e2] at p1
   exact absurd p1 (qL hl ki h t (vk t))
def C5 (l:L3):List L3->List L3
 | []=>[l]
 | u::r=>if aq.dp (aq.ax u) (aq.ax l)<0 then u::C5 l r else if u=l then u::r else l::u::r
def Bz (c:List L3):List L3->List L3->List L3
 | [],out=>out
 | l::r,out=>Bz c r (if (dL l c bD).isSome=true then C5 l out else out)
theorem pH {l x:L3}:∀{r:List L3},x∈C5 l r↔x=l\/x∈r
 | []=>by simp [C5]
 | u::r=>by
  unfold C5
  split
  ·rw [List.mem_cons,pH,List.mem_cons];exact or_left_comm
  split
  ·rename_i e
   subst e
   rw [List.mem_cons]
   exact ⟨.inr,fun h=>h.elim .inl id⟩
  ·rw [List.mem_cons]
theorem C6 {l:L3}:∀{r:List L3},(r.Pairwise fun s u=>aq.dp (aq.ax s) (aq.ax u)<0)->(∀s∈r,aq.dp (aq.ax s) (aq.ax l)=0->s=l)->(C5 l r).Pairwise fun s u=>aq.dp (aq.ax s) (aq.ax u)<0
 | [],_,_=>List.pairwise_singleton _ _
 | u::r,h,hz=>by
  obtain ⟨h1,h2⟩:=List.pairwise_cons.1 h
  unfold C5
  split
  ·rename_i hlt
   refine List.pairwise_cons.2 ⟨fun y hy=>?_,C6 h2 (fun s hs=>hz s (List.mem_cons_of_mem _ hs))⟩
   rcases pH.1 hy with rfl|hy
   ·exact hlt
   ·exact h1 y hy
  split
  ·exact h
  ·rename_i hlt hne
   have hgt:aq.dp (aq.ax l) (aq.ax u)<0:=by
    have h0:aq.dp (aq.ax u) (aq.ax l)≠0:=fun e=>hne (hz u (List.mem_cons_self ..) e)
    rcases aq.uq (aq.ax u) (aq.ax l) with g|g|g
    ·exact absurd g hlt
    ·exact absurd g h0
    ·exact g
   refine List.pairwise_cons.2 ⟨fun y hy=>?_,h⟩
   rcases List.mem_cons.1 hy with rfl|hy
   ·exact hgt
   ·exact Ar hgt (h1 y hy)
theorem Ok {c:List L3}(hk:∀m∈c,dO m=true){l m:L3}(hl:l∈c)(hm:m∈c)(el:aq.Es c l)(em:aq.Es c m)(h:aq.dp (aq.ax l) (aq.ax m)=0):l=m:=by
 by_cases e:l=m
 ·exact e
 exfalso
 obtain ⟨p,p0,p1⟩:=em
 obtain ⟨r,r0,r1⟩:=el
 exact Dt (Bk (hk l hl)) h p0 (p1 l hl e) r0 (r1 m hm fun e'=>e e'.symm)
theorem BA {c:List L3}(hk:∀m∈c,dO m=true):∀{r out:List L3},(∀m∈r,m∈c)->(∀m∈out,m∈c/\aq.Es c m)->(out.Pairwise fun s u=>aq.dp (aq.ax s) (aq.ax u)<0) ->
  ((Bz c r out).Pairwise fun s u=>aq.dp (aq.ax s) (aq.ax u)<0)/\∀x,x∈Bz c r out↔x∈out\/x∈r/\aq.Es c x
 | [],out,_,_,h=>⟨h,fun x=>by simp [Bz]⟩
 | l::r,out,hr,ho,h=>by
  obtain ⟨hl,hr⟩:=List.forall_mem_cons.1 hr
  unfold Bz
  by_cases he:aq.Es c l
  ·rw [if_pos ((tU (mo (hk l hl))).2 he)]
   obtain ⟨g1,g2⟩:=BA hk (r:=r) (out:=C5 l out) hr (fun m hm=>by
    rcases pH.1 hm with rfl|hm
    ·exact ⟨hl,he⟩
    ·exact ho m hm) (C6 h fun s hs e=>Ok hk (ho s hs).1 hl (ho s hs).2 he e)
   refine ⟨g1,fun x=>?_⟩
   rw [g2,pH,List.mem_cons]
   constructor
   ·rintro ((rfl|h)|h)
    ·exact .inr ⟨.inl rfl,he⟩
    ·exact .inl h
    ·exact .inr ⟨.inr h.1,h.2⟩
   ·rintro (h|⟨rfl|h,e⟩)
    ·exact .inl (.inr h)
    ·exact .inl (.inl rfl)
    ·exact .inr ⟨h,e⟩
  ·rw [if_neg fun g=>he ((tU (mo (hk l hl))).1 g)]
   obtain ⟨g1,g2⟩:=BA hk (r:=r) (out:=out) hr ho h
   refine ⟨g1,fun x=>?_⟩
   rw [g2,List.mem_cons]
   constructor
   ·rintro (h|h)
    ·exact .inl h
    ·exact .inr ⟨.inr h.1,h.2⟩
   ·rintro (h|⟨rfl|h,e⟩)
    ·exact .inl h
    ·exact absurd e he
    ·exact .inr ⟨h,e⟩
theorem Es.of {M N:List L3}(h:∀x,x∈M->x∈N){l:L3}(e:aq.Es N l):aq.Es M l:=by
 obtain ⟨p,p0,p1⟩:=e
 exact ⟨p,p0,fun m hm=>p1 m (h m hm)⟩
theorem uR {ls:List L3}(hk:∀m∈ls,dO m=true):(∀c,bw ls [] []=some c->Bz ls ls []=c.map Prod.fst/\ji ls.reverse c/\(ls=[]\/Bz ls ls []≠[]))/\(bw ls [] []=none->Bz ls ls []=[]/\ls≠[]/\¬∃q,aq.pos ls q):=by
 obtain ⟨h1,h2⟩:=uU (ls:=ls) ji.nil (fun m hm=>by cases hm) hk
 rw [List.append_nil] at h1 h2
 obtain ⟨g1,g2⟩:=BA hk (r:=ls) (out:=[]) (fun m hm=>hm) (fun m hm=>by cases hm) List.Pairwise.nil
 have g2:∀x,x∈Bz ls ls []↔x∈ls/\aq.Es ls x:=fun x=>(g2 x).trans ⟨fun h=>h.elim (fun h=>by cases h) id,.inr⟩
 have hpos:∀q,aq.pos ls q↔aq.pos ls.reverse q:=fun q=>⟨fun h m hm=>h m (List.mem_reverse.1 hm),fun h m hm=>h m (List.mem_reverse.2 hm)⟩
 constructor
 ·intro c e
  have hc:=h1 c e
  obtain ⟨q,hq⟩:=hc.pos
  have hq:=(hpos q).2 hq
  refine ⟨?_,hc,?_⟩
  ·refine Ch g1 (List.pairwise_map.2 hc.rM) fun x=>?_
   rw [g2,List.mem_map]
   constructor
   ·rintro ⟨a,b⟩
    obtain ⟨v,hv⟩:=hc.all x (List.mem_reverse.2 a) (Es.of (fun y hy=>List.mem_reverse.1 hy) b)
    exact ⟨_,hv,rfl⟩
   ·rintro ⟨s,hs,rfl⟩
    obtain ⟨a1,a2,a3⟩:=hc.mem s hs
    obtain ⟨t,ht⟩:=pr.1 a2.2
    have a1:=List.mem_reverse.1 a1
    exact ⟨a1,⟨(ij s.1 t,il s.1 t),(nW (mo (hk _ a1)) t).1,fun m hm hne=>(a3 t).1 ht m (List.mem_reverse.2 hm) hne⟩⟩
  ·by_cases h0:ls=[]
   ·exact .inl h0
   right
   obtain ⟨l,hl,he⟩:=aq.GH (E2 hk hq) (fun m hm=>Bk (hk m hm)) hq h0
   exact List.ne_nil_of_mem ((g2 l).2 ⟨hl,he⟩)
 ·intro e
  have hno:¬∃q,aq.pos ls q:=fun ⟨q,hq⟩=>h2 e ⟨q,(hpos q).1 hq⟩
  refine ⟨?_,fun h0=>hno ⟨(0,0),fun m hm=>by rw [h0] at hm;cases hm⟩,hno⟩
  refine List.eq_nil_iff_forall_not_mem.2 fun x hx=>?_
  obtain ⟨a,p,p0,p1⟩:=(g2 x).1 hx
  obtain ⟨q,hq,-⟩:=aq.AX (Bk (hk x a)) p0 p1 [] (fun m hm=>by cases hm)
  exact hno ⟨q,hq⟩
theorem H3 {c:List L3}(hk:∀m∈c,dO m=true):(c=[]\/∃l∈c,aq.Es c l)↔∃q,aq.pos c q:=by
 constructor
 ·rintro (rfl|⟨l,hl,p,p0,p1⟩)
  ·exact ⟨(0,0),fun m hm=>by cases hm⟩
  ·obtain ⟨q,hq,-⟩:=aq.AX (Bk (hk l hl)) p0 p1 [] (fun m hm=>by cases hm)
   exact ⟨q,hq⟩
 ·rintro ⟨q,hq⟩
  by_cases h0:c=[]
  ·exact .inl h0
  ·exact .inr (aq.GH (E2 hk hq) (fun m hm=>Bk (hk m hm)) hq h0)
section
variable {M:List L3} {c:List Sd} (h:ji M c) (hk:∀m ∈ M,dO m=true)
include h hk
theorem LH {p:aq.V2}(hp:∀s∈c,0<=ar s.1 p.1 p.2):∀m∈M,0<=ar m p.1 p.2:=by
 intro m hm
 obtain ⟨q,hq⟩:=h.pos
 have key:∀t:Rat,0<=t->t<1->aq.pos M (q.1+t*(p.1-q.1),q.2+t*(p.2-q.2)):=fun t t0 t1=>h.int hk fun s hs=>by
  dsimp only
  rw [aq.qh]
  have h1:=hq s.1 (h.mem s hs).1
  have h2:=aq.mn t0 (hp s hs)
  have h3:=aq.mp (show 1-t>0 by grind) h1
  grind
 by_cases c0:0<=ar m p.1 p.2
 ·exact c0
 exfalso
 have h1:=hq m hm
 obtain ⟨t,t0,t1,e⟩:=aq.ug (y:=(ar m q.1 q.2,ar m p.1 p.2)) h1 (s:=1) (by decide) (by unfold aq.mx;grind)
 have t1':t<1:=by
  by_cases e1:t=1
  ·subst e1;unfold aq.mx at e;dsimp only at e;grind
  ·grind
 have:=key t (by grind) t1' m hm
 dsimp only at this
 rw [aq.qh] at this
 unfold aq.mx at e
 dsimp only at e
 grind
theorem CB (p:aq.V2):((∀s∈c,0<=ar s.1 p.1 p.2)↔∀m∈M,0<=ar m p.1 p.2)/\((∀s∈c,0<ar s.1 p.1 p.2)↔∀m∈M,0<ar m p.1 p.2):=
 ⟨⟨fun g=>LH h hk g,fun g s hs=>g _ (h.mem s hs).1⟩,fun g=>h.int hk g,fun g s hs=>g _ (h.mem s hs).1⟩
end
end Go.Proofs.Tryz
namespace Go.Proofs.Tryz
open Go.bE Go.dP
section
variable {M:List L3} {c:List Sd} (h:ji M c) (hk:∀m ∈ M,dO m=true)
include h hk
end
end Go.Proofs.Tryz
namespace Go.Proofs.Tryz
open Go.bE Go.dP
namespace aq
end aq
section
variable {M:List L3} {c:List Sd} (h:ji M c) (hk:∀m ∈ M,dO m=true)
include h hk
end
end Go.Proofs.Tryz
namespace Go.Proofs.Tryz
open Go.bE Go.dP
namespace aq
end aq
section
variable {M:List L3} {c:List Sd} (h:ji M c) (hk:∀m ∈ M,dO m=true)
include h hk
end
end Go.Proofs.Tryz
namespace Go.Proofs.Tryz
open Go.bE Go.dP
def tw (l:List aq.V2):Rat:=((List.range l.length).map fun i=>aq.cr (l.getD i (0,0)) (l.getD ((i+1)%l.length) (0,0))).sum
def nF (S:List L3):List aq.V2:=(List.range S.length).filterMap fun i=>if 0<aq.cr (aq.ax (S.getD i (0,0,0))) (aq.ax (S.getD ((i+1)%S.length) (0,0,0))) then some (GW (S.getD i (0,0,0)) (S.getD ((i+1)%S.length) (0,0,0)),GX (S.getD i (0,0,0)) (S.getD ((i+1)%S.length) (0,0,0))) else none
section
variable {M:List L3} {c:List Sd} (h:ji M c) (hk:∀m ∈ M,dO m=true) (hb:∀s ∈ c,s.2.a=false/\s.2.b=false)
include h hk hb
end
end Go.Proofs.Tryz
namespace Go.Proofs.Tryz
open Go.bE Go.dP
section
variable {M:List L3} {c:List Sd} (h:ji M c) (hk:∀m ∈ M,dO m=true) (hb:∀s ∈ c,s.2.a=false/\s.2.b=false)
include h hk hb
end
end Go.Proofs.Tryz
namespace Go.Proofs.Tryz
open Go.bE Go.dP
section
variable {M:List L3} {c:List Sd} (h:ji M c) (hk:∀m ∈ M,dO m=true) (hb:∀s ∈ c,s.2.a=false/\s.2.b=false)
include h hk hb
end
end Go.Proofs.Tryz
namespace Go.Proofs.Tryz
open Go.bE Go.dP
section
variable {M:List L3} {c:List Sd} (h:ji M c) (hk:∀m ∈ M,dO m=true)
include h hk
end
end Go.Proofs.Tryz
namespace Go.Proofs.Tryz
open Go.bE Go.dP
theorem jX.up {k K:Nat}{l:L3}(h:jX k l)(hk:k<=K):jX K l:=⟨h.1.mono hk,h.2.1.mono hk,h.2.2.mono hk⟩
theorem BG {L M:L3}{s:Sp}{k K:Nat}(sl:jX k L)(sm:jX k M)(hs:s.sz K)(hk:60*k+60<=K):(dq L s M).sz K:=by
 have z:=MZ K (by omega)
 have c:=(ub sl sm).mono hk
 unfold dq
 split
 ·exact hs
 ·split
  ·exact Sp.Bg hs ⟨c,z⟩
  ·exact Sp.Bg hs ⟨z,c⟩
theorem GJ {k:Nat}(hk:0<k):bD.sz k:=⟨MZ k hk,MZ k hk⟩
def Tj (s:Sd):Prop:=Bd s.1/\s.2.sz 100000
theorem GL {x:Sd}:∀{r:List Sd} {i:Nat},i<=r.length->(∀k (h:k<r.length),k<i->aq.dp (aq.ax r[k].1) (aq.ax x.1)<0)->(∀h:i<r.length,¬aq.dp (aq.ax r[i].1) (aq.ax x.1)<0)->mg x r=r.take i++x::r.drop i
 | [],i,hi,_,_=>by simp [mg]
 | s::r,0,_,_,h=>by
  have:¬aq.dp (aq.ax s.1) (aq.ax x.1)<0:=h (Nat.zero_lt_succ _)
  unfold mg
  rw [if_neg this]
  rfl
 | s::r,i+1,hi,h1,h2=>by
  have:aq.dp (aq.ax s.1) (aq.ax x.1)<0:=h1 0 (Nat.zero_lt_succ _) (Nat.zero_lt_succ _)
  unfold mg
  rw [if_pos this,GL (r:=r) (i:=i) (by simpa using hi) (fun k hk hki=>h1 (k+1) (by simpa using hk) (by omega)) fun h=>h2 (by simpa using h)]
  rfl
structure Bs (r:List Sd) (l:L3) (i j:Nat):Prop where
 le:i<=j
 len:j<=r.length
 lo:∀k (h:k<r.length),k<i->aq.dp (aq.ax r[k].1) (aq.ax l)<0
 hi:∀h:j<r.length,¬aq.dp (aq.ax r[j].1) (aq.ax l)<0
theorem Bs.start (r:List Sd)(l:L3):Bs r l 0 r.length:=⟨Nat.zero_le _,Nat.le_refl _,fun k h hk=>absurd hk (Nat.not_lt_zero _),fun h=>absurd h (Nat.lt_irrefl _)⟩
theorem Bs.up {r:List Sd}{l:L3}{i j h:Nat}(b:Bs r l i j)(rM:r.Pairwise fun s u=>aq.dp (aq.ax s.1) (aq.ax u.1)<0)(h2:h<j)(hl:h<r.length)(hc:aq.dp (aq.ax r[h].1) (aq.ax l)<0):Bs r l (h+1) j:=
 ⟨h2,b.len,fun k hk hkh=>by
  by_cases e:k=h
  ·subst e;exact hc
  ·exact Ar (List.pairwise_iff_getElem.1 rM k h hk hl (by omega)) hc,b.hi⟩
theorem Bs.down {r:List Sd}{l:L3}{i j h:Nat}(b:Bs r l i j)(h1:i<=h)(hl:h<r.length)(hc:¬aq.dp (aq.ax r[h].1) (aq.ax l)<0):Bs r l i h:=
 ⟨h1,by omega,b.lo,fun _=>hc⟩
theorem Bs.done {r:List Sd}{l:L3}{i:Nat}(b:Bs r l i i)(v:Sp):mg (l,v) r=r.take i++(l,v)::r.drop i:=GL b.len b.lo b.hi
theorem RR.half (V:View):RR V (.agg #[.int .i64 1,.int .i64 1,.pointer none]) (((2:Int):Rat)⁻¹):=by
 have e1:(((2:Int):Rat)⁻¹).num=1:=by decide +kernel
 have e2:(((2:Int):Rat)⁻¹).den=2:=by decide +kernel
 refine .inl ⟨by rw [e1,e2];rfl,?_⟩
 unfold Wd
 rw [e1,e2];decide
theorem Cp {V:View}{v:Value}{x:Rat}(hx:RR V v x){k:Nat}(hk:Sz k x)(hkm:k+2<1099511627776) :
  ab prog 151 #[v] V fun r V'=>RR V' r (x*((2:Int):Rat)⁻¹):=by
 have hx0:=hx
 obtain ⟨a,b,c,rfl⟩:=hx.shape
 refine wv a b c V _ fun V1 l1=>(fa (hx0.le l1) (RR.half V1) hk (cY ue) hkm).mono ?_
 rintro r V2 l2 g
 have g0:=g
 obtain ⟨u,v,w,rfl⟩:=g.shape
 exact ⟨_,_,_,rfl,fun V3 l3=>g0.le l3⟩
theorem Cn {V:View}{v:Value}{s:Sp}(h:Gn V v s){k:Nat}(hs:s.sz k)(hk:4*k+8<1099511627776) :
  ab prog 133 #[v] V fun r V'=>RR V' r s.cD:=by
 obtain ⟨x1,x2,p,y1,y2,q,rfl,h1,h2⟩:=h
 have a1:s.a=true->s.b=true->s.cD=0:=fun x y=>by simp [Sp.cD,x,y]
 have a2:s.a=true->s.b=false->s.cD=s.hi-((1:Int):Rat):=fun x y=>by simp [Sp.cD,x,y]
 have a3:s.a=false->s.b=true->s.cD=s.lo+((1:Int):Rat):=fun x y=>by simp [Sp.cD,x,y]
 have a4:s.a=false->s.b=false->s.cD=(s.lo+s.hi)*((2:Int):Rat)⁻¹:=fun x y=>by simp [Sp.cD,x,y]
 have no:∀{P:Prop},s.a=true->s.a=false->P:=fun x y=>by rw [x] at y;cases y
 have nob:∀{P:Prop},s.b=true->s.b=false->P:=fun x y=>by rw [x] at y;cases y
 refine rC x1 x2 p y1 y2 q s.a s.b V _ ⟨fun ha=>⟨fun hb V1 l1=>?_,fun hb=>⟨fun _ V2 l2=>(iN 1 (by decide) (by decide)).mono ?_,fun e=>no ha e⟩⟩,fun ha=>⟨fun e=>no e ha,fun _=>⟨fun hb uj gF=>(iN 1 (by decide) (by decide)).mono ?_,fun hb Ng lO=>(jm (h1.le lO) (h2.le lO) hs.1 hs.2 (by omega)).mono ?_⟩⟩⟩
 ·rw [a1 ha hb];exact RR.zero _
 ·rintro r V3 l3 g
  have g0:=g
  obtain ⟨u,v,w,rfl⟩:=g.shape
  refine ⟨_,_,_,rfl,fun V4 l4=>(oX (h2.le (l2.trans (l3.trans l4))) (g0.le l4) hs.2 fT (by omega)).mono ?_⟩
  rintro r V5 l5 f
  have f0:=f
  obtain ⟨u,v,w,rfl⟩:=f.shape
  exact ⟨_,_,_,rfl,fun V6 l6=>by rw [a2 ha hb];exact f0.le l6⟩
 ·rintro r V3 l3 g
  have g0:=g
  obtain ⟨u,v,w,rfl⟩:=g.shape
  refine ⟨_,_,_,rfl,fun V4 l4=>(jm (h1.le (gF.trans (l3.trans l4))) (g0.le l4) hs.1 fT (by omega)).mono ?_⟩
  rintro r V5 l5 f
  have f0:=f
  obtain ⟨u,v,w,rfl⟩:=f.shape
  exact ⟨_,_,_,rfl,fun V6 l6=>by rw [a3 ha hb];exact f0.le l6⟩
 ·rintro r V3 l3 g
  have g0:=g
  obtain ⟨u,v,w,rfl⟩:=g.shape
  refine ⟨_,_,_,rfl,fun V4 l4=>(Cp (g0.le l4) (hs.1.add hs.2) (by omega)).mono ?_⟩
  rintro r V5 l5 f
  have f0:=f
  obtain ⟨u,v,w,rfl⟩:=f.shape
  exact ⟨_,_,_,rfl,fun V6 l6=>by rw [a4 ha hb];exact f0.le l6⟩
theorem Qk {V:View}:ab prog 179 #[] V fun r V'=>r=.agg #[.int .i64 0,.int .i64 0,.pointer none,.int .i64 0,.int .i64 0,.pointer none,.bool true,.bool true]:=
 FY V _ fun V1 l1=>rfl
def fX (V:View)(v:Value)(s:Sd):Prop:=N5 V v s.1 s.2/\Tj s
theorem fX.le {V V':View}{v:Value}{s:Sd}(h:fX V v s)(l:V.Le V'):fX V' v s:=⟨h.1.le l,h.2⟩
theorem fX.shape {V:View}{v:Value}{s:Sd}(h:fX V v s):∃(x1:Int)(x2:Int)(p:OA)(y1:Int)(y2:Int)(q:OA)(z1:Int)(z2:Int)(r:OA)(u1:Int)(u2:Int)(t:OA)(w1:Int)(w2:Int)(o:OA),v=.agg #[.int .i64 x1,.int .i64 x2,.pointer p,.int .i64 y1,.int .i64 y2,.pointer q,.int .i64 z1,.int .i64 z2,.pointer r,.int .i64 u1,.int .i64 u2,.pointer t,.int .i64 w1,.int .i64 w2,.pointer o,.bool s.2.a,.bool s.2.b]:=by
 obtain ⟨x1,x2,p,y1,y2,q,z1,z2,r,u1,u2,t,w1,w2,o,e,-⟩:=h.1
 exact ⟨x1,x2,p,y1,y2,q,z1,z2,r,u1,u2,t,w1,w2,o,e⟩
theorem Kh {x1:Int}{x2:Int}{p:OA}{y1:Int}{y2:Int}{q:OA}{z1:Int}{z2:Int}{r:OA}{u1:Int}{u2:Int}{t:OA}{w1:Int}{w2:Int}{o:OA}{c d:Bool}:∀v∈([.int .i64 x1,.int .i64 x2,.pointer p,.int .i64 y1,.int .i64 y2,.pointer q,.int .i64 z1,.int .i64 z2,.pointer r,.int .i64 u1,.int .i64 u2,.pointer t,.int .i64 w1,.int .i64 w2,.pointer o,.bool c,.bool d]:List Value),v.oneCell'=true:=by
 intro v hm
 simp only [List.mem_cons,List.not_mem_nil,or_false] at hm
 rcases hm with rfl|rfl|rfl|rfl|rfl|rfl|rfl|rfl|rfl|rfl|rfl|rfl|rfl|rfl|rfl|rfl|rfl<;>rfl
theorem MP {V:View}{s:Sd}:∀xs,fX V (.agg (List.toArray xs)) s->∀v∈xs,v.oneCell'=true:=by
 intro xs h
 obtain ⟨x1,x2,p,y1,y2,q,z1,z2,r,u1,u2,t,w1,w2,o,e⟩:=h.shape
 have e:=congrArg Array.toList (Value.agg.inj e)
 dsimp only at e
 subst e
 exact Kh
theorem iw {V:View}{c:OA}{n:Nat}{al:List Sd}(h:cB 17 fX V c n al){i:Nat}(hi:i<al.length) :
  c.isSome=true/\∃(x1:Int)(x2:Int)(p:OA)(y1:Int)(y2:Int)(q:OA)(z1:Int)(z2:Int)(r:OA)(u1:Int)(u2:Int)(t:OA)(w1:Int)(w2:Int)(o:OA)(a:Addr),ah c (i*17)=some a/\V.at (a.add 0) (.int .i64 x1)/\V.at (a.add 1) (.int .i64 x2)/\V.at (a.add 2) (.pointer p)/\V.at (a.add 3) (.int .i64 y1)/\V.at (a.add 4) (.int .i64 y2)/\V.at (a.add 5) (.pointer q)/\V.at (a.add 6) (.int .i64 z1)/\V.at (a.add 7) (.int .i64 z2)/\V.at (a.add 8) (.pointer r)/\V.at (a.add 9) (.int .i64 u1)/\V.at (a.add 10) (.int .i64 u2)/\V.at (a.add 11) (.pointer t)/\V.at (a.add 12) (.int .i64 w1)/\V.at (a.add 13) (.int .i64 w2)/\V.at (a.add 14) (.pointer o)/\V.at (a.add 15) (.bool al[i].2.a)/\V.at (a.add 16) (.bool al[i].2.b) /\
   fX V (.agg #[.int .i64 x1,.int .i64 x2,.pointer p,.int .i64 y1,.int .i64 y2,.pointer q,.int .i64 z1,.int .i64 z2,.pointer r,.int .i64 u1,.int .i64 u2,.pointer t,.int .i64 w1,.int .i64 w2,.pointer o,.bool al[i].2.a,.bool al[i].2.b]) al[i]:=by
 obtain ⟨ad,h0,xs,h1,h2,h3⟩:=h.at_ i hi
 have h20:=h2
 obtain ⟨x1,x2,p,y1,y2,q,z1,z2,r,u1,u2,t,w1,w2,o,e⟩:=h2.shape
 have e:=congrArg Array.toList (Value.agg.inj e)
 dsimp only at e
 subst e
 refine ⟨?_,x1,x2,p,y1,y2,q,z1,z2,r,u1,u2,t,w1,w2,o,ad,h0,h3 0 _ rfl,h3 1 _ rfl,h3 2 _ rfl,h3 3 _ rfl,h3 4 _ rfl,h3 5 _ rfl,h3 6 _ rfl,h3 7 _ rfl,h3 8 _ rfl,h3 9 _ rfl,h3 10 _ rfl,h3 11 _ rfl,h3 12 _ rfl,h3 13 _ rfl,h3 14 _ rfl,h3 15 _ rfl,h3 16 _ rfl,h20⟩
 cases c with
 | none=>cases h0
 | some a=>rfl
theorem G9 {V:View}{vs:List Value}{al:List Sd}(h:Row 17 fX V vs al){i:Nat}(hi:i<al.length):∃(x1:Int)(x2:Int)(p:OA)(y1:Int)(y2:Int)(q:OA)(z1:Int)(z2:Int)(r:OA)(u1:Int)(u2:Int)(t:OA)(w1:Int)(w2:Int)(o:OA),i*17+17<=vs.length/\(vs.drop (i*17)).take 17=[.int .i64 x1,.int .i64 x2,.pointer p,.int .i64 y1,.int .i64 y2,.pointer q,.int .i64 z1,.int .i64 z2,.pointer r,.int .i64 u1,.int .i64 u2,.pointer t,.int .i64 w1,.int .i64 w2,.pointer o,.bool al[i].2.a,.bool al[i].2.b] /\
  fX V (.agg #[.int .i64 x1,.int .i64 x2,.pointer p,.int .i64 y1,.int .i64 y2,.pointer q,.int .i64 z1,.int .i64 z2,.pointer r,.int .i64 u1,.int .i64 u2,.pointer t,.int .i64 w1,.int .i64 w2,.pointer o,.bool al[i].2.a,.bool al[i].2.b]) al[i]:=by
 obtain ⟨xs,h1,h2,h3⟩:=h.at_ i hi
 have hl:=h.kW (by decide)
 have h20:=h2
 obtain ⟨x1,x2,p,y1,y2,q,z1,z2,r,u1,u2,t,w1,w2,o,e⟩:=h2.shape
 have e:=congrArg Array.toList (Value.agg.inj e)
 dsimp only at e
 subst e
 refine ⟨x1,x2,p,y1,y2,q,z1,z2,r,u1,u2,t,w1,w2,o,by omega,?_,h20⟩
 apply List.ext_getElem?
 intro j
 rw [List.getElem?_take]
 split
 ·rename_i hj
  rw [List.getElem?_drop]
  exact h3 j _ (List.getElem?_eq_getElem (by show j<17;omega))▸(List.getElem?_eq_getElem (by show j<17;omega)).symm
 ·rename_i hj
  rw [List.getElem?_eq_none (by show 17<=j;omega)]
theorem fX.both {V:View}{s:Sd}{x1:Int}{x2:Int}{p:OA}{y1:Int}{y2:Int}{q:OA}{z1:Int}{z2:Int}{r:OA}{u1:Int}{u2:Int}{t:OA}{w1:Int}{w2:Int}{o:OA}{c d:Bool}(h:fX V (.agg #[.int .i64 x1,.int .i64 x2,.pointer p,.int .i64 y1,.int .i64 y2,.pointer q,.int .i64 z1,.int .i64 z2,.pointer r,.int .i64 u1,.int .i64 u2,.pointer t,.int .i64 w1,.int .i64 w2,.pointer o,.bool c,.bool d]) s) :
  xh V (.agg #[.int .i64 x1,.int .i64 x2,.pointer p,.int .i64 y1,.int .i64 y2,.pointer q,.int .i64 z1,.int .i64 z2,.pointer r]) s.1/\Gn V (.agg #[.int .i64 u1,.int .i64 u2,.pointer t,.int .i64 w1,.int .i64 w2,.pointer o,.bool s.2.a,.bool s.2.b]) s.2/\c=s.2.a/\d=s.2.b:=by
 obtain ⟨x1',x2',p',y1',y2',q',z1',z2',r',u1',u2',t',w1',w2',o',e,h1,h2⟩:=h.1
 have e:=congrArg Array.toList (Value.agg.inj e)
 simp only [List.cons.injEq,Value.bool.injEq,Value.int.injEq,Value.pointer.injEq,true_and,and_true] at e
 obtain ⟨rfl,rfl,rfl,rfl,rfl,rfl,rfl,rfl,rfl,rfl,rfl,rfl,rfl,rfl,rfl,rfl,rfl⟩:=e
 exact ⟨h1,h2,rfl,rfl⟩
theorem k_:∀{c d:List Sd} {l:L3} {v:Sp},dj (c++d) l v=(dj c l v).bind (dj d l)
 | [],_,_,_=>rfl
 | s::c,d,l,v=>by
  rw [List.cons_append]
  unfold dj
  split
  ·exact k_
  ·rfl
theorem rP {V:View}{cp:OA}{cn cc:Nat}{c:List Sd}{lv:Value}{l:L3}(h:cB 17 fX V cp cn c)(hl:xh V lv l)(hb:Bd l)(hn:c.length<=1000000) :
  ab prog 130 #[.slice cp cn cc,lv] V fun r V'=>∃w,r=.tuple #[w,.bool (dj c l bD).isSome]/\Gn V' w ((dj c l bD).getD Sp.zero)/\((dj c l bD).getD Sp.zero).sz 100000:=by
 have hl0:=hl
 obtain rfl:=h.len
 obtain ⟨_,_,_,_,_,_,_,_,_,rfl,-,-,-⟩:=hl
 have MA:∀{i:Nat} (hi:i<c.length) {s:Sp},dj (c.take i) l bD=some s->dj (c.take (i+1)) l bD=if dN l s c[i].1=true then some (dq l s c[i].1) else none:=fun {i} hi {s} e=>by
  rw [List.take_add_one,List.getElem?_eq_getElem hi,k_,e]
  show dj [c[i]] l s=_
  unfold dj
  rfl
 refine rB cp _ cc _ _ _ _ _ _ _ _ _ V _ fun V1 l1=>Qk.mono ?_
 rintro r V2 l2 rfl
 have L2:=l1.trans l2
 refine ⟨_,_,_,_,_,_,_,_,rfl,fun z V'=>∃(i:Nat)(s:Sp),z.1=(i:Int)/\i<=c.length/\dj (c.take i) l bD=some s/\s.sz 100000/\z.2.2.2.2.2.2.2.1=s.a/\z.2.2.2.2.2.2.2.2=s.b/\Gn V' (.agg #[.int .i64 z.2.1,.int .i64 z.2.2.1,.pointer z.2.2.2.1,.int .i64 z.2.2.2.2.1,.int .i64 z.2.2.2.2.2.1,.pointer z.2.2.2.2.2.2.1,.bool s.a,.bool s.b]) s,
  fun z=>c.length-z.1.toNat,⟨(0,0,0,none,0,0,none,true,true),by and_intros<;>rfl,0,bD,rfl,Nat.zero_le _,rfl,GJ (by omega),rfl,rfl,⟨_,_,_,_,_,_,rfl,RR.zero _,RR.zero _⟩⟩,?_⟩
 rintro ⟨z1,x1,x2,p,y1,y2,q,ba,bb⟩ V3 l3 ⟨i,s,e1,hi,hp,hs,ea,eb,hv⟩
 dsimp only at e1 ea eb hv ⊢
 subst e1 ea eb
 have L3:=L2.trans l3
 refine ⟨rfl,fun hlt=>?_,fun hlt V7 l7=>?_⟩
 ·have hlt:(i:Int)<c.length:=of_decide_eq_true hlt
  have hi':i<c.length:=by omega
  have w:i64.wrap ((i:Int)+1)=((i+1:Nat):Int):=by rw [aB (by omega)];rfl
  rw [Int.toNat_natCast,w]
  obtain ⟨ps,a1,a2,a3,a4,a5,a6,a7,a8,a9,b1,b2,b3,b4,b5,b6,a,ha,h0,h1,h2,h3,h4,h5,h6,h7,h8,h9,h10,h11,h12,PC,IM,PD,h16,hr⟩:=iw (h.le L3 fun _ _ g=>fX.le g L3) hi'
  obtain ⟨rl,ri,-,-⟩:=hr.both
  have pa:=MA hi' hp
  have sd:=hr.2
  refine ⟨ps,⟨by omega,by omega⟩,_,_,_,_,_,_,_,_,_,_,_,_,_,_,_,_,_,a,ha,h0,h1,h2,h3,h4,h5,h6,h7,h8,h9,h10,h11,h12,PC,IM,PD,h16,fun V4 l4=>(Co (hl0.le (L3.trans l4)) (hv.le l4) (rl.le l4) (k:=100000) (hb.lA.up (by omega)) hs (sd.1.lA.up (by omega)) (by omega)).mono ?_⟩
  rintro r V5 l5 ⟨w5,rfl,g⟩
  have g0:=g
  obtain ⟨_,_,_,_,_,_,rfl,-,-⟩:=g
  refine ⟨_,_,_,_,_,_,_,_,_,rfl,fun hf V6 l6=>?_,fun hf=>⟨(((i+1:Nat):Int),_,_,_,_,_,_,_,_),by dsimp only;omega,by and_intros<;>rfl,i+1,dq l s c[i].1,rfl,hi',?_,BG hb.lA sd.1.lA hs (by omega),rfl,rfl,g0⟩⟩
  ·have hf:dN l s c[i].1=false:=by simpa using hf
   have e:dj c l bD=none:=by
    have:=k_ (c:=c.take (i+1)) (d:=c.drop (i+1)) (l:=l) (v:=bD)
    rw [List.take_append_drop,pa,hf] at this
    exact this
   rw [e]
   exact ⟨_,rfl,⟨_,_,_,_,_,_,rfl,RR.zero _,RR.zero _⟩,MZ _ (by omega),MZ _ (by omega)⟩
  ·have hf:dN l s c[i].1=true:=by simpa using hf
   rw [pa,if_pos hf]
 ·have hlt:¬(i:Int)<c.length:=of_decide_eq_false hlt
  obtain rfl:i=c.length:=by omega
  rw [List.take_length] at hp
  rw [hp]
  exact ⟨_,rfl,hv.le l7,hs⟩
def PK (c:List Sd)(l:L3):Int:=if (dj c l bD).isSome=true then 0 else eJ c l
theorem Ay {V:View}{cp:OA}{cn cc:Nat}{c:List Sd}{lv:Value}{l:L3}(h:cB 17 fX V cp cn c)(hl:xh V lv l)(hb:Bd l)(hn:c.length<=1000000) :
  ab prog 78 #[.slice cp cn cc,lv] V fun r V'=>r=.int .i64 (PK c l):=by
 have hl0:=hl
 obtain rfl:=h.len
 obtain ⟨_,_,_,_,_,_,_,_,_,rfl,-,-,-⟩:=hl
 refine qk cp _ cc _ _ _ _ _ _ _ _ _ V _ fun V1 l1=>(rP (h.le l1 fun _ _ g=>fX.le g l1) (hl0.le l1) hb hn).mono ?_
 rintro r V2 l2 ⟨w,rfl,g,-⟩
 obtain ⟨_,_,_,_,_,_,rfl,-,-⟩:=g
 have L2:=l1.trans l2
 refine ⟨_,_,_,_,_,_,_,_,_,rfl,fun hp V3 l3=>by unfold PK;rw [if_pos hp],fun hp=>?_⟩
 have hp:(dj c l bD).isSome=false:=hp
 have e0:PK c l=eJ c l:=by unfold PK;rw [if_neg (by rw [hp];exact Bool.false_ne_true)]
 rw [e0]
 refine ⟨fun z V'=>∃i:Nat,z=(i:Int)/\i<=c.length/\eJ c l=eJ (c.drop i) l,fun z=>c.length-z.toNat,⟨0,by and_intros<;>rfl,0,rfl,Nat.zero_le _,rfl⟩,?_⟩
 rintro z V4 l4 ⟨i,rfl,hi,hpl⟩
 have L4:=L2.trans l4
 refine ⟨rfl,fun hlt=>?_,fun hlt lH dv=>?_⟩
 ·have hlt:(i:Int)<c.length:=of_decide_eq_true hlt
  have hi':i<c.length:=by omega
  have w:i64.wrap ((i:Int)+1)=((i+1:Nat):Int):=by rw [aB (by omega)];rfl
  rw [Int.toNat_natCast,w]
  obtain ⟨ps,a1,a2,a3,a4,a5,a6,a7,a8,a9,b1,b2,b3,b4,b5,b6,a,ha,h0,h1,h2,h3,h4,h5,h6,h7,h8,h9,h10,h11,h12,PC,IM,PD,h16,hr⟩:=iw (h.le L4 fun _ _ g=>fX.le g L4) hi'
  obtain ⟨rl,ri,-,-⟩:=hr.both
  have sd:=hr.2
  have ed:c.drop i=c[i]::c.drop (i+1):=List.drop_eq_getElem_cons hi'
  rw [ed] at hpl
  have hpl:eJ c l=if (ar l (ij c[i].1 c[i].2.cD) (il c[i].1 c[i].2.cD)).num.sign≠0 then (ar l (ij c[i].1 c[i].2.cD) (il c[i].1 c[i].2.cD)).num.sign else if c[i].1=l then 1 else eJ (c.drop (i+1)) l:=hpl.trans (by rfl)
  generalize c[i]=S at *
  have VH:=Hh sd.2
  refine ⟨ps,⟨by omega,by omega⟩,_,_,_,_,_,_,_,_,_,_,_,_,_,_,_,_,_,a,ha,h0,h1,h2,h3,h4,h5,h6,h7,h8,h9,h10,h11,h12,PC,IM,PD,h16,fun V5 l5=>(Cn (ri.le l5) sd.2 (by omega)).mono ?_⟩
  rintro r V6 l6 g
  have g0:=g
  obtain ⟨_,_,_,rfl⟩:=g.shape
  refine ⟨_,_,_,rfl,fun V7 l7=>(UL (rl.le (l5.trans (l6.trans l7))) (g0.le l7) (k:=300000) (sd.1.lA.up (by omega)) (VH.mono (by omega)) (by omega)).mono ?_⟩
  rintro r V8 l8 gp
  have Np:=gp
  obtain ⟨_,_,_,_,_,_,rfl,-,-⟩:=gp
  have sx:=FO (sd.1.lA.up (show 1000<=300000 by omega)) (VH.mono (show 2*100000+10<=300000 by omega))
  have sy:=FP (sd.1.lA.up (show 1000<=300000 by omega)) (VH.mono (show 2*100000+10<=300000 by omega))
  refine ⟨_,_,_,_,_,_,rfl,fun V9 l9=>(Fk (hl0.le (L4.trans (l5.trans (l6.trans (l7.trans (l8.trans l9)))))) (Np.le l9) (hb.lA.up (by omega)) sx sy (by omega)).mono ?_⟩
  rintro r jG l10 rfl
  refine ⟨_,rfl,fun hs jZ bI=>?_,fun hs mQ bV=>(Mf (rl.le (l5.trans (l6.trans (l7.trans (l8.trans (l9.trans (l10.trans bV))))))) (hl0.le (L4.trans (l5.trans (l6.trans (l7.trans (l8.trans (l9.trans (l10.trans bV)))))))) (k:=1000) sd.1.lA hb.lA (by omega)).mono ?_⟩
  ·rw [hpl,if_pos (by simpa using hs)]
  ·rintro r qv cC rfl
   rw [if_neg (by simpa using hs)] at hpl
   refine ⟨_,rfl,fun he mS du=>?_,fun he=>⟨((i+1:Nat):Int),by dsimp only;omega,by and_intros<;>rfl,i+1,rfl,hi',?_⟩⟩
   ·rw [hpl,if_pos (of_decide_eq_true he)]
   ·rw [hpl,if_neg (of_decide_eq_false he)]
 ·have hlt:¬(i:Int)<c.length:=of_decide_eq_false hlt
  obtain rfl:i=c.length:=by omega
  rw [hpl,List.drop_length]
  rfl
end Go.Proofs.Tryz
namespace Go.bE
open Go.Lib
variable {P:Program}
theorem jD (w:World)(dT sT ty elem:TypeId)(sz b o dLen dCap:Nat)(a:Addr)(sLen sCap:Nat)(cs:List Value)
  (hu:P.underlying dT=some (.slice elem))(hs:(P.info? elem).map (·.size)=some sz)(hn:cs.length=Nat.min sLen dLen*sz)
  (hsrc:∀j v,cs[j]?=some v->w.cell? (a.add j)=some v)(hc:∀j,j<cs.length->(w.cell? ⟨b,o+j,none⟩).isSome=true)(hf:∀j,j<cs.length->w.frozen? ⟨b,o+j,none⟩=false)(h1:∀v∈cs,v.oneCell'=true) :
  (Builtin.copy_ #[dT,sT] ty #[.slice (some ⟨b,o,none⟩) dLen dCap,.slice (some a) sLen sCap]).run P w=.ok (goInt (Nat.min sLen dLen)) (w.setCells b o cs):=by
 have hl:=run_loadCells_list (P:=P) w a cs hsrc
 have hst:=run_storeCells_cells (P:=P) b o cs 0 w (by simpa using hc) (by simpa using hf) h1
 cases hq:P.info? elem with
 | none=>simp [hq] at hs
 | some i=>
  have hi:i.size=sz:=by simpa [hq] using hs
  simp [Builtin.copy_,run_underlying hu,Builtin.lenOf,Builtin.firstCells,sizeOf,typeInfo,hq,hi,←hn,hl,hst]
theorem B5 (w:World){o:Oper}{a:Act}{K:Act->World->Prop}{Q:Exit->Act->World->Prop}(d s:Operand)(t t':TypeId)
  (ho:o.op=.call { callee:=.builtin .copy,args:=#[d,s],argTypes:=#[t,t'] })(v u:Value)(hd:a.eval d=v)(hs:a.eval s=u){v':Value}{w':World}
  (hr:(Builtin.copy_ #[t,t'] o.type #[v,u]).run P w=.ok v' w')(h:K (a.put o.dst v') w'):o.wp P a w K Q:=by
 unfold Oper.wp execOp
 simp only [ho,resolve,invoke,builtin,Sem.run_bind,Sem.run_pure,Result.andThen_ok,List.map_toArray,List.map_cons,List.map_nil,hd,hs,hr]
 exact h
theorem kA (w:World){ops:Array Oper}{rest:List Oper}{o:Oper}{a:Act}{Q:Exit->Act->World->Prop}(hgd:o.guard=none)(d s:Operand)(t t':TypeId)
  (ho:o.op=.call { callee:=.builtin .copy,args:=#[d,s],argTypes:=#[t,t'] })(v u:Value)(hd:a.eval d=v)(hs:a.eval s=u){v':Value}{w':World}
  (hr:(Builtin.copy_ #[t,t'] o.type #[v,u]).run P w=.ok v' w')(h:wpList P ops Q rest (a.put o.dst v') w'):wpList P ops Q (o::rest) a w:=
 wpList_plain hgd fun _ hK=>B5 w d s t t' ho v u hd hs hr (hK _ _ h)
theorem mC {ops:Array Oper}{o:Oper}{a:Act}{w:World}{K:Act->World->Prop}{Q:Exit->Act->World->Prop}{E:Prop}
  (hg:o.guard=none)(d x:Operand)(dT sT:TypeId)(hop:o.op=Op.call { callee:=Callee.builtin Builtin.copy,args:=#[d,x],argTypes:=#[dT,sT] })
  (v u:Value)(hd:a.eval d=v)(hx:a.eval x=u){v':Value}{w':World}(hr:(Builtin.copy_ #[dT,sT] o.type #[v,u]).run P w=.ok v' w')(hK:K (a.put o.dst v') w') :
  if Region.wanted o (yielded ops a.tmps)=true then Oper.wp P o a w K Q else E:=by
 have hw:Region.wanted o (yielded ops a.tmps)=true:=by simp [Region.wanted,hg]
 rw [if_pos hw]
 unfold Oper.wp
 simp [execOp,hop,resolve,invoke,builtin,hd,hx,hr,Result.andThen]
 exact hK
theorem fm {w:World}{b o:Nat}{vs:List Value}{ty:TypeId}(h:w.heap[b]?=some (.cells vs.toArray ty (0,0))):w.frozen? ⟨b,o,none⟩=false:=by simp [World.frozen?,h]
theorem Aj {w:World}{b:Nat}{vs:List Value}{ty:TypeId}(h:w.heap[b]?=some (.cells vs.toArray ty (0,0))):w.shape? b=some (ty,vs.length):=by simp [World.shape?,h]
theorem bR {w:World}{b o:Nat}{vs:List Value}{ty:TypeId}(h:w.heap[b]?=some (.cells vs.toArray ty (0,0))):w.cell? ⟨b,o,none⟩=vs[o]?:=cell_of_row h
theorem vh (X:Nat->Prop)(w:World):eM X w w.drew:=⟨Nat.le_refl _,fun _ _ _=>rfl,rfl,rfl,rfl⟩
theorem qP (X:Nat->Prop)(w:World)(o:Obj):eM X w (w.alloc o):=⟨by rw [show (w.alloc o).heap.size=w.heap.size+1 from Array.size_push ..];omega,fun b hb _=>bT w o hb,rfl,rfl,rfl⟩
theorem E4 {w:World}{g:Nat}{old cs:Array Value}{ty:TypeId}(h:w.heap[g]?=some (.cells old ty (0,0))):eM (·=g) w (w.setRow g cs):=by
 refine ⟨?_,fun b hb hn=>?_,?_,?_,?_⟩
 ·rw [d_ h,Array.size_setIfInBounds];exact Nat.le_refl _
 ·rw [d_ h,Array.getElem?_setIfInBounds_ne (fun e=>hn e.symm)]
 all_goals simp [World.setRow,h]
theorem cM {b:Nat}{ty:TypeId}:∀(xs:List Value)(o:Nat)(vs:List Value)(w:World),w.heap[b]?=some (.cells vs.toArray ty (0,0))->o+xs.length<=vs.length ->
  (w.setCells b o xs).heap[b]?=some (.cells (vs.take o++xs++vs.drop (o+xs.length)).toArray ty (0,0))/\eM (·=b) w (w.setCells b o xs)
 | [],o,vs,w,h,hl=>⟨by rw [World.setCells,List.append_nil,List.length_nil,Nat.add_zero,List.take_append_drop];exact h,eM.refl _ _⟩
 | x::xs,o,vs,w,h,hl=>by
  rw [List.length_cons] at hl
  have e1:w.setCell ⟨b,o,none⟩ x=w.setRow b (vs.toArray.setIfInBounds o x):=setCell_eq_setRow w b o vs.toArray ty (0,0) x h
  have e2:vs.toArray.setIfInBounds o x=(vs.set o x).toArray:=by simp
  rw [World.setCells,e1,e2]
  have h2:(w.setRow b (vs.set o x).toArray).heap[b]?=some (.cells (vs.set o x).toArray ty (0,0)):=setRow_heap w b vs.toArray _ ty (0,0) h
  obtain ⟨g1,g2⟩:=cM xs (o+1) (vs.set o x) _ h2 (by rw [List.length_set];omega)
  refine ⟨?_,(E4 h).trans g2⟩
  rw [g1]
  congr 3
  rw [List.take_set,List.take_add_one,List.getElem?_eq_getElem (by omega),List.drop_set_of_lt (by omega),List.length_cons,show o+1+xs.length=o+(xs.length+1) by omega]
  rw [List.set_append_right _ _ (by rw [List.length_take];omega),List.length_take,Nat.min_eq_left (by omega),Nat.sub_self]
  simp
end Go.bE
namespace Go.Proofs.Tryz
open Go.bE Go.RowKit Go.Lib
theorem pI:∃i z,prog.info? 211=some i/\i.zero=some z/\i.size=17/\i.bytes=128/\z.cells.size=17:=by
 have h:=FQ 211 _ rfl
 unfold kq at h
 split at h
 ·rename_i i d e1 e2
  split at h
  ·rename_i z ez
   have h:=Option.some.inj h
   injection h with h1 h2 h3 h4
   refine ⟨i,z,e1,ez,h2,h3,?_⟩
   have:=congrArg List.length h4
   rw [List.length_map,Array.length_toList] at this
   rw [this]
   rfl
  ·cases h
 ·cases h
theorem dQ (b o j:Nat):(⟨b,o,none⟩:Addr).add j=⟨b,o+j,none⟩:=by
 unfold Addr.add
 split
 ·rename_i h;subst h;rfl
 ·rfl
theorem NN (w:World){t:TypeId}{i:TypeInfo}(h:prog.info? t=some i):(Go.sizeOf t).run prog w=.ok i.size w:=by
 simp [sizeOf,typeInfo,h]
set_option maxHeartbeats 4000000 in
set_option maxRecDepth 100000 in
theorem H4 (b n c i vb:Nat)(cs vs:List Value)(w:World)(hi:i<n)(hroom:n+1<=c)(hn63:n<=1000000)(hvb:vb≠b)(hcl:c*17<=cs.length)(hvl:vs.length=17)
  (hb:w.heap[b]?=some (.cells cs.toArray 211 (0,0)))(hv:w.heap[vb]?=some (.cells vs.toArray 211 (0,0)))
  (h1c:∀v∈(cs.take (n*17)).drop (i*17),v.oneCell'=true)(h1v:∀v∈vs,v.oneCell'=true) :
  Calls prog 164 #[.slice (some ⟨b,0,none⟩) n c,.int .i64 i,.slice (some ⟨vb,0,none⟩) 1 1] w fun e w'=>
   e=.returned (.slice (some ⟨b,0,none⟩) (n+1) c)/\w'=(w.drew.setCells b ((i+1)*17) ((cs.take (n*17)).drop (i*17))).setCells b (i*17) vs:=by
 obtain ⟨ti,z,e1,e2,e3,e4,e5⟩:=pI
 have hz2:¬((i:Int)=(n:Int)):=by omega
 have hsz:(prog.info? 211).map (·.size)=some 17:=by rw [e1];simp [e3]
 have uT:=underlying119
 have uV:=underlying118
 have rz:∀w,(Go.sizeOf 211).run prog w=.ok 17 w:=fun w=>by rw [NN w e1,e3]
 have ru:=run_underlying uT
 have rv:=run_underlying uV
 have hov:∀lb cb,(callFunc 197 #[.slice (some ⟨vb,0,none⟩) 1 1,.slice (some ⟨b,(i+1)*17,none⟩) lb cb]).run prog w=.ok (.value (.bool false)) w:=fun lb cb=>by
  rw [run_callFunc_extern func197 (by kernel_rfl) (by kernel_rfl) (by kernel_rfl) (e:=Extern.SlicesOverlaps.overlaps #[118,118] #[4]) (by kernel_rfl),
   Lib.run_overlaps_apart w 118 4 211 uV 17 rz ⟨vb,0,none⟩ ⟨b,(i+1)*17,none⟩ 1 1 lb cb hvb _ _ _ _ (Aj hv) (Aj hb) (by omega) (fm hv) (fm hv)]
  rfl
 obtain ⟨mid,hmid⟩:∃mid,mid=(cs.take (n*17)).drop (i*17):=⟨_,rfl⟩
 rw [←hmid] at h1c ⊢
 have hml:mid.length=(n-i)*17:=by rw [hmid,List.length_drop,List.length_take];omega
 have hcell:∀(W:World)(o:Nat),W.heap[b]?=some (.cells cs.toArray 211 (0,0))->o<cs.length->(W.cell? ⟨b,o,none⟩).isSome=true:=fun W o hW ho=>by rw [bR hW,List.getElem?_eq_getElem ho];rfl
 have hbd:(w.drew).heap[b]?=some (.cells cs.toArray 211 (0,0)):=hb
 have hmn:∀x:Nat,Nat.min (n+1-i) (n+1-(i+1))=n-i:=fun _=>by simp only [Nat.min_def];split<;>omega
 have hcp1:∀ty dc sc,(Builtin.copy_ #[119,119] ty #[.slice (some ⟨b,(i+1)*17,none⟩) (n+1-(i+1)) dc,.slice (some ⟨b,i*17,none⟩) (n+1-i) sc]).run prog w.drew=  .ok (goInt ((n-i:Nat):Int)) (w.drew.setCells b ((i+1)*17) mid):=fun ty dc sc=>by
  have:=jD (P:=prog) w.drew 119 119 ty 211 17 b ((i+1)*17) (n+1-(i+1)) dc ⟨b,i*17,none⟩ (n+1-i) sc mid uT hsz (by rw [hmn 0,hml])
   (fun j v hj=>by
    rw [dQ b,bR hbd]
    rw [hmid,List.getElem?_drop,List.getElem?_take] at hj
    split at hj
    ·exact hj
    ·cases hj)
   (fun j hj=>hcell _ _ hbd (by rw [hml] at hj;omega)) (fun j hj=>fm hbd) h1c
  rw [hmn 0] at this
  exact this
 obtain ⟨g1,g2⟩:=cM mid ((i+1)*17) cs w.drew hbd (by rw [hml];omega)
 obtain ⟨W1,hW1⟩:∃W1,W1=w.drew.setCells b ((i+1)*17) mid:=⟨_,rfl⟩
 rw [←hW1] at hcp1 g1 g2 ⊢
 have Qz:Nat.min 1 (n+1-i)=1:=by simp only [Nat.min_def];split<;>omega
 have hvw:vb<w.heap.size:=(Array.getElem?_eq_some_iff.1 hv).1
 have hv1:W1.heap[vb]?=some (.cells vs.toArray 211 (0,0)):=by rw [g2.bG vb hvw hvb];exact hv
 have hcp2:∀ty dc,(Builtin.copy_ #[119,118] ty #[.slice (some ⟨b,i*17,none⟩) (n+1-i) dc,.slice (some ⟨vb,0,none⟩) 1 1]).run prog W1=.ok (goInt 1) (W1.setCells b (i*17) vs):=fun ty dc=>by
  have:=jD (P:=prog) W1 119 118 ty 211 17 b (i*17) (n+1-i) dc ⟨vb,0,none⟩ 1 1 vs uT hsz (by rw [Qz,hvl])
   (fun j v hj=>by rw [dQ vb,Nat.zero_add,bR hv1];exact hj)
   (fun j hj=>by rw [bR g1,List.getElem?_eq_getElem (by rw [hvl] at hj;simp only [List.length_append,List.length_take,List.length_drop,hml];omega)];rfl) (fun j hj=>fm g1) h1v
  rw [Qz] at this
  exact this
 clear g1 g2 hmid h1c hW1
 have mixed:=mixed
 have hw1:i64.wrap ((i:Int)+1)=(i:Int)+1:=by rw [IntKind.wrap_i64];omega
 have hb1:(0:Int)<=(i:Int)+1:=by omega
 have hin:i<=n:=by omega
 have htn:((i:Int)+1).toNat=i+1:=by omega
 have hb2:¬(c=i+1):=by omega
 have hb3:(i:Int)<=(n:Int)+1:=by omega
 have hb4:¬(c=i):=by omega
 go_enter func164,ntmps164
 go_wp2_with (simp only [hov])
 go_region_law_o (refine mC rfl _ _ 119 119 rfl (.slice (some ⟨b,(i+1)*17,none⟩) (n+1-(i+1)) (c-(i+1))) (.slice (some ⟨b,i*17,none⟩) (n+1-i) (c-i)) (by simp [Act.eval,Act.put]) (by simp [Act.eval,Act.put]) (hcp1 3 _ _) ?_)
 go_wp2_with (at_builtin;refine kA _ rfl _ _ 119 118 rfl _ _ rfl rfl (hcp2 _ _) ?_)
 go_ret
 exact ⟨rfl,rfl⟩
set_option maxHeartbeats 4000000 in
set_option maxRecDepth 100000 in
theorem Md (b n c vb:Nat)(cs vs:List Value)(w:World)(hroom:n+1<=c)(hn63:n<=1000000)(hcl:c*17<=cs.length)(hvl:vs.length=17)
  (hb:w.heap[b]?=some (.cells cs.toArray 211 (0,0)))(hv:w.heap[vb]?=some (.cells vs.toArray 211 (0,0)))(h1v:∀v∈vs,v.oneCell'=true) :
  Calls prog 164 #[.slice (some ⟨b,0,none⟩) n c,.int .i64 n,.slice (some ⟨vb,0,none⟩) 1 1] w fun e w'=>
   e=.returned (.slice (some ⟨b,0,none⟩) (n+1) c)/\w'=w.setCells b (0+n*17) vs:=by
 obtain ⟨ti,z,e1,e2,e3,e4,e5⟩:=pI
 have uT:=underlying119
 have uV:=underlying118
 have ru:=run_underlying uT
 have rv:=run_underlying uV
 have mixed:=mixed
 have hsrc:Src prog ti.size 118 (.slice (some ⟨vb,0,none⟩) 1 1) 1 vs w:=Src.ofSlice w uV ⟨vb,0,none⟩ 1 1 vs (by rw [e3,hvl]) (fun j u hj=>by rw [dQ vb,Nat.zero_add,bR hv];exact hj) h1v
 have hc:∀j,j<vs.length->(w.cell? ⟨b,0+n*ti.size+j,none⟩).isSome=true:=fun j hj=>by rw [bR hb,e3,List.getElem?_eq_getElem (by rw [hvl] at hj;omega)];rfl
 have hf:∀j,j<vs.length->w.frozen? ⟨b,0+n*ti.size+j,none⟩=false:=fun j hj=>fm hb
 go_enter func164,ntmps164
 go_wp2_with (at_builtin;refine wpList_append_room_src _ rfl _ _ 119 118 rfl 211 ti uT e1 b 0 n c rfl _ rfl 1 vs hsrc hroom hc hf ?_)
 go_ret
 exact ⟨rfl,by rw [Nat.zero_add]⟩
set_option maxHeartbeats 4000000 in
set_option maxRecDepth 100000 in
theorem A_ (b n c vb:Nat)(cs vs:List Value)(w:World)(hnc:n<=c)(hroom:c<n+1)(hn63:n<=1000000)(hcl:c*17<=cs.length)(hvl:vs.length=17)
  (hb:w.heap[b]?=some (.cells cs.toArray 211 (0,0)))(hv:w.heap[vb]?=some (.cells vs.toArray 211 (0,0)))(h1v:∀v∈vs,v.oneCell'=true) :
  ∃z:Array Value,z.size=17/\Calls prog 164 #[.slice (some ⟨b,0,none⟩) n c,.int .i64 n,.slice (some ⟨vb,0,none⟩) 1 1] w fun e w'=>
   e=.returned (.slice (some ⟨w.heap.size,0,none⟩) (n+1) (grownCap w (n+1) c 211)) /\
   w'=w.drew.alloc (.cells ((cs.take (n*17)++vs).toArray++Builtin.zeroCells z (grownCap w (n+1) c 211-(n+1))) 211):=by
 obtain ⟨ti,z,e1,e2,e3,e4,e5⟩:=pI
 refine ⟨z.cells,e5,?_⟩
 have uT:=underlying119
 have uV:=underlying118
 have ru:=run_underlying uT
 have rv:=run_underlying uV
 have mixed:=mixed
 have hsrc:Src prog ti.size 118 (.slice (some ⟨vb,0,none⟩) 1 1) 1 vs w:=Src.ofSlice w uV ⟨vb,0,none⟩ 1 1 vs (by rw [e3,hvl]) (fun j u hj=>by rw [dQ vb,Nat.zero_add,bR hv];exact hj) h1v
 have hbd:(w.drew).heap[b]?=some (.cells cs.toArray 211 (0,0)):=hb
 have hold:(Builtin.firstCells ti.size n (.slice (some ⟨b,0,none⟩) n c)).run prog w.drew=.ok (cs.take (n*17)).toArray w.drew:=by
  rw [e3]
  exact run_firstCells_some w.drew 17 n ⟨b,0,none⟩ n c (cs.take (n*17)) (by rw [List.length_take];omega) (fun j v hj=>by
   rw [dQ b,Nat.zero_add,bR hbd]
   rw [List.getElem?_take] at hj
   split at hj
   ·exact hj
   ·cases hj)
 have hrun:∀ty,(Builtin.append_ #[119,118] ty #[.slice (some ⟨b,0,none⟩) n c,.slice (some ⟨vb,0,none⟩) 1 1]).run prog w=_:=fun ty=>
  run_append_grow_src w 119 118 ty 211 ti z uT e1 e2 (some ⟨b,0,none⟩) n c (cs.take (n*17)) hold _ 1 vs hsrc hroom (by omega) (by rw [e4];exact growslice_fits hroom (by omega))
 obtain ⟨zc,hzc⟩:∃zc,zc=z.cells:=⟨_,rfl⟩
 rw [←hzc] at hrun ⊢
 obtain ⟨ROW,hROW⟩:∃ROW:Array Value,ROW=(cs.take (n*17)++vs).toArray++Builtin.zeroCells zc (grownCap w (n+1) c 211-(n+1)):=⟨_,rfl⟩
 rw [←hROW] at hrun ⊢
 clear hzc e5 hold hROW
 go_enter func164,ntmps164
 go_wp2_with (at_builtin;refine Lib.wpList_append_run _ rfl _ _ _ _ rfl _ _ rfl rfl _ _ (hrun _) ?_)
 all_goals (go_ret;exact ⟨rfl,rfl⟩)
set_option maxHeartbeats 4000000 in
set_option maxRecDepth 100000 in
theorem JO (b n c i vb:Nat)(cs vs:List Value)(w:World)(hi:i<n)(hnc:n<=c)(hroom:c<n+1)(hn63:n<=1000000)(hvb:vb≠b)(hcl:c*17<=cs.length)(hvl:vs.length=17)
  (hb:w.heap[b]?=some (.cells cs.toArray 211 (0,0)))(hv:w.heap[vb]?=some (.cells vs.toArray 211 (0,0)))
  (h1c:∀v∈(cs.take (n*17)).drop (i*17),v.oneCell'=true)(h1v:∀v∈vs,v.oneCell'=true) :
  ∃z:Array Value,z.size=17/\Calls prog 164 #[.slice (some ⟨b,0,none⟩) n c,.int .i64 i,.slice (some ⟨vb,0,none⟩) 1 1] w fun e w'=>
   e=.returned (.slice (some ⟨w.heap.size,0,none⟩) (n+1) (grownCap w (n+1) c 211)) /\
   w'=(((w.alloc (.cells ((cs.take (i*17)).toArray++Builtin.zeroCells z (n+1-i)++Builtin.zeroCells z (grownCap w (n+1) c 211-(n+1))) 211)).drew.setCells w.heap.size (i*17) vs).drew).setCells w.heap.size ((i+1)*17) ((cs.take (n*17)).drop (i*17)):=by
 obtain ⟨ti,z,e1,e2,e3,e4,e5⟩:=pI
 refine ⟨z.cells,e5,?_⟩
 have uT:=underlying119
 have uV:=underlying118
 have uI:=underlying3
 have ru:=run_underlying uT
 have rv:=run_underlying uV
 have rz:∀w,(Go.sizeOf 211).run prog w=.ok 17 w:=fun w=>by rw [NN w e1,e3]
 have mixed:=mixed
 have hz2:¬((i:Int)=(n:Int)):=by omega
 have hz3:(c:Int)<(n:Int)+1:=by omega
 have hsz:(prog.info? 211).map (·.size)=some 17:=by rw [e1];simp [e3]
 have hbw:b<w.heap.size:=(Array.getElem?_eq_some_iff.1 hb).1
 have hvw:vb<w.heap.size:=(Array.getElem?_eq_some_iff.1 hv).1
 have hkk:(n:Int)+1-(i:Int)=((n+1-i:Nat):Int):=by omega
 have hik:i+(n+1-i)=n+1:=by omega
 have hbd:(w.drew).heap[b]?=some (.cells cs.toArray 211 (0,0)):=hb
 have hold:(Builtin.firstCells ti.size i (.slice (some ⟨b,0,none⟩) i c)).run prog w.drew=.ok (cs.take (i*17)).toArray w.drew:=by
  rw [e3]
  exact run_firstCells_some w.drew 17 i ⟨b,0,none⟩ i c (cs.take (i*17)) (by rw [List.length_take];omega) (fun j v hj=>by
   rw [dQ b,Nat.zero_add,bR hbd]
   rw [List.getElem?_take] at hj
   split at hj
   ·exact hj
   ·cases hj)
 obtain ⟨zc,hzc⟩:∃zc,zc=z.cells:=⟨_,rfl⟩
 rw [←hzc] at e5 ⊢
 have hrz:∀ty,(Builtin.append_ #[119,3] ty #[.slice (some ⟨b,0,none⟩) i c,.int .i64 ((n:Int)+1-(i:Int))]).run prog w =
   .ok (.slice (some ⟨w.heap.size,0,none⟩) (n+1) (grownCap w (n+1) c 211)) (w.drew.alloc (.cells ((cs.take (i*17)).toArray++Builtin.zeroCells zc (n+1-i)++Builtin.zeroCells zc (grownCap w (n+1) c 211-(n+1))) 211)):=fun ty=>by
  have h:=Lib.run_append_grow_zeros w 119 3 ty 211 ti z .i64 .i64 uT uI e1 e2 (some ⟨b,0,none⟩) i c (cs.take (i*17)) hold (n+1-i) (by omega) (by omega) (by omega) (by omega) (by rw [e4];omega) (by rw [e4,hik];exact growslice_fits hroom (by omega))
  rw [hik,←hzc] at h
  rw [hkk]
  exact h
 obtain ⟨G,hG⟩:∃G,G=grownCap w (n+1) c 211:=⟨_,rfl⟩
 obtain ⟨ROW,hROW⟩:∃ROW:List Value,ROW.toArray=(cs.take (i*17)).toArray++Builtin.zeroCells zc (n+1-i)++Builtin.zeroCells zc (G-(n+1)):=⟨((cs.take (i*17)).toArray++Builtin.zeroCells zc (n+1-i)++Builtin.zeroCells zc (G-(n+1))).toList,by simp⟩
 rw [←hG] at hrz ⊢
 rw [←hROW] at hrz ⊢
 have hRl:(n+1)*17<=ROW.length:=by
  have:=congrArg Array.size hROW
  simp [Builtin.zeroCells,e5] at this
  omega
 obtain ⟨mid,hmid⟩:∃mid,mid=(cs.take (n*17)).drop (i*17):=⟨_,rfl⟩
 rw [←hmid] at h1c ⊢
 have hml:mid.length=(n-i)*17:=by rw [hmid,List.length_drop,List.length_take];omega
 obtain ⟨W1,hW1⟩:∃W1,W1=w.drew.alloc (.cells ROW.toArray 211):=⟨_,rfl⟩
 rw [←hW1] at hrz
 have hN:W1.heap[w.heap.size]?=some (.cells ROW.toArray 211 (0,0)):=by rw [hW1];exact Array.getElem?_push_size
 have hB:W1.heap[b]?=some (.cells cs.toArray 211 (0,0)):=by rw [hW1];exact (bT w.drew _ hbw).trans hb
 have hV:W1.heap[vb]?=some (.cells vs.toArray 211 (0,0)):=by rw [hW1];exact (bT w.drew _ hvw).trans hv
 have Oz:Nat.min 1 (n+1-i)=1:=by simp only [Nat.min_def];split<;>omega
 have hcpA:∀(W:World),W.heap=W1.heap->∀ty dc,(Builtin.copy_ #[119,118] ty #[.slice (some ⟨w.heap.size,i*17,none⟩) (n+1-i) dc,.slice (some ⟨vb,0,none⟩) 1 1]).run prog W=.ok (goInt 1) (W.setCells w.heap.size (i*17) vs):=fun W hW ty dc=>by
  have:=jD (P:=prog) W 119 118 ty 211 17 w.heap.size (i*17) (n+1-i) dc ⟨vb,0,none⟩ 1 1 vs uT hsz (by rw [Oz,hvl])
   (fun j v hj=>by rw [dQ vb,Nat.zero_add,bR (by rw [hW];exact hV)];exact hj)
   (fun j hj=>by rw [bR (by rw [hW];exact hN),List.getElem?_eq_getElem (by omega)];rfl) (fun j hj=>fm (by rw [hW];exact hN)) h1v
  rw [Oz] at this
  exact this
 have hbN:b≠w.heap.size:=by omega
 have OB:Nat.min (n-i) (n+1-(i+1))=n-i:=by simp only [Nat.min_def];split<;>omega
 have hcpB:∀(W:World),W.heap=W1.heap->∀ty dc sc,(Builtin.copy_ #[119,119] ty #[.slice (some ⟨w.heap.size,(i+1)*17,none⟩) (n+1-(i+1)) dc,.slice (some ⟨b,i*17,none⟩) (n-i) sc]).run prog (W.setCells w.heap.size (i*17) vs).drew=.ok (goInt ((n-i:Nat):Int)) ((W.setCells w.heap.size (i*17) vs).drew.setCells w.heap.size ((i+1)*17) mid):=fun W hW ty dc sc=>by
  obtain ⟨g1,g2⟩:=cM vs (i*17) ROW W (by rw [hW];exact hN) (by omega)
  have hb2:(W.setCells w.heap.size (i*17) vs).drew.heap[b]?=some (.cells cs.toArray 211 (0,0)):=by
   have:=g2.bG b (by rw [hW];exact (Array.getElem?_eq_some_iff.1 hB).1) hbN
   rw [hW,hB] at this
   exact this
  have hn2:(W.setCells w.heap.size (i*17) vs).drew.heap[w.heap.size]?=_:=g1
  have:=jD (P:=prog) (W.setCells w.heap.size (i*17) vs).drew 119 119 ty 211 17 w.heap.size ((i+1)*17) (n+1-(i+1)) dc ⟨b,i*17,none⟩ (n-i) sc mid uT hsz (by rw [OB,hml])
   (fun j v hj=>by
    rw [dQ b,bR hb2]
    rw [hmid,List.getElem?_drop,List.getElem?_take] at hj
    split at hj
    ·exact hj
    ·cases hj)
   (fun j hj=>by rw [bR hn2,List.getElem?_eq_getElem (by rw [hml] at hj;simp only [List.length_append,List.length_take,List.length_drop,hvl];omega)];rfl) (fun j hj=>fm hn2) h1c
  rw [OB] at this
  exact this
 have hGn:n+1<=G:=by rw [hG];exact grownCap_ge w _ _ _
 have hG63:G<=9223372036854775807:=by
  have:=grownCap_le_maxLen w (n+1) c 211 (by unfold maxLen;omega)
  rw [←hG] at this
  unfold maxLen at this
  omega
 have hGi:¬(G=i):=by omega
 have hGim:¬(G=i+1):=by omega
 have hci:¬(c=i):=by omega
 have hA:=hcpA ((w.alloc (.cells ROW.toArray 211)).drew) (by rw [hW1];rfl)
 have hA':=hcpA W1 rfl
 have hB':=hcpB ((w.alloc (.cells ROW.toArray 211)).drew) (by rw [hW1];rfl)
 subst hW1
 have hw1:i64.wrap ((i:Int)+1)=(i:Int)+1:=by rw [IntKind.wrap_i64];omega
 have hw2:i64.wrap ((n:Int)+1)=(n:Int)+1:=by rw [IntKind.wrap_i64];omega
 have hb1:(0:Int)<=(i:Int)+1:=by omega
 have hin:i<=n:=by omega
 have htn:((i:Int)+1).toNat=i+1:=by omega
 have hb3:(i:Int)<=(n:Int):=by omega
 clear hkk hik hold hROW hG hRl hcpA hcpB hN hB hV hzc e5 hmid h1c Oz OB hml
 go_enter func164,ntmps164
 go_wp2_with (first
  | (at_builtin;refine Lib.wpList_append_run _ rfl _ _ _ _ rfl _ _ rfl rfl _ _ (hrz _) ?_)
  | (at_builtin;refine kA _ rfl _ _ 119 118 rfl _ _ rfl rfl (hA _ _) ?_))
 go_region_law_o (refine mC rfl _ _ 119 119 rfl (.slice (some ⟨w.heap.size,(i+1)*17,none⟩) (n+1-(i+1)) (G-(i+1))) (.slice (some ⟨b,i*17,none⟩) (n-i) (c-i)) (by simp [Act.eval,Act.put]) (by simp [Act.eval,Act.put]) (hB' 3 (G-(i+1)) (c-i)) ?_)
 go_wp2
 go_ret
 exact ⟨rfl,rfl⟩
end Go.Proofs.Tryz
namespace Go.Proofs.Tryz
open Go.bE
theorem Ph {α:Type}{A B:List α}{k:Nat}(h:k<=A.length):(A.take k++B).drop k=B:=by
 rw [List.drop_append_of_le_length (by rw [List.length_take];omega),List.drop_eq_nil_of_le (by rw [List.length_take];omega),List.nil_append]
theorem Sa {α:Type}{A B:List α}{j k:Nat}(hj:j<=k)(h:k<=A.length):(A.take k++B).take j=A.take j:=by
 rw [List.take_append_of_le_length (by rw [List.length_take];omega),List.take_take,Nat.min_eq_left hj]
theorem Jf {V:View}{ob vb n c i:Nat}{vs xs:List Value}(hs:V.w.heap[ob]?=some (.cells vs.toArray 211 (0,0)))(hx:V.X ob)(hv:V.w.heap[vb]?=some (.cells xs.toArray 211 (0,0)))
  (hne:ob≠vb)(hi:i<=n)(hnc:n<=c)(hc:n<=1000000)(hcl:c*17<=vs.length)(hl:xs.length=17)(h1c:∀v∈(vs.take (n*17)).drop (i*17),v.oneCell'=true)(h1v:∀v∈xs,v.oneCell'=true) :
  ab prog 164 #[.slice (some ⟨ob,0,none⟩) n c,.int .i64 i,.slice (some ⟨vb,0,none⟩) 1 1] V fun r V'=>∃(q c':Nat)(sp:List Value),r=.slice (some ⟨q,0,none⟩) (n+1) c' /\
   V'.w.heap[q]?=some (.cells (vs.take (i*17)++(xs++(vs.take (n*17)).drop (i*17))++sp).toArray 211 (0,0))/\(V.w.heap.size<=q\/q=ob)/\n+1<=c'/\c'*17<=(n+1)*17+sp.length /\
   V'.w.heap[vb]?=some (.cells xs.toArray 211 (0,0)):=by
 refine ⟨⟨f164,func164,rfl,by kernel_rfl⟩,?_⟩
 have hbw:ob<V.w.heap.size:=(Array.getElem?_eq_some_iff.1 hs).1
 have hvw:vb<V.w.heap.size:=(Array.getElem?_eq_some_iff.1 hv).1
 have hml:((vs.take (n*17)).drop (i*17)).length=(n-i)*17:=by rw [List.length_drop,List.length_take];omega
 by_cases hr:n+1<=c
 ·by_cases hin:i<n
  ·refine (H4 ob n c i vb vs xs V.w hin hr hc (fun e=>hne e.symm) hcl hl hs hv h1c h1v).mono ?_
   rintro e w' ⟨e1,rfl⟩
   obtain ⟨g1,g2⟩:=cM ((vs.take (n*17)).drop (i*17)) ((i+1)*17) vs V.w.drew hs (by rw [hml];omega)
   have tl:(vs.take ((i+1)*17)).length=(i+1)*17:=by rw [List.length_take];omega
   obtain ⟨g3,g4⟩:=cM xs (i*17) _ _ g1 (by simp only [List.length_append,tl,hml];omega)
   have ex:=((vh (·=ob) V.w).trans g2).trans g4
   refine ⟨_,e1,ex.mono fun b e=>e▸hx,ob,c,vs.drop ((i+1)*17+((vs.take (n*17)).drop (i*17)).length),rfl,?_,.inr rfl,hr,?_,?_⟩
   ·refine g3.trans ?_
    congr 3
    rw [List.append_assoc,hl,List.append_assoc (vs.take ((i+1)*17)),Sa (by omega) (by omega),show i*17+17=(i+1)*17 by omega,Ph (by omega)]
    simp only [List.append_assoc]
   ·rw [List.length_drop,hml];omega
   ·exact (ex.bG vb hvw fun e=>hne e.symm).trans hv
  ·obtain rfl:i=n:=by omega
   refine (Md ob i c vb vs xs V.w hr hc hcl hl hs hv h1v).mono ?_
   rintro e w' ⟨e1,rfl⟩
   obtain ⟨g3,g4⟩:=cM xs (0+i*17) vs V.w hs (by omega)
   refine ⟨_,e1,g4.mono fun b e=>e▸hx,ob,c,vs.drop (0+i*17+xs.length),rfl,?_,.inr rfl,hr,?_,?_⟩
   ·refine g3.trans ?_
    congr 3
    rw [show (vs.take (i*17)).drop (i*17)=[] from List.drop_eq_nil_of_le (by rw [List.length_take];omega),Nat.zero_add,List.append_nil]
   ·rw [List.length_drop];omega
   ·exact (g4.bG vb hvw fun e=>hne e.symm).trans hv
 ·by_cases hin:i<n
  ·obtain ⟨z,hz,dh⟩:=JO ob n c i vb vs xs V.w hin hnc (by omega) hc (fun e=>hne e.symm) hcl hl hs hv h1c h1v
   refine dh.mono ?_
   rintro e w' ⟨e1,rfl⟩
   have hG:=Go.grownCap_ge V.w (n+1) c 211
   generalize Go.grownCap V.w (n+1) c 211=G at *
   obtain ⟨ROW,hROW⟩:∃ROW:List Value,ROW.toArray=(vs.take (i*17)).toArray++Builtin.zeroCells z (n+1-i)++Builtin.zeroCells z (G-(n+1)):=⟨((vs.take (i*17)).toArray++Builtin.zeroCells z (n+1-i)++Builtin.zeroCells z (G-(n+1))).toList,by simp⟩
   have XC:ROW=vs.take (i*17)++((Builtin.zeroCells z (n+1-i)).toList++(Builtin.zeroCells z (G-(n+1))).toList):=by
    have:=congrArg Array.toList hROW
    simpa using this
   have hzl:∀k,(Builtin.zeroCells z k).toList.length=k*17:=fun k=>by simp [Builtin.zeroCells,hz]
   have S3:(vs.take (i*17)).length=i*17:=by rw [List.length_take];omega
   have hRl:ROW.length=i*17+(n+1-i)*17+(G-(n+1))*17:=by rw [XC];simp only [List.length_append,hzl,S3];omega
   rw [←hROW]
   have hN:(V.w.alloc (.cells ROW.toArray 211)).drew.heap[V.w.heap.size]?=some (.cells ROW.toArray 211 (0,0)):=Array.getElem?_push_size
   have x1:eM (·=ob) V.w (V.w.alloc (.cells ROW.toArray 211)).drew:=(qP _ _ _).trans (vh _ _)
   obtain ⟨g1,g2⟩:=cM xs (i*17) ROW _ hN (by omega)
   obtain ⟨g3,g4⟩:=cM ((vs.take (n*17)).drop (i*17)) ((i+1)*17) _ (World.drew _) g1 (by simp only [List.length_append,List.length_take,List.length_drop,hml];omega)
   have VI:V.w.heap.size<=_:=x1.size
   have W6:∀{X:Nat->Prop},eM X V.w _:=fun {X}=>by
    refine ⟨Nat.le_trans VI (Nat.le_trans g2.size g4.size),fun b hb _=>?_,?_,?_,?_⟩
    ·exact (g4.bG b (Nat.lt_of_lt_of_le hb (Nat.le_trans VI g2.size)) (by omega)).trans ((g2.bG b (Nat.lt_of_lt_of_le hb VI) (by omega)).trans ((qP (fun _=>False) V.w (.cells ROW.toArray 211)).bG b hb id))
    ·exact g4.os.trans (g2.os.trans x1.os)
    ·exact g4.tape.trans (g2.tape.trans x1.tape)
    ·exact g4.out.trans (g2.out.trans x1.out)
   refine ⟨_,e1,W6,V.w.heap.size,G,(ROW.drop ((n+1)*17)),rfl,?_,.inl (Nat.le_refl _),hG,?_,?_⟩
   ·refine g3.trans ?_
    have e2:ROW.take (i*17)=vs.take (i*17):=by rw [XC,List.take_append_of_le_length (by rw [S3];exact Nat.le_refl _),List.take_of_length_le (by rw [S3];exact Nat.le_refl _)]
    have l1:(ROW.take (i*17)++xs).length=(i+1)*17:=by rw [List.length_append,e2,S3,hl];omega
    have e3:(ROW.take (i*17)++xs++ROW.drop (i*17+xs.length)).take ((i+1)*17)=ROW.take (i*17)++xs:=by rw [←l1,List.take_left'];rfl
    have e4:(ROW.take (i*17)++xs++ROW.drop (i*17+xs.length)).drop ((i+1)*17+((vs.take (n*17)).drop (i*17)).length)=ROW.drop ((n+1)*17):=by
     rw [List.drop_append,List.drop_eq_nil_of_le (by rw [l1];omega),List.nil_append,List.drop_drop,l1,hml,hl]
     congr 1;omega
    rw [e3,e4,e2]
    simp only [List.append_assoc]
   ·rw [List.length_drop,hRl];omega
   ·exact (@W6 fun _=>False).bG vb hvw id |>.trans hv
  ·obtain rfl:i=n:=by omega
   obtain ⟨z,hz,dh⟩:=A_ ob i c vb vs xs V.w hnc (by omega) hc hcl hl hs hv h1v
   refine dh.mono ?_
   rintro e w' ⟨e1,rfl⟩
   have hG:=Go.grownCap_ge V.w (i+1) c 211
   generalize Go.grownCap V.w (i+1) c 211=G at *
   have hzl:∀k,(Builtin.zeroCells z k).toList.length=k*17:=fun k=>by simp [Builtin.zeroCells,hz]
   have ex:∀{X:Nat->Prop} {o:Obj},eM X V.w (V.w.drew.alloc o):=(vh _ _).trans (qP _ _ _)
   refine ⟨_,e1,ex,V.w.heap.size,G,(Builtin.zeroCells z (G-(i+1))).toList,rfl,?_,.inl (Nat.le_refl _),hG,?_,?_⟩
   ·refine (Array.getElem?_push_size (xs:=V.w.heap)).trans ?_
    congr 2
    rw [show (vs.take (i*17)).drop (i*17)=[] from List.drop_eq_nil_of_le (by rw [List.length_take];omega),List.append_nil]
    apply Array.ext'
    simp
   ·rw [hzl];omega
   ·exact ((ex (X:=fun _=>False)).bG vb hvw id).trans hv
end Go.Proofs.Tryz
namespace Go.Proofs.Tryz
open Go.bE Go.dP
theorem GN {V:View}{v:Value}{l:L3}(h:xh V v l)(hb:Bd l):ab prog 135 #[v] V fun r V'=>nG V' r (aq.ax l).1 (aq.ax l).2:=kK h hb.lA.1 hb.lA.2.1 hb.lA.2.2 (by omega)
theorem i_ {l:L3}(hb:Bd l):Sz 1000 (aq.ax l).1/\Sz 1000 (aq.ax l).2:=⟨hb.lA.2.1,hb.lA.1.neg⟩
theorem Gv {V:View}{v lv:Value}{s:Sd}{l:L3}(h:fX V v s)(hl:xh V lv l)(hb:Bd l):ab prog 162 #[v,lv] V fun r V'=>r=.int .i64 (aq.dp (aq.ax s.1) (aq.ax l)):=by
 have hl0:=hl
 obtain ⟨_,_,_,_,_,_,_,_,_,_,_,_,_,_,_,rfl⟩:=h.shape
 obtain ⟨rl,ri,-,-⟩:=h.both
 have sd:=h.2.1
 obtain ⟨_,_,_,_,_,_,_,_,_,rfl,-,-,-⟩:=hl
 refine oH _ _ _ _ _ _ _ _ _ _ _ _ _ _ _ _ _ _ _ _ _ _ _ _ _ _ V _ fun V1 l1=>(GN (rl.le l1) sd).mono ?_
 rintro r V2 l2 g
 have g0:=g
 obtain ⟨_,_,_,_,_,_,rfl,-,-⟩:=g
 refine ⟨_,_,_,_,_,_,rfl,fun V3 l3=>(GN (hl0.le (l1.trans (l2.trans l3))) hb).mono ?_⟩
 rintro r V4 l4 g'
 have g0':=g'
 obtain ⟨_,_,_,_,_,_,rfl,-,-⟩:=g'
 refine ⟨_,_,_,_,_,_,rfl,fun V5 l5=>(Cq (g0.le (l3.trans (l4.trans l5))) (g0'.le l5) (i_ sd).1 (i_ sd).2 (i_ hb).1 (i_ hb).2 (by omega)).mono ?_⟩
 rintro r V6 l6 rfl
 exact ⟨_,rfl,fun V7 l7=>rfl⟩
theorem HZ {i j:Nat}(hi:i<=1000000)(hj:j<=1000000):i64.wrap ((u64.wrap (i64.wrap ((i:Int)+(j:Int)))).fdiv (2^1))=(((i+j) / 2:Nat):Int):=by
 have e1:i64.wrap ((i:Int)+(j:Int))=(i:Int)+(j:Int):=aB (by omega)
 have e2:u64.wrap ((i:Int)+(j:Int))=(i:Int)+(j:Int):=aO (by omega)
 have:((i:Int)+(j:Int)).fdiv (2^1)=(((i+j) / 2:Nat):Int):=by
  rw [Int.fdiv_eq_ediv_of_nonneg _ (by decide)]
  omega
 rw [e1,e2,this,aB (by omega)]
theorem Hx {V:View}{lb n c:Nat}{vs:List Value}{r:List Sd}{lv:Value}{l:L3}(hw:V.w.heap[lb]?=some (.cells vs.toArray 211 (0,0)))(hx:V.X lb)(hr:Row 17 fX V vs r)(hn:n=r.length)(hs:n<=1000000)(hl:xh V lv l)(hb:Bd l)
  (rM:r.Pairwise fun s u=>aq.dp (aq.ax s.1) (aq.ax u.1)<0) :
  ab prog 161 #[.slice (some ⟨lb,0,none⟩) n c,lv,.func (.func 162) #[] #[]] V fun q V'=>∃(i:Nat)(b:Bool),q=.tuple #[.int .i64 i,.bool b]/\i<=n/\(∀v:Sp,mg (l,v) r=r.take i++(l,v)::r.drop i) /\
   V'.w.heap[lb]?=some (.cells vs.toArray 211 (0,0)):=by
 have hl0:=hl
 subst hn
 obtain ⟨_,_,_,_,_,_,_,_,_,rfl,-,-,-⟩:=hl
 refine jc lb _ c vs _ _ _ _ _ _ _ _ _ V _ hw hx ⟨fun z V'=>∃i j:Nat,z.1=(i:Int)/\z.2=(j:Int)/\Bs r l i j,fun z=>z.2.toNat-z.1.toNat,⟨(0,(r.length:Int)),by and_intros<;>rfl,0,r.length,rfl,rfl,Bs.start r l⟩,?_⟩
 rintro ⟨z1,z2⟩ V1 l1 ⟨i,j,e1,e2,bs⟩
 dsimp only at e1 e2
 subst e1 e2
 have ble:=bs.le
 have bln:=bs.len
 have hr1:=hr.le (V':=V1) fun _ _ g=>fX.le g l1
 refine ⟨rfl,fun hlt=>?_,fun hlt=>?_⟩
 ·have hlt:(i:Int)<(j:Int):=of_decide_eq_true hlt
  dsimp only
  rw [HZ (by omega) (by omega)]
  have hlj:(i+j) / 2<j:=by omega
  have ZJ:i<=(i+j) / 2:=by omega
  generalize (i+j) / 2=h at *
  have Ur:h<r.length:=by omega
  have w:i64.wrap ((h:Int)+1)=((h+1:Nat):Int):=by rw [aB (by omega)];rfl
  rw [Int.toNat_natCast,w,Nat.zero_add]
  obtain ⟨a1,a2,a3,a4,a5,a6,a7,a8,a9,b1,b2,b3,b4,b5,b6,fY,TC,hs1⟩:=G9 hr1 Ur
  refine ⟨by omega,⟨by omega,by omega⟩,_,_,_,_,_,_,_,_,_,_,_,_,_,_,_,_,_,⟨fY,TC⟩,fun V2 l2=>(Gv (hs1.le l2) (hl0.le (l1.trans l2)) hb).mono ?_⟩
  rintro q V3 l3 rfl
  refine ⟨_,rfl,fun hc=>⟨(((h+1:Nat):Int),(j:Int)),by dsimp only;omega,by and_intros<;>rfl,h+1,j,rfl,rfl,bs.up rM hlj Ur (of_decide_eq_true hc)⟩,fun hc=>⟨((i:Int),(h:Int)),by dsimp only;omega,by and_intros<;>rfl,i,h,rfl,rfl,bs.down ZJ Ur (of_decide_eq_false hc)⟩⟩
 ·have hlt:¬(i:Int)<(j:Int):=of_decide_eq_false hlt
  obtain rfl:i=j:=by omega
  dsimp only
  refine ⟨fun hin=>?_,fun hin V7 l7 hw7=>⟨i,false,rfl,by omega,fun v=>bs.done v,hw7⟩⟩
  have hin:(i:Int)<(r.length:Int):=of_decide_eq_true hin
  have hil:i<r.length:=by omega
  rw [Int.toNat_natCast,Nat.zero_add]
  obtain ⟨a1,a2,a3,a4,a5,a6,a7,a8,a9,b1,b2,b3,b4,b5,b6,fY,TC,hs1⟩:=G9 hr1 hil
  refine ⟨⟨by omega,by omega⟩,_,_,_,_,_,_,_,_,_,_,_,_,_,_,_,_,_,⟨fY,TC⟩,fun V4 l4=>(Gv (hs1.le l4) (hl0.le (l1.trans l4)) hb).mono ?_⟩
  rintro q V5 l5 rfl
  exact ⟨_,rfl,fun V6 l6 ZZ=>⟨i,_,rfl,by omega,fun v=>bs.done v,ZZ⟩⟩
theorem Db {V V':View}{P:Prop}{b:Nat}(l:V.Le V')(h:P->V.w.heap.size<=b\/V.H b):V.Le (V'.shut.mf P b):=fun x o hx=>by
 have h1:=l x o hx
 refine ⟨fun hh=>hh.elim h1.1 ?_,h1.2⟩
 rintro ⟨hp,rfl,-⟩
 rcases h hp with h|h
 ·have:=(Array.getElem?_eq_some_iff.1 hx.2).1
  omega
 ·exact hx.1 h
theorem HN {c:List Sd}{l:L3}{i:Nat}(hi:i<c.length):lL (c.take (i+1)) l=lL (c.take i) l++if dN c[i].1 c[i].2 l=true then [(c[i].1,dq c[i].1 c[i].2 l)] else []:=by
 unfold lL
 rw [List.take_add_one,List.getElem?_eq_getElem hi,List.filterMap_append]
 congr 1
 show List.filterMap _ [c[i]]=_
 by_cases h:dN c[i].1 c[i].2 l=true
 ·simp [h]
 ·simp [h]
theorem uY (c:List Sd)(l:L3):(lL c l).length<=c.length:=List.length_filterMap_le ..
theorem EY {c:List Sd}{l:L3}{v:Sp}(h:dj c l bD=some v):fZ c l=some (mg (l,v) (lL c l)):=by unfold fZ;rw [h]
theorem EX {c:List Sd}{l:L3}(h:dj c l bD=none):fZ c l=if 0<eJ c l then some c else none:=by unfold fZ;rw [h]
set_option maxHeartbeats 1000000 in
theorem Cm {V:View}{cp:OA}{cn cc:Nat}{c:List Sd}{lv:Value}{l:L3}(h:cB 17 fX V cp cn c)(hl:xh V lv l)(hb:Bd l)(hn:c.length<=100000)(rM:c.Pairwise fun s u=>aq.dp (aq.ax s.1) (aq.ax u.1)<0) :
  ab prog 102 #[.slice cp cn cc,lv] V fun r V'=>∃q m e,r=.tuple #[.slice q m e,.bool (fZ c l).isSome]/\(∀c',fZ c l=some c'->cB 17 fX V' q m c'/\(cn<=cc->m<=e)):=by
 have hl0:=hl
 have h0:=h
 obtain rfl:=h.len
 obtain ⟨_,_,_,_,_,_,_,_,_,rfl,-,-,-⟩:=hl
 refine rA cp _ cc _ _ _ _ _ _ _ _ _ V _ fun V1 l1=>(rP (h.le l1 fun _ _ g=>fX.le g l1) (hl0.le l1) hb (by omega)).mono ?_
 rintro r V2 l2 ⟨w,rfl,gv,sv⟩
 have Xi:=gv
 obtain ⟨_,_,_,_,_,_,rfl,-,-⟩:=gv
 have L2:=l1.trans l2
 refine ⟨_,_,_,_,_,_,_,_,_,rfl,fun hp V3 l3=>(Ay (h0.le (L2.trans l3) fun _ _ g=>fX.le g (L2.trans l3)) (hl0.le (L2.trans l3)) hb (by omega)).mono ?_,fun hp=>?_⟩
 ·have hp:dj c l bD=none:=by simpa using hp
  rintro r V4 l4 rfl
  have e1:PK c l=eJ c l:=by unfold PK;rw [hp];rfl
  have e2:=EX hp
  refine ⟨_,rfl,fun V5 l5=>⟨cp,c.length,cc,?_,fun c' e=>?_⟩⟩
  ·rw [e1,e2]
   by_cases hc:0<eJ c l
   ·rw [if_pos hc,decide_eq_true hc];rfl
   ·rw [if_neg hc,decide_eq_false hc];rfl
  ·rw [e2] at e
   split at e
   ·cases e
    have L5:=L2.trans (l3.trans (l4.trans l5))
    exact ⟨h0.le L5 fun _ _ g=>fX.le g L5,id⟩
   ·cases e
 have hp:(dj c l bD).isSome=true:=by simpa using hp
 obtain ⟨v,ev⟩:=Option.isSome_iff_exists.1 hp
 rw [ev] at Xi sv ⊢
 have e2:=EY ev
 have w1:i64.wrap ((c.length:Int)+1)=((c.length+1:Nat):Int):=by rw [aB (by omega)];rfl
 rw [w1,Int.toNat_natCast]
 refine ⟨by omega,by omega,by omega,fun z V'=>∃i:Nat,z.2.2.2=(i:Int)/\i<=c.length/\GR 17 fX V' z.1 z.2.1 z.2.2.1 (lL (c.take i) l)/\z.2.1≠0,fun z=>c.length-z.2.2.2.toNat,
  ⟨(0,c.length+1,oP (c.length+1) [.int .i64 0,.int .i64 0,.pointer none,.int .i64 0,.int .i64 0,.pointer none,.int .i64 0,.int .i64 0,.pointer none,.int .i64 0,.int .i64 0,.pointer none,.int .i64 0,.int .i64 0,.pointer none,.bool false,.bool false],0),by and_intros<;>first|rfl|omega,0,rfl,Nat.zero_le _,⟨rfl,Nat.zero_le _,?_,Row.nil⟩,by dsimp only;omega⟩,?_⟩
 ·show _<=(List.replicate (c.length+1) _).flatten.length
  rw [List.length_flatten,List.map_replicate,List.sum_replicate_nat]
  exact Nat.le_refl _
 rintro ⟨z1,z2,vs,z4⟩ V6 l6 ⟨i,e4,XP,hg,hc0⟩
 dsimp only at e4 hg hc0
 subst e4
 have L6:=L2.trans l6
 have gl:=hg.len
 have T1:=hg.le
 have JC:=hg.cap
 try dsimp only at gl T1 JC
 have Xg:=uY (c.take i) l
 rw [List.length_take] at Xg
 refine ⟨rfl,fun hlt=>?_,fun hlt=>⟨fun hv0=>?_,fun hv0 mS du bk g1 g2=>?_⟩⟩
 ·have hlt:(i:Int)<c.length:=of_decide_eq_true hlt
  have hi':i<c.length:=by omega
  have w:i64.wrap ((i:Int)+1)=((i+1:Nat):Int):=by rw [aB (by omega)];rfl
  dsimp only
  rw [Int.toNat_natCast,w]
  obtain ⟨ps,a1,a2,a3,a4,a5,a6,a7,a8,a9,b1,b2,b3,b4,b5,b6,a,ha,k0,k1,k2,k3,k4,k5,k6,k7,k8,k9,k10,k11,k12,k13,k14,k15,k16,hr⟩:=iw (h0.le L6 fun _ _ g=>fX.le g L6) hi'
  obtain ⟨rl,ri,-,-⟩:=hr.both
  have sd:=hr.2
  have ct:=HN (l:=l) hi'
  generalize c[i]=S at *
  refine ⟨ps,⟨by omega,by omega⟩,_,_,_,_,_,_,_,_,_,_,_,_,_,_,_,_,_,a,ha,k0,k1,k2,k3,k4,k5,k6,k7,k8,k9,k10,k11,k12,k13,k14,k15,k16,fun V7 l7=>(Co (rl.le l7) (ri.le l7) (hl0.le (L6.trans l7)) (k:=100000) (sd.1.lA.up (by omega)) sd.2 (hb.lA.up (by omega)) (by omega)).mono ?_⟩
  rintro r V8 l8 ⟨w8,rfl,g⟩
  have g0:=g
  obtain ⟨_,_,_,_,_,_,rfl,-,-⟩:=g
  have XG:=hg.mono (V':=V8) fun _ _ g=>fX.le g (l7.trans l8)
  refine ⟨_,_,_,_,_,_,_,_,_,rfl,fun hf=>⟨by omega,T1,JC,rfl,Kh,fun sp c' h1 h2=>⟨(z1+1,c',_,((i+1:Nat):Int)),by dsimp only;omega,by and_intros<;>rfl,i+1,rfl,hi',?_,by dsimp only;omega⟩⟩,fun hf=>⟨(z1,z2,vs,((i+1:Nat):Int)),by dsimp only;omega,by and_intros<;>rfl,i+1,rfl,hi',?_,hc0⟩⟩
  ·have hf:dN S.1 S.2 l=true:=hf
   dsimp only
   rw [ct,if_pos hf]
   exact XG.snoc (a:=(S.1,dq S.1 S.2 l)) rfl ⟨⟨_,_,_,_,_,_,_,_,_,_,_,_,_,_,_,rfl,rl.le (l7.trans l8),g0⟩,sd.1,BG sd.1.lA hb.lA sd.2 (by omega)⟩ (by decide) h1 h2
  ·have hf:¬dN S.1 S.2 l=true:=by rw [show dN S.1 S.2 l=false from hf];exact Bool.false_ne_true
   dsimp only
   rw [ct,if_neg hf,List.append_nil]
   exact XG
 ·have hv0:vs=[]:=hv0
  rw [hv0] at JC
  simp at JC
  omega
 have hlt:¬(i:Int)<c.length:=of_decide_eq_false hlt
 obtain rfl:i=c.length:=by omega
 rw [List.take_length] at hg gl
 have Xg:=uY c l
 have hv0:vs≠[]:=hv0
 have SN:∀b,mA b z2=some ⟨b,0,none⟩:=fun b=>by unfold mA;rw [if_neg hc0]
 dsimp only
 rw [SN]
 have Gm:=L6.trans du
 refine (Hx (V:=mS.cG [vb vs mS.w.heap.size bk]) (r:=lL c l) (l:=l) (g1 hv0) ⟨by simp [NP hv0],g2 hv0⟩ (hg.row.le fun _ _ g=>fX.le g fun b o h=>du b o h) gl (by omega) (xh.le (V:=V) (V':=mS.cG _) hl0 fun b o h=>Gm b o h) hb (CF rM)).mono ?_
 rintro r lH dv ⟨at_,fb,rfl,hat,hins,e5⟩
 refine ⟨_,_,rfl,hv0,vs,hv0,e5,fun lP cX bk1 bk2 k1 k2 k3 k4 k5=>?_⟩
 rw [SN]
 have l146:mS.Le lP:=fun b o h=>cX b o (dv b o h)
 have hvw:lP.w.heap.size>bk1:=(Array.getElem?_eq_some_iff.1 (k1 hv0)).1
 have OJ:Row 17 fX lP vs (lL c l):=hg.row.le fun _ _ g=>fX.le g (du.trans l146)
 have hone:∀u∈(vs.take (z1*17)).drop (at_*17),u.oneCell'=true:=fun u hu=>by
  obtain ⟨m,hm,e⟩:=List.mem_iff_getElem.1 (List.mem_of_mem_drop hu)
  have hm':m<(lL c l).length*17:=by rw [List.length_take,gl] at hm;omega
  have:=List.getElem?_eq_getElem hm
  rw [e,List.getElem?_take,if_pos (by rw [gl];exact hm')] at this
  exact BC hg.row (by decide) (fun xs _=>MP xs) hm' this
 refine (Jf (V:=lP.cG [vb vs lP.w.heap.size bk1,bk2]) (ob:=bk1) (vb:=bk2) (n:=z1) (c:=z2) (i:=at_) (vs:=vs) (xs:=[_,_,_,_,_,_,_,_,_,_,_,_,_,_,_,_,_]) (k1 hv0) ⟨by simp [NP hv0],k2 hv0⟩ k3 (k5 hv0) hat T1 (by omega) JC rfl hone Kh).mono ?_
 rintro r mT c_ ⟨q,c',sp,rfl,f1,f2,f3,f4,f5⟩
 have f2':lP.w.heap.size<=q\/(vs≠[]/\q=bk1):=f2.imp id fun e=>⟨hv0,e⟩
 refine ⟨q,_,fun _=>f1,fun _=>f2',some ⟨q,0,none⟩,z1+1,c',?_,_,_,_,_,_,_,_,_,_,_,_,_,_,_,_,_,_,f5,fun qt cR Y9 m1=>⟨mA Y9 c',z1+1,c',?_,fun c'' e=>?_⟩⟩
 ·unfold mA;rw [if_neg (by omega)]
 ·rw [e2];rfl
 ·rw [e2] at e
  obtain rfl:=Option.some.inj e
  have JT:lP.Le qt:=fun b o hx=>cR b o (Db (V:=lP.cG _) (V':=mT) (P:=_) (b:=q) c_ (fun _=>f2.elim .inl fun e=>.inr (by rw [e];exact k2 hv0)) b o hx)
  have hR:=FL (sp:=sp) (OJ.le fun _ _ g=>fX.le g JT) (k:=at_) (by omega) (xs:=[_,_,_,_,_,_,_,_,_,_,_,_,_,_,_,_,_]) (a:=(l,v)) rfl ⟨⟨_,_,_,_,_,_,_,_,_,_,_,_,_,_,_,rfl,hl0.le (Gm.trans (l146.trans JT)),Xi.le (l6.trans (du.trans (l146.trans JT)))⟩,hb,sv⟩ (by decide)
  rw [hins v]
  have hlen:z1+1=((lL c l).take at_++(l,v)::(lL c l).drop at_).length:=by
   rw [List.length_append,List.length_cons,List.length_take,List.length_drop];omega
  rw [hlen]
  rw [←gl] at hR
  exact ⟨cB.iz m1 hR (by decide) (by rw [←hlen];exact f3),fun _=>by rw [←hlen];exact f3⟩
def fE (V:View)(v:Value)(l:L3):Prop:=RL V v l.1 l.2.1 l.2.2
theorem fE.le {V V':View}{v:Value}{l:L3}(h:fE V v l)(e:V.Le V'):fE V' v l:=RL.le h e
theorem fC {V:View}{v:Value}{l:L3}(h:fE V v l):∃(b1:Bool)(p1:OA)(n1 c1:Nat)(b2:Bool)(p2:OA)(n2 c2:Nat)(b3:Bool)(p3:OA)(n3 c3:Nat),v=.agg #[.bool b1,.slice p1 n1 c1,.bool b2,.slice p2 n2 c2,.bool b3,.slice p3 n3 c3]:=by
 obtain ⟨_,_,_,_,_,_,_,_,_,e,-⟩:=h;exact ⟨_,_,_,_,_,_,_,_,_,_,_,_,e⟩
theorem Mt {b:Bool}{p:OA}{n c:Nat}{b':Bool}{p':OA}{n' c':Nat}{b'':Bool}{p'':OA}{n'' c'':Nat}:∀v∈([.bool b,.slice p n c,.bool b',.slice p' n' c',.bool b'',.slice p'' n'' c'']:List Value),v.oneCell'=true:=by
 intro v hm
 simp only [List.mem_cons,List.not_mem_nil,or_false] at hm
 rcases hm with rfl|rfl|rfl|rfl|rfl|rfl<;>rfl
end Go.Proofs.Tryz
