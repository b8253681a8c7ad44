import Derived.Test.YtdhlkpfmlimjfaaGreatDoorC18
import Derived.Test.YtdhlkpfmlimjfaaGreatDoorC9
import Derived.Test.YtdhlkpfmlimjfaaGreatDoorC16
import Derived.Test.YtdhlkpfmlimjfaaGreatDoorC14
import Derived.Test.YtdhlkpfmlimjfaaGreatDoorC17
import Derived.Test.YtdhlkpfmlimjfaaGreatDoorC6
set_option linter.unusedVariables false
open Go.IntKind (i64 u64 u32)
namespace Go.Proofs.Tryz
open Go.Eng Go.Big
def RCe (V:View)(v:Value)(p:List L3×Bool):Prop:=∃q n c,v=.agg #[.slice q n c,.bool p.2]/\Lst 6 RLv V q n p.1/\n<=1000
theorem RCe.le {V V':View}{v:Value}{p:List L3×Bool}(h:RCe V v p)(l:V.Le V'):RCe V' v p:=by
 obtain ⟨q,n,c,rfl,a,b⟩:=h;exact ⟨q,n,c,rfl,a.le l fun _ _ g=>RLv.le g l,b⟩
theorem rce_one {V:View}{xs:List Value}{p:List L3×Bool}(h:RCe V (.agg xs.toArray) p):∀v∈xs,v.oneCell'=true:=by
 obtain ⟨q,n,c,ex,-⟩:=h;have ex:=congrArg Array.toList (Value.agg.inj ex);dsimp only at ex;subst ex;intro v a;simp only [List.mem_cons,List.not_mem_nil,or_false] at a;rcases a with rfl|rfl<;>rfl
theorem insD_len (l:L3):∀o:List L3,(insD l o).length<=o.length+1
 | []=>Nat.le_refl _
 | u::r=>by
  have:=insD_len l r;unfold insD;split
  ·simp only [List.length_cons];omega
  ·split<;>simp only [List.length_cons]<;>omega
theorem refC_len (c:List L3):∀(r o:List L3),(refC c r o).length<=r.length+o.length
 | [],o=>by unfold refC;simp
 | l::r,o=>by
  unfold refC;have h:=refC_len c r (if (edgeG l c fullSp).isSome=true then insD l o else o)
  have a:(if (edgeG l c fullSp).isSome=true then insD l o else o).length<=o.length+1:=by
   split
   ·exact insD_len l o
   ·omega
  rw [List.length_cons];omega
theorem refC_mem (c:List L3):∀(r o:List L3),∀x∈refC c r o,x∈r\/x∈o
 | [],o,x,h=>.inr h
 | l::r,o,x,h=>by
  unfold refC at h;rcases refC_mem c r _ x h with h|h
  ·exact .inl (List.mem_cons_of_mem _ h)
  ·split at h
   ·rcases insD_mem.1 h with rfl|h
    ·exact .inl (List.mem_cons_self ..)
    ·exact .inr h
   ·exact .inr h
theorem cells_len:∀(t:Tr)(ls:List L3),(cellsR t ls).length<=t.size+1
 | .leaf b,ls=>by unfold cellsR;split<;>simp
 | .node l x y,ls=>by
  unfold cellsR;simp only [Tr.size];split
  ·rw [List.length_append];have:=cells_len x (refC ls ls []++[l]);have:=cells_len y (refC ls ls []++[revL l]);omega
  ·simp
theorem row_takeF {α:Type}{sz:Nat}{R:View->Value->α->Prop}{V:View}{vs:List Value}{l:List α}(h:Row sz R V vs l):Row sz R V (vs.take (l.length*sz)) l:=by
 refine ⟨fun i a=>?_⟩;obtain ⟨xs,b,d,e⟩:=h.at_ i a;refine ⟨xs,b,d,fun j x c=>?_⟩;have f:j<sz:=by rw [←b];exact (List.getElem?_eq_some_iff.1 c).1
 have hm:i*sz+sz<=l.length*sz:=by
  have:=Nat.mul_le_mul_right sz (Nat.succ_le_of_lt a);rw [Nat.succ_mul] at this;exact this
 rw [List.getElem?_take,if_pos (by omega)];exact e j x c
theorem gr_take {α:Type}{sz:Nat}{R:View->Value->α->Prop}{V:View}{n c:Nat}{vs:List Value}{l:List α}(h:GR sz R V n c vs l):rowTakeM vs n c sz=vs.take (n*sz)/\(rowTakeM vs n c sz).length=n*sz:=by
 have a:=h.le;have f:=h.cap;have g:n*sz<=c*sz:=Nat.mul_le_mul_right _ a;have b:Nat.ble n c=true:=Nat.ble_eq_true_of_le a;have d:Nat.ble (0+n*sz) vs.length=true:=Nat.ble_eq_true_of_le (by omega)
 have e:rowTakeM vs n c sz=vs.take (n*sz):=by
  unfold rowTakeM rowTake;rw [b,cond_true,d,cond_true,List.drop_zero]
 exact ⟨e,by rw [e,List.length_take];omega⟩
def CellsR (V V':View)(r:Value)(o:List (List L3×Bool)):Prop:=∃(bm:Nat)(vm:List Value)(n c:Nat),(vm≠[]->V'.w.heap[bm]?=some (.cells vm.toArray 45 (0,0)))/\(vm≠[]->V.w.heap.size<=bm)/\r=.slice (mA bm c) n c/\GR 2 RCe (V'.hideG (vm≠[]) bm) n c vm o
theorem CellsR.nil {V V':View}:CellsR V V' (.slice none 0 0) []:=⟨0,[],0,0,fun h=>absurd rfl h,fun h=>absurd rfl h,rfl,GR.nil⟩
theorem c_ref14_Cells:∀(t:Tr) {V:View} {q cp:OA} {cn cc:Nat} {ls:List L3},RW V q t->t.All Okb->Lst 6 RLv V cp cn ls->(∀l∈ls,Bd l)->(∀l∈ls,okL l=true)->ls.length+t.size<=900 ->
  Acts prog 14 #[.pointer q,.slice cp cn cc] V fun r V'=>CellsR V V' r (cellsR t ls):=by
 intro t
 induction t with
 | leaf i=>
  intro V q cp cn cc ls h ha hL hb hk hs;have hc:=refC_len ls ls [];obtain ⟨O,c2,c3,c4,c5,c6,c7,c8,c9,rfl,y⟩:=h;refine vc_ref14_Cells _ cp cn cc V _ fun V1 F=>(c_ref08_Canon (hL.le F fun _ _ g=>RLv.le g F) hb hk (by omega)).mono ?_;rintro r V2 l2 ⟨I,J,K,rfl,L⟩;have e:=F.trans l2;have hn:=L.len;refine ⟨_,_,_,_,rfl,fun G V3 l3=>?_,fun z=>⟨rfl,rfl,true,rdc (e _ _ y) 0 rfl,fun _=>⟨rfl,rfl,i,rdc (e _ _ y) 1 rfl,fun V4 bk a5 hw k=>?_⟩,(fun h=>by cases h)⟩⟩
  ·have G:¬(ls=[]\/refC ls ls []≠[]):=by simpa using G
   unfold cellsR;rw [if_neg G];exact CellsR.nil
  ·have z:ls=[]\/refC ls ls []≠[]:=by
    have:decide (ls=[]\/refC ls ls []≠[])=true:=by rw [Bool.not_eq_eq_eq_not,Bool.not_false] at z;exact z
    exact of_decide_eq_true this
   unfold cellsR;rw [if_pos z];refine ⟨bk,[.slice I J K,.bool i],1,1,fun _=>hw,fun _=>k.elim id False.elim,rfl,rfl,Nat.le_refl _,Nat.le_refl _,row_one rfl ⟨I,J,K,rfl,?_,by simp at hc;omega⟩⟩
   have E:V2.Le (V4.hideG ([.slice I J K,.bool i]≠([]:List Value)) bk):=fun b o h=>by
    obtain ⟨k1,k2⟩:=a5 b o h;exact ⟨fun g=>k1 (g.imp id fun g=>⟨trivial,g.2⟩),k2⟩
   exact L.le E fun _ _ g=>RLv.le g E
 | node ln a b iha ihb=>
  intro V q cp cn cc ls h ha hL hb hk hs;have hc:=refC_len ls ls [];have P:=refC_mem ls ls [];obtain ⟨O,i,b1,I,J,K,b2,p2,n2,c2,b3,p3,n3,c3,pl,pr,rfl,y,hl,hA,hB⟩:=h;obtain ⟨⟨Q,R⟩,a6,a7⟩:=ha;simp only [Tr.size] at hs;refine vc_ref14_Cells _ cp cn cc V _ fun V1 F=>(c_ref08_Canon (hL.le F fun _ _ g=>RLv.le g F) hb hk (by omega)).mono ?_;rintro r V2 l2 ⟨q1,m1,d1,rfl,L⟩;have e:=F.trans l2;have hn:=L.len;have A:=e _ _ y
  have a8:∀j v,([.bool false,.bool i,.bool b1,.slice I J K,.bool b2,.slice p2 n2 c2,.bool b3,.slice p3 n3 c3,.pointer pl,.pointer pr]:List Value)[j]?=some v->V2.at ((⟨O,0,none⟩:Addr).add j) v:=by
   intro j v M;rw [add_zero'];exact blk_at (xs:=[_,_,_,_,_,_,_,_,_,_]) A M
  have c:∀j v,([.bool b1,.slice I J K,.bool b2,.slice p2 n2 c2,.bool b3,.slice p3 n3 c3]:List Value)[j]?=some v->V2.at (((⟨O,0,none⟩:Addr).add 2).add j) v:=by
   intro j v M;rw [addadd];refine a8 (2+j) v ?_;have hj:j<6:=(List.getElem?_eq_some_iff.1 M).1
   match j,hj,M with
   | 0,_,h=>exact h
   | 1,_,h=>exact h
   | 2,_,h=>exact h
   | 3,_,h=>exact h
   | 4,_,h=>exact h
   | 5,_,h=>exact h
  refine ⟨_,_,_,_,rfl,fun G V3 l3=>?_,fun z=>?_⟩
  ·have G:¬(ls=[]\/refC ls ls []≠[]):=by simpa using G
   unfold cellsR;rw [if_neg G];exact CellsR.nil
  have z:ls=[]\/refC ls ls []≠[]:=by
   have:decide (ls=[]\/refC ls ls []≠[])=true:=by rw [Bool.not_eq_eq_eq_not,Bool.not_false] at z;exact z
   exact of_decide_eq_true this
  have eP:cellsR (.node ln a b) ls=cellsR a (refC ls ls []++[ln])++cellsR b (refC ls ls []++[revL ln]):=by
   show (if ls=[]\/refC ls ls []≠[] then _ else _)=_;rw [if_pos z]
  rw [eP];generalize refC ls ls []=S at *;have T:∀l∈S,Bd l:=fun l h=>(P l h).elim (hb l) fun g=>by cases g
  have U:∀l∈S,okL l=true:=fun l h=>(P l h).elim (hk l) fun g=>by cases g
  have bA:∀l∈S++[ln],Bd l:=fun l h=>(List.mem_append.1 h).elim (T l) fun h=>by rw [List.mem_singleton.1 h];exact R
  have kA:∀l∈S++[ln],okL l=true:=fun l h=>(List.mem_append.1 h).elim (U l) fun h=>by rw [List.mem_singleton.1 h];exact Q
  have bB:∀l∈S++[revL ln],Bd l:=fun l h=>(List.mem_append.1 h).elim (T l) fun h=>by rw [List.mem_singleton.1 h];exact R.rev
  have kB:∀l∈S++[revL ln],okL l=true:=fun l h=>(List.mem_append.1 h).elim (U l) fun h=>by rw [List.mem_singleton.1 h];exact ok_rev Q
  have d5:S.length<=ls.length:=by simpa using hc
  have lnS:∀x:L3,(S++[x]).length=(0+S.length)+1:=fun x=>by rw [List.length_append];simp
  subst hn;obtain ⟨xs,x1,x2,x3⟩:=lst_cells L (by decide)
  refine ⟨rfl,rfl,false,rdc A 0 rfl,(fun h=>by cases h),fun _=>⟨rfl,rfl,pl,rdc A 8 rfl,rfl,rfl,_,_,_,_,_,_,_,_,_,_,_,_,(⟨O,0,none⟩:Addr).add 2,rfl,c 0 _ rfl,c 1 _ rfl,c 2 _ rfl,c 3 _ rfl,c 4 _ rfl,c 5 _ rfl,rfl,rfl,pr,rdc A 9 rfl,rfl,rfl,_,_,_,_,_,_,_,_,_,_,_,_,(⟨O,0,none⟩:Addr).add 2,rfl,c 0 _ rfl,c 1 _ rfl,c 2 _ rfl,c 3 _ rfl,c 4 _ rfl,c 5 _ rfl,
   xs,x1,x2,by omega,Nat.le_refl _,by simp,x2,row_ones x3 x2,fun d6 J5 a9 e3 g1 g2=>⟨by omega,g1,by simp;omega,rfl,one6,fun d7 J9 b0 e7 g3 g4 W l5 n b5=>?_⟩⟩⟩
  have X:=e.trans l5;have r1:=rowE_app (V:=W) (ys:=[_,_,_,_,_,_]) (sp:=a9) (sp':=b0) rfl (x3.le fun _ _ g=>RLv.le g l5) x2 rfl (RLv.le hl X);have L1:Lst 6 RLv W (mA n e7) (S++[ln]).length (S++[ln]):=Lst.of_mrow (fun _=>b5) r1 (by decide) (by rw [lnS];exact g3);have eA:mA n e7=some ⟨n,0,none⟩:=by unfold mA;rw [if_neg (by omega)]
  rw [eA,lnS] at L1;refine (iha (V:=W) (hA.le X) a6 L1 bA kA (by rw [lnS];omega)).mono ?_;rintro r V6 l6 ⟨bm,vm,n',c',w1,w2,rfl,N⟩;have b6:=cells_len a (S++[ln]);have b7:=cells_len b (S++[revL ln]);have b8:W.Le (V6.shut.hideG (vm≠[]) bm):=le_moved (V:=W) (V':=V6) l6 fun h=>.inl (w2 h);have B:=l5.trans b8;have b9:=L.le B fun _ _ g=>RLv.le g B;obtain ⟨ys,y1,y2,y3⟩:=lst_cells b9 (by decide);refine ⟨bm,vm,w1,fun h=>.inl (w2 h),none,n',c',rfl,ys,y1,y2,by omega,Nat.le_refl _,by simp,y2,row_ones y3 y2,fun d3 d8 Y d9 g5 g6 V7 l7=>(c_ref04_Rev (RLv.le hl (e.trans (B.trans l7)))).mono ?_⟩;rintro r V8 l8 gr;have Z:RLv V8 r (revL ln):=gr;obtain ⟨_,_,_,_,_,_,_,_,_,_,_,_,rfl⟩:=rlv_shape Z;refine ⟨_,_,_,_,_,_,_,_,_,_,_,_,rfl,by omega,g5,by simp;omega,rfl,one6,fun d4 e0 a0 a1 g7 g8 V9 l9 p c0=>?_⟩;have H:=l7.trans (l8.trans l9);have r2:=rowE_app (V:=V9) (ys:=[_,_,_,_,_,_]) (sp:=Y) (sp':=a0) rfl (y3.le fun _ _ g=>RLv.le g H) y2 rfl (RLv.le Z l9);have L2:Lst 6 RLv V9 (mA p a1) (S++[revL ln]).length (S++[revL ln]):=Lst.of_mrow (fun _=>c0) r2 (by decide) (by rw [lnS];exact g7);have eB:mA p a1=some ⟨p,0,none⟩:=by unfold mA;rw [if_neg (by omega)]
  rw [eB,lnS] at L2;refine (ihb (V:=V9) (hB.le (e.trans (B.trans H))) a7 L2 bB kB (by rw [lnS];omega)).mono ?_;rintro r C d0 ⟨D,d,f,s,w3,w4,rfl,G2⟩;have a2:V9.Le (C.shut.hideG (d≠[]) D):=le_moved (V:=V9) (V':=C) d0 fun h=>.inl (w4 h);obtain ⟨t1,t2⟩:=gr_take G2;have f1:=N.len;have f2:=G2.len;have hd:(rowTakeM d f s 2).length / 2=f:=by rw [t2];omega
  have rB:Row 2 RCe (C.hideG (d≠[]) D) (rowTakeM d f s 2) (cellsR b (S++[revL ln])):=by
   rw [t1,f2];exact row_takeF G2.row
  refine ⟨D,d,w3,fun h=>.inl (w4 h),none,f,s,rfl,by rw [hd];omega,N.le,N.cap,by rw [hd];exact t2,?_,fun u d2 k1 k2 a3 w a4 hw k=>?_⟩
  ·intro v M;obtain ⟨m,hm,rfl⟩:=List.mem_iff_getElem.1 M;exact row_one_cell rB (by decide) (fun _ _=>rce_one) (m:=m) (by rw [←f2,←t2];exact hm) (List.getElem?_eq_getElem hm)
  rw [hd] at k1 k2 ⊢;refine ⟨w,_,n'+f,d2,hw,fun h=>(k h).elim id False.elim,rfl,?_⟩;have lA:(V6.hideG (vm≠[]) bm).Le (a3.hideG (vm.take (n'*2)++rowTakeM d f s 2++u≠[]) w):=fun b o h=>a4 b o (a2 b o (H b o h));have lB:(C.hideG (d≠[]) D).Le (a3.hideG (vm.take (n'*2)++rowTakeM d f s 2++u≠[]) w):=fun b o h=>a4 b o h;refine ⟨by rw [List.length_append,f1,f2],k1,?_,?_⟩
  ·have h1:=N.cap;have h2:=Nat.mul_le_mul_right 2 N.le;rw [List.length_append,List.length_append,List.length_take,t2];omega
  ·have:=row_append (sp:=u) (N.row.le fun _ _ g=>RCe.le g lA) (rB.le fun _ _ g=>RCe.le g lB) (by decide);rw [←f1] at this;exact this
theorem uc {M:List L3}{c:List Sd}(h:CanC M c)(hk:∀m∈M,okL m=true){l:L3}(hl:okL l=true)(e:clipC c l=none):clipC c (revL l)=some c:=by
 have a:(bG c l fullSp).isSome=false:=by
  unfold clipC at e
  cases ep:bG c l fullSp with
  | some v=>rw [ep] at e;cases e
  | none=>rfl
 have f:¬0<cK c l:=by
  unfold clipC at e
  cases ep:bG c l fullSp with
  | some v=>rw [ep] at e;cases e
  | none=>
   rw [ep] at e;dsimp only at e;split at e
   ·cases e
   ·assumption
 have b:(bG c (revL l) fullSp).isSome=false:=by
  cases g:(bG c (revL l) fullSp).isSome
  ·rfl
  ·obtain ⟨x,i,j⟩:=(lK h hk (ok_rev hl)).1 g;rw [val_rev] at i;rw [(lK h hk hl).2 ⟨x,by grind,j⟩] at a;cases a
 obtain ⟨q,d⟩:=h.pos;have p:ai l q.1 q.2≠0:=fun z=>by rw [(lK h hk hl).2 ⟨q,z,d⟩] at a;cases a
 have n:¬∃q,Sec.pos M q/\0<ai l q.1 q.2:=by
  rcases (CE h hk hl).2 a with ⟨g,-⟩|⟨-,g⟩
  ·rw [g] at f;exact absurd (by decide) f
  ·exact g
 have o:cK c (revL l)=1:=by
  rcases (CE h hk (ok_rev hl)).2 b with ⟨g,-⟩|⟨-,g⟩
  ·exact g
  ·exfalso;refine g ⟨q,d,?_⟩;rw [val_rev];have:¬0<ai l q.1 q.2:=fun k=>n ⟨q,d,k⟩;grind
 unfold clipC
 cases ep:bG c (revL l) fullSp with
 | some v=>rw [ep] at b;cases b
 | none=>
  dsimp only;rw [if_pos (by rw [o];decide)]
theorem qO {P:L3->Prop}(hr:∀l,P l->P (revL l))(hP:∀l,P l->okL l=true):∀{t:Tr} {M:List L3} {c:List Sd},CanC M c->(∀m∈M,P m)->t.All P->∀p∈partsC t c,∃M',CanC M' p.1/\(∀m∈M',P m)/\∀m∈M,m∈M'
 | .leaf b,M,c,h,hk,_,p,hp=>by
  unfold partsC at hp;rw [List.mem_singleton.1 hp];exact ⟨M,h,hk,fun m hm=>hm⟩
 | .node l x y,M,c,h,hk,ht,p,hp=>by
  obtain ⟨hl,hx,hy⟩:=ht;unfold partsC at hp
  have half:∀{m:L3} {z:Tr},P m->(∀{M:List L3} {c:List Sd},CanC M c->(∀m∈M,P m)->∀p∈partsC z c,∃M',CanC M' p.1/\(∀m∈M',P m)/\∀m∈M,m∈M')->p∈(match clipC c m with|some d=>partsC z d|none=>[])->∃M',CanC M' p.1/\(∀m∈M',P m)/\∀m∈M,m∈M':=fun {m z} hm f hp=>by
   cases ec:clipC c m with
   | some d=>
    rw [ec] at hp;obtain ⟨M',a,b,i⟩:=f ((clip_ok h (fun m hm=>hP m (hk m hm)) (hP m hm)).1 d ec) (fun n e=>(List.mem_cons.1 e).elim (fun g=>g▸hm) (hk n)) p hp;exact ⟨M',a,b,fun n e=>i n (List.mem_cons_of_mem _ e)⟩
   | none=>rw [ec] at hp;cases hp
  rcases List.mem_append.1 hp with hp|hp
  ·exact half hl (fun h hk=>qO hr hP h hk hx) hp
  ·exact half (hr l hl) (fun h hk=>qO hr hP h hk hy) hp
def oQ (c:List Sd)(q:Sec.V2):Prop:=∀s∈c,0<ai s.1 q.1 q.2
theorem nK:∀{t:Tr} {M:List L3} {c:List Sd},CanC M c->(∀m∈M,okL m=true)->t.All (fun l=>okL l=true)->(partsC t c).Pairwise fun p p'=>¬∃q,oQ p.1 q/\oQ p'.1 q
 | .leaf b,M,c,_,_,_=>by unfold partsC;exact List.pairwise_singleton ..
 | .node l x y,M,c,h,hk,ht=>by
  obtain ⟨hl,hx,hy⟩:=ht;unfold partsC;refine List.pairwise_append.2 ⟨?_,?_,?_⟩
  ·cases ec:clipC c l with
   | some d=>exact nK ((clip_ok h hk hl).1 d ec) (fun n f=>(List.mem_cons.1 f).elim (fun g=>g▸hl) (hk n)) hx
   | none=>exact List.Pairwise.nil
  ·cases ec:clipC c (revL l) with
   | some d=>exact nK ((clip_ok h hk (ok_rev hl)).1 d ec) (fun n f=>(List.mem_cons.1 f).elim (fun g=>g▸ok_rev hl) (hk n)) hy
   | none=>exact List.Pairwise.nil
  ·have side:∀{m:L3} {z:Tr},okL m=true->z.All (fun l=>okL l=true)->∀p∈(match clipC c m with|some d=>partsC z d|none=>[]),∀q,oQ p.1 q->0<ai m q.1 q.2:=fun {m z} hm j p e q k=>by
    cases ec:clipC c m with
    | some d=>
     rw [ec] at e;obtain ⟨u,a,b,w⟩:=qO (P:=fun l=>okL l=true) (fun l=>ok_rev) (fun l h=>h) ((clip_ok h hk hm).1 d ec) (fun n f=>(List.mem_cons.1 f).elim (fun g=>g▸hm) (hk n)) j p e;exact a.int b k m (w m (List.mem_cons_self ..))
    | none=>rw [ec] at e;cases e
   rintro p e p' i ⟨q,o,r⟩;have v:=side hl hx p e q o;have s:=side (ok_rev hl) hy p' i q r;rw [val_rev] at s;grind
theorem lL:∀{t:Tr} {M:List L3} {c:List Sd},CanC M c->(∀m∈M,okL m=true)->t.All (fun l=>okL l=true)->∀{x:Sec.V2},(∀s∈c,0<=ai s.1 x.1 x.2)->∃p∈partsC t c,∀s∈p.1,0<=ai s.1 x.1 x.2
 | .leaf b,M,c,_,_,_,x,hx=>⟨(c,b),by unfold partsC;exact List.mem_singleton.2 rfl,hx⟩
 | .node l a b,M,c,h,hk,ht,x,hx=>by
  obtain ⟨hl,ha,hb⟩:=ht
  have half:∀{m:L3} {z:Tr},okL m=true->(∀{M:List L3} {c:List Sd},CanC M c->(∀m∈M,okL m=true)->∀{x:Sec.V2},(∀s∈c,0<=ai s.1 x.1 x.2)->∃p∈partsC z c,∀s∈p.1,0<=ai s.1 x.1 x.2)->∀{d:List Sd},clipC c m=some d->(∀s∈d,0<=ai s.1 x.1 x.2)->∃p∈(match clipC c m with|some d=>partsC z d|none=>[]),∀s∈p.1,0<=ai s.1 x.1 x.2:=fun {m z} hm q {d} e f=>by
   rw [e];exact q ((clip_ok h hk hm).1 d e) (fun n r=>(List.mem_cons.1 r).elim (fun g=>g▸hm) (hk n)) f
  have o:∀{m:L3},okL m=true->0<=ai m x.1 x.2->∀{d:List Sd},clipC c m=some d->∀s∈d,0<=ai s.1 x.1 x.2:=fun {m} hm i {d} e s u=>by
   rcases List.mem_cons.1 (((clip_ok h hk hm).1 d e).mem s u).1 with g|g
   ·rw [g];exact i
   ·exact zQ h hk hx s.1 g
  have left:∀{d:List Sd},clipC c l=some d->(∀s∈d,0<=ai s.1 x.1 x.2)->∃p∈partsC (.node l a b) c,∀s∈p.1,0<=ai s.1 x.1 x.2:=fun e f=>by
   obtain ⟨p,j,k⟩:=half hl (fun h hk=>lL h hk ha) e f;exact ⟨p,by unfold partsC;exact List.mem_append_left _ j,k⟩
  have right:∀{d:List Sd},clipC c (revL l)=some d->(∀s∈d,0<=ai s.1 x.1 x.2)->∃p∈partsC (.node l a b) c,∀s∈p.1,0<=ai s.1 x.1 x.2:=fun e f=>by
   obtain ⟨p,j,k⟩:=half (ok_rev hl) (fun h hk=>lL h hk hb) e f;exact ⟨p,by unfold partsC;exact List.mem_append_right _ j,k⟩
  by_cases i:0<=ai l x.1 x.2
  ·cases e:clipC c l with
   | some d=>exact left e (o hl i e)
   | none=>exact right (uc h hk hl e) hx
  ·have v:0<=ai (revL l) x.1 x.2:=by rw [val_rev];grind
   cases e:clipC c (revL l) with
   | some d=>exact right e (o (ok_rev hl) v e)
   | none=>
    have:=uc h hk (ok_rev hl) e;rw [rev_rev] at this;exact left this hx
theorem c_Cell_Divide {V:View}{cp:OA}{cn cc:Nat}{c:List Sd}{lv:Value}{l:L3}(h:Lst 17 RSd V cp cn c)(hc:cn<=cc)(hl:RLi V lv l)(hb:Bd l)(hn:c.length<=100000)(asc:c.Pairwise fun s u=>Sec.ang (Sec.dirL s.1) (Sec.dirL u.1)<0) :
  Acts prog 177 #[.slice cp cn cc,lv] V fun r V'=>∃p n m q k e,r=.tuple #[.slice p n m,.slice q k e,.bool (clipC c l).isSome,.bool (clipC c (revL l)).isSome]/\(∀d,clipC c l=some d->Lst 17 RSd V' p n d/\n<=m)/\(∀d,clipC c (revL l)=some d->Lst 17 RSd V' q k d/\k<=e):=by
 have a:=hl;obtain ⟨_,_,_,_,_,_,_,_,_,rfl,-,-,-⟩:=hl;refine vc_geo_Cell_Divide cp cn cc _ _ _ _ _ _ _ _ _ V _ fun H j=>(c_Cell_Clip (h.le j fun _ _ g=>RSd.le g j) (a.le j) hb hn asc).mono ?_;rintro r V2 C ⟨p,n,m,rfl,D⟩;have b:=j.trans C;refine ⟨_,_,_,_,rfl,fun I t=>(k_Reverse (a.le (b.trans t)) hb.szl (by omega)).mono ?_⟩;rintro r E A B;have v:RLi E r (revL l):=B;obtain ⟨_,_,_,_,_,_,_,_,_,rfl,-,-,-⟩:=B;have f:=b.trans (t.trans A);refine ⟨_,_,_,_,_,_,_,_,_,rfl,fun J o=>(c_Cell_Clip (h.le (f.trans o) fun _ _ g=>RSd.le g (f.trans o)) (v.le o) hb.rev hn asc).mono ?_⟩;rintro r K F ⟨q,k,e,rfl,G⟩;refine ⟨_,_,_,_,rfl,fun L w=>⟨_,_,_,_,_,_,rfl,fun d x=>?_,fun d x=>?_⟩⟩
 ·obtain ⟨y,z⟩:=D d x;have i:=t.trans (A.trans (o.trans (F.trans w)));exact ⟨y.le i fun _ _ g=>RSd.le g i,z hc⟩
 ·obtain ⟨y,z⟩:=G d x;exact ⟨y.le w fun _ _ g=>RSd.le g w,z hc⟩
def RPrt (V:View)(v:Value)(p:List Sd×Bool):Prop:=∃q n e b,v=.agg #[.slice q n e,.pointer b]/\Lst 17 RSd V q n p.1/\n<=e/\RT V b (.leaf p.2)
theorem RPrt.le {V V':View}{v:Value}{p:List Sd×Bool}(h:RPrt V v p)(l:V.Le V'):RPrt V' v p:=by
 obtain ⟨q,n,e,b,rfl,a,c,d⟩:=h;exact ⟨q,n,e,b,rfl,a.le l fun _ _ g=>RSd.le g l,c,RT.le l d⟩
theorem one2p {q:OA}{n e:Nat}{b:OA}:∀v∈([.slice q n e,.pointer b]:List Value),v.oneCell'=true:=fun v a=>by
 simp only [List.mem_cons,List.not_mem_nil,or_false] at a;rcases a with rfl|rfl<;>rfl
theorem c_bsp_parts:∀(t:Tr) {V:View} {q cp:OA} {cn cc lb n m:Nat} {c:List Sd} {M:List L3} {vs:List Value} {o:List (List Sd×Bool)},RT V q t->t.All Okb->CanC M c->(∀x∈M,okL x=true)->Lst 17 RSd V cp cn c->cn<=cc->c.length+t.size<=90000 ->
  (vs≠[]->V.w.heap[lb]?=some (.cells vs.toArray 115 (0,0)))->(vs≠[]->V.X lb)->GR 2 RPrt V n m vs o->(vs≠[]->0<n)->n+t.size+1<=1000000 ->
  Acts prog 138 #[.pointer q,.slice cp cn cc,.slice (mA lb m) n m] V fun r V'=>∃(bm:Nat)(vm:List Value)(n' c':Nat),(vm≠[]->V'.w.heap[bm]?=some (.cells vm.toArray 115 (0,0)))/\(vm≠[]->V.w.heap.size<=bm\/(vs≠[]/\bm=lb)) /\
   r=.slice (mA bm c') n' c'/\GR 2 RPrt (V'.hideG (vm≠[]) bm) n' c' vm (o++partsC t c)/\(vm≠[]->0<n')/\n'<=n+t.size+1:=by
 intro t;have u:∀{A B:Prop},A\/B\/False->A\/B:=fun h=>h.imp id fun h=>h.elim id False.elim
 induction t with
 | leaf i=>
  intro V q cp cn cc lb n m c M vs o h ha hC Z hL N hlen hw O hg s hn;refine vc_bsp_T_parts q cp cn cc lb n m vs V _ hw O fun V1 l1=>(c_bsp_IsLeaf (h.le l1)).mono ?_;rintro r V2 l2 rfl;have f:=l1.trans l2;refine ⟨_,rfl,fun hl=>⟨by omega,hg.le,hg.cap,rfl,one2p,fun sp c3 k1 k2 V3 bk hle D E=>⟨bk,_,n+1,c3,D,fun h=>u (E h),rfl,?_,fun _=>by omega,by omega⟩⟩,(fun hl=>by cases hl)⟩;exact (hg.mono fun _ _ g=>RPrt.le g (f.trans hle)).snoc (a:=(c,i)) rfl ⟨_,_,_,_,rfl,hL.le (f.trans hle) fun _ _ g=>RSd.le g (f.trans hle),N,RT.le (f.trans hle) h⟩ (by decide) k1 k2
 | node ln a b iha ihb=>
  intro V q cp cn cc lb n m c M vs o h ha hC Z hL N hlen hw O hg s hn;refine vc_bsp_T_parts q cp cn cc lb n m vs V _ hw O fun V1 l1=>(c_bsp_IsLeaf (h.le l1)).mono ?_;rintro r V2 l2 rfl;have f:=l1.trans l2;refine ⟨_,rfl,(fun hl=>by cases hl),fun _=>?_⟩;obtain ⟨bb,u1,u2,u3,v1,v2,v3,w1,w2,w3,pl,pr,i,rfl,hb,c0,c5,a0⟩:=h.le f;obtain ⟨⟨F,c6⟩,c7,a6⟩:=ha;simp only [Tr.size] at hn hlen
  have k:∀{W:View},V2.Le W->∀j v,([.int .i64 u1,.int .i64 u2,.pointer u3,.int .i64 v1,.int .i64 v2,.pointer v3,.int .i64 w1,.int .i64 w2,.pointer w3,.pointer pl,.pointer pr,.bool i]:List Value)[j]?=some v->W.at ((⟨bb,0,none⟩:Addr).add j) v:=by
   intro W hW j v hv;rw [add_zero'];exact blk_at (xs:=[_,_,_,_,_,_,_,_,_,_,_,_]) (hW _ _ hb) hv
  have G:=View.Le.refl V2;have a7:∀d,clipC c ln=some d->d.length+a.size<=90000:=fun d C=>by have:=clipC_len C;omega
  have I:∀d,clipC c (revL ln)=some d->d.length+b.size<=90000:=fun d C=>by have:=clipC_len C;omega
  have a8:∀d,clipC c ln=some d->CanC (ln::M) d:=(clip_ok hC Z F).1;have J:∀d,clipC c (revL ln)=some d->CanC (revL ln::M) d:=(clip_ok hC Z (ok_rev F)).1;have c8:∀x∈ln::M,okL x=true:=fun x O=>(List.mem_cons.1 O).elim (fun g=>g▸F) (Z x);have okB:∀x∈revL ln::M,okL x=true:=fun x O=>(List.mem_cons.1 O).elim (fun g=>g▸ok_rev F) (Z x);refine ⟨rfl,rfl,_,_,_,_,_,_,_,_,_,⟨bb,0,none⟩,rfl,k G 0 _ rfl,k G 1 _ rfl,k G 2 _ rfl,k G 3 _ rfl,k G 4 _ rfl,k G 5 _ rfl,k G 6 _ rfl,k G 7 _ rfl,k G 8 _ rfl,fun V4 l4=>(c_Cell_Divide (hL.le (f.trans l4) fun _ _ g=>RSd.le g (f.trans l4)) N (l:=ln) (c0.le l4) c6 (by omega) hC.asc).mono ?_⟩;rintro r V5 l5 ⟨p1,n1,c1,p2,n2,c2,rfl,c9,a9⟩;have p:=l4.trans l5;have d0:=f.trans p;have P:GR 2 RPrt V5 n m vs o:=hg.mono fun _ _ g=>RPrt.le g d0;have eP:partsC (.node ln a b) c=(match clipC c ln with|some d=>partsC a d|none=>[])++(match clipC c (revL ln) with|some d=>partsC b d|none=>[]):=rfl;rw [eP];refine ⟨_,_,_,_,_,_,_,_,rfl,fun b1=>?_,fun b1=>?_⟩
  ·obtain ⟨d,C⟩:=Option.isSome_iff_exists.1 b1;obtain ⟨gd,gc⟩:=c9 d C;rw [C];refine ⟨rfl,rfl,pl,rdc (p _ _ hb) 9 rfl,fun Q l6 bk f1 f2=>?_⟩;refine (iha (V:=Q.lend [vb vs Q.w.heap.size bk]) (lb:=bk) (RT.le (V:=V2) (V':=Q.lend _) (fun b o h=>(p.trans l6) b o h) c5) c7 (a8 d C) c8 (gd.le (V:=V5) (V':=Q.lend _) (fun b o h=>l6 b o h) fun _ _ g=>RSd.le g fun b o h=>l6 b o h) gc (a7 d C) f1 (fun h=>⟨by simp [vb_ne h],f2 h⟩) (P.mono (V':=Q.lend _) fun _ _ g=>RPrt.le g fun b o h=>l6 b o h) s (by omega)).mono ?_;rintro r V7 l7 ⟨bm,vm,n3,c3,a1,a2,rfl,a3,a4,a5⟩;have d1:Q.Le (V7.shut.hideG (vm≠[]) bm):=le_moved (V:=Q) (V':=V7) (fun b o h=>l7 b o h) fun h=>(a2 h).imp id fun (g:vs≠[]/\bm=bk)=>by rw [g.2];exact f2 g.1
   have b0:=l6.trans d1;have b5:GR 2 RPrt (V7.shut.hideG (vm≠[]) bm) n3 c3 vm (o++partsC a d):=a3.mono fun _ _ g=>RPrt.le g fun b o h=>h;refine ⟨bm,vm,a1,a2,none,n3,c3,rfl,fun b2=>?_,fun b2 d2 b6 hle D E=>⟨b6,vm,n3,c3,D,fun h=>u (E h),rfl,?_,a4,by simp only [Tr.size];omega⟩⟩
   ·obtain ⟨R,e⟩:=Option.isSome_iff_exists.1 b2;obtain ⟨S,T⟩:=a9 R e;rw [e];refine ⟨rfl,rfl,pr,rdc ((p.trans b0) _ _ hb) 10 rfl,fun V8 l8 K f3 f4=>?_⟩;have U:=b0.trans l8;refine (ihb (V:=V8.lend [vb vm V8.w.heap.size K]) (lb:=K) (RT.le (V:=V2) (V':=V8.lend _) (fun b o h=>(p.trans U) b o h) a0) a6 (J R e) okB (S.le (V:=V5) (V':=V8.lend _) (fun b o h=>U b o h) fun _ _ g=>RSd.le g fun b o h=>U b o h) T (I R e) f3 (fun h=>⟨by simp [vb_ne h],f4 h⟩) (b5.mono (V':=V8.lend _) fun _ _ g=>RPrt.le g fun b o h=>l8 b o h) a4 (by omega)).mono ?_;rintro r V9 l9 ⟨Y,y,n4,c4,x1,x2,rfl,x3,x4,x5⟩;refine ⟨Y,y,x1,x2,none,n4,c4,rfl,fun d3 b7 hle D E=>⟨b7,y,n4,c4,D,fun h=>u (E h),rfl,?_,x4,by simp only [Tr.size];omega⟩⟩;rw [←List.append_assoc];exact x3.mono fun _ _ g=>RPrt.le g fun b o h=>hle b o h
   ·have e:clipC c (revL ln)=none:=Option.isNone_iff_eq_none.1 (by rw [←Option.not_isSome,b2];rfl);rw [e];dsimp only;rw [List.append_nil];exact b5.mono fun _ _ g=>RPrt.le g hle
  ·have C:clipC c ln=none:=Option.isNone_iff_eq_none.1 (by rw [←Option.not_isSome,b1];rfl);rw [C];refine ⟨fun b2=>?_,fun b2 d4 b8 hle D E=>⟨b8,vs,n,m,D,fun h=>u (E h),rfl,?_,s,by simp only [Tr.size];omega⟩⟩
   ·obtain ⟨R,e⟩:=Option.isSome_iff_exists.1 b2;obtain ⟨S,T⟩:=a9 R e;rw [e];refine ⟨rfl,rfl,pr,rdc (p _ _ hb) 10 rfl,fun z H L f3 f4=>?_⟩;refine (ihb (V:=z.lend [vb vs z.w.heap.size L]) (lb:=L) (RT.le (V:=V2) (V':=z.lend _) (fun b o h=>(p.trans H) b o h) a0) a6 (J R e) okB (S.le (V:=V5) (V':=z.lend _) (fun b o h=>H b o h) fun _ _ g=>RSd.le g fun b o h=>H b o h) T (I R e) f3 (fun h=>⟨by simp [vb_ne h],f4 h⟩) (P.mono (V':=z.lend _) fun _ _ g=>RPrt.le g fun b o h=>H b o h) s (by omega)).mono ?_;rintro r d5 d6 ⟨Y,y,n4,c4,x1,x2,rfl,x3,x4,x5⟩;refine ⟨Y,y,x1,x2,none,n4,c4,rfl,fun d7 b9 hle D E=>⟨b9,y,n4,c4,D,fun h=>u (E h),rfl,?_,x4,by simp only [Tr.size];omega⟩⟩;exact x3.mono fun _ _ g=>RPrt.le g fun b o h=>hle b o h
   ·have e:clipC c (revL ln)=none:=Option.isNone_iff_eq_none.1 (by rw [←Option.not_isSome,b2];rfl);rw [e];show GR 2 RPrt _ n m vs (o++([]++[]));rw [List.append_nil,List.append_nil];exact P.mono fun _ _ g=>RPrt.le g hle
theorem c_bsp_Parts {V:View}{q:OA}{t:Tr}(h:RT V q t)(ha:t.All Okb)(hs:t.size<=80000) :
  Acts prog 95 #[.pointer q] V fun r V'=>∃p n c,r=.slice p n c/\Lst 2 RPrt V' p n (partsC t []):=by
 refine vc_bsp_T_Parts q V _ fun e f=>(c_bsp_parts t (V:=e) (lb:=0) (vs:=[]) (o:=[]) (m:=0) (n:=0) (cp:=none) (cn:=0) (cc:=0) (c:=[]) (M:=[]) (h.le f) ha CanC.nil (fun x i=>by cases i) Lst.nil (Nat.le_refl _) (by simp;omega) (fun h=>absurd rfl h) (fun h=>absurd rfl h) GR.nil (fun h=>absurd rfl h) (by omega)).mono ?_;rintro r V2 v ⟨j,vm,n,c,k,l,rfl,a,w,y⟩;refine ⟨j,vm,k,fun h=>(l h).imp id fun g=>absurd rfl g.1,none,n,c,rfl,fun z s A u=>?_⟩;have d:=a.len;rw [List.nil_append] at a d;rw [d];exact ⟨_,_,_,rfl,Lst.of_mrow u (a.row.le fun _ _ g=>RPrt.le g fun b o h=>s b o h) (by decide) (by rw [←d];exact a.le)⟩
theorem Ar (l:List Nd):∀(f:Nat)(n:Int)(s:RS),(du l f n s).2.bad=false->∀i:Nat,(du l f n s).2.seen[i]?=some true->s.seen[i]?=some true\/∃x:Nd,l[i]?=some x/\okL x.ln=true
 | 0,_,_,_,_,h=>.inl h
 | f+1,n,s,h,i,hi=>by
  simp only [du] at h hi;by_cases n2:n=-2
  ·rw [if_pos n2] at hi;exact .inl hi
  rw [if_neg n2] at h hi;by_cases n1:n=-1
  ·rw [if_pos n1] at hi;exact .inl hi
  rw [if_neg n1] at h hi;by_cases n0:n<0
  ·rw [if_pos n0] at h;cases h
  rw [if_neg n0] at h hi
  cases hx:l[n.toNat]? with
  | none=>rw [hx] at h;cases h
  | some x=>
  cases hs:s.seen[n.toNat]? with
  | none=>rw [hx,hs] at h;cases h
  | some b=>
  cases b with
  | true=>rw [hx,hs] at h;cases h
  | false=>
   rw [hx,hs] at h hi;dsimp only at h hi;by_cases ho:okL x.ln=true
   ·rw [if_pos ho] at h hi;dsimp only at h hi
    have hb:(du l f x.left ⟨s.seen.set n.toNat true,s.jy+1,s.bad⟩).2.bad=false:=by
     cases e:(du l f x.left ⟨s.seen.set n.toNat true,s.jy+1,s.bad⟩).2.bad
     ·rfl
     ·have:=Aq l f x.right _ e;rw [h] at this;cases this
    rcases Ar l f x.right _ h i hi with g|g
    ·rcases Ar l f x.left _ hb i g with g|g
     ·dsimp only at g;rw [List.getElem?_set] at g;split at g
      ·rename_i e;subst e;exact .inr ⟨x,hx,ho⟩
      ·exact .inl g
     ·exact .inr g
    ·exact .inr g
   ·rw [if_neg ho] at h;cases h
theorem ofT_okl {l:List Nd}{root:Int}{t:Tr}(h:ofT l root=some t):∀x∈l,okL x.ln=true:=by
 have f:l.length<=65536:=by
  rcases Nat.lt_or_ge 65536 l.length with b|b
  ·unfold ofT at h;rw [if_pos b] at h;cases h
  ·exact b
 rw [I7 f] at h;split at h
 ·rename_i d;intro x j;obtain ⟨i,c,rfl⟩:=List.mem_iff_getElem.1 j;have hm:=(oZ l (l.length+1) root ⟨List.replicate l.length false,0,false⟩).2
  have k:(du l (l.length+1) root ⟨List.replicate l.length false,0,false⟩).2.seen[i]?=some true:=by
   have a:i<(du l (l.length+1) root ⟨List.replicate l.length false,0,false⟩).2.seen.length:=by rw [hm];simpa using c
   rw [List.getElem?_eq_getElem a];have:=List.all_eq_true.1 d.2 _ (List.getElem_mem a);exact congrArg some this
  rcases Ar l _ root _ d.1 i k with g|⟨y,e,m⟩
  ·simp [c] at g
  ·rw [List.getElem?_eq_getElem c] at e;cases e;exact m
 ·cases h
theorem c_cells_parts {V:View}{v:Value}{root:Int}{l:List Nd}(hb:∀x∈l,Bd x.ln)(h:AT V v root l){y z:Value}(hy:Sent V 0 y)(hz:Sent V 1 z) :
  Acts prog 40 #[v] V fun r V'=>(ofT l root=none->r=.tuple #[.slice none 0 0,y])/\∀t,ofT l root=some t->(1024<t.depth->r=.tuple #[.slice none 0 0,z])/\(t.depth<=1024->∃p n c,r=.tuple #[.slice p n c,.nilIface]/\Lst 2 RPrt V' p n (partsC t [])):=by
 have A:=h;obtain ⟨q,n,c,rfl,-⟩:=h;refine vc_cells_parts root q n c V _ fun G m=>(c_bsp_Of' hb (A.le m)).mono ?_;rintro r V2 B ⟨a,rfl,o⟩;have d:=m.trans B;refine ⟨_,_,rfl,fun g=>⟨y,⟨_,rfl,hy.le d⟩,fun H I=>?_⟩,fun g J s=>?_⟩
 ·have g:ofT l root=none:=by cases e:ofT l root with
   | none=>rfl
   | some t=>rw [e] at g;cases g
  exact ⟨fun _=>rfl,fun t b=>by rw [g] at b;cases b⟩
 ·cases e:ofT l root with
  | none=>rw [e] at g;cases g
  | some t=>
   have K:=ofT_size e;have j:t.All Okb:=ofT_all (p:=Okb) (fun x u=>⟨ofT_okl e x u,hb x u⟩) e;refine (c_bsp_Depth t ((o t e).le s) (by omega)).mono ?_;rintro r L C rfl;have f:=s.trans C;refine ⟨_,rfl,fun i=>⟨z,⟨_,rfl,hz.le (d.trans f)⟩,fun M N=>⟨(fun k=>by cases k),fun D b=>?_⟩⟩,fun i O E=>(c_bsp_Parts ((o t e).le (f.trans E)) j (by omega)).mono ?_⟩
   ·cases b;have i:=of_decide_eq_true i;exact ⟨fun _=>rfl,fun k=>by omega⟩
   ·rintro r P Q ⟨p,n,c,rfl,F⟩;refine ⟨_,_,_,rfl,fun R w=>⟨(fun k=>by cases k),fun D b=>?_⟩⟩;cases b;have i:=of_decide_eq_false i;exact ⟨fun k=>by omega,fun _=>⟨_,_,_,rfl,F.le w fun _ _ g=>RPrt.le g w⟩⟩
theorem parts_len:∀{t:Tr} {c:List Sd},∀p∈partsC t c,p.1.length<=c.length+t.size
 | .leaf b,c,p,hp=>by
  unfold partsC at hp;rw [List.mem_singleton.1 hp];simp
 | .node l a b,c,p,hp=>by
  unfold partsC at hp;simp only [Tr.size];rcases List.mem_append.1 hp with hp|hp
  ·cases e:clipC c l with
   | some d=>rw [e] at hp;have:=parts_len p hp;have:=clipC_len e;omega
   | none=>rw [e] at hp;cases hp
  ·cases e:clipC c (revL l) with
   | some d=>rw [e] at hp;have:=parts_len p hp;have:=clipC_len e;omega
   | none=>rw [e] at hp;cases hp
theorem parts_count:∀{t:Tr} {c:List Sd},(partsC t c).length<=t.size+1
 | .leaf b,c=>by unfold partsC;simp
 | .node l a b,c=>by
  unfold partsC;simp only [Tr.size];rw [List.length_append]
  have h1:(match clipC c l with|some d=>partsC a d|none=>[]).length<=a.size+1:=by
   cases clipC c l with
   | some d=>exact parts_count
   | none=>exact Nat.zero_le _
  have e:(match clipC c (revL l) with|some d=>partsC b d|none=>[]).length<=b.size+1:=by
   cases clipC c (revL l) with
   | some d=>exact parts_count
   | none=>exact Nat.zero_le _
  exact Nat.le_trans (Nat.add_le_add h1 e) (by omega)
theorem lst_prt {V:View}{p:OA}{n:Nat}{al:List (List Sd×Bool)}(h:Lst 2 RPrt V p n al){i:Nat}(hi:i<al.length) :
  p.isSome=true/\∃(q:OA)(m e:Nat)(b:OA)(a:Addr),addrAdd p (i*2)=some a/\V.at (a.add 0) (.slice q m e)/\V.at (a.add 1) (.pointer b)/\Lst 17 RSd V q m al[i].1/\m<=e/\RT V b (.leaf al[i].2):=by
 obtain ⟨f,c,xs,o,g,d⟩:=h.at_ i hi;obtain ⟨q,m,e,b,ex,j,k,l⟩:=g;have ex:=congrArg Array.toList (Value.agg.inj ex);dsimp only at ex;subst ex;refine ⟨?_,q,m,e,b,f,c,d 0 _ rfl,d 1 _ rfl,j,k,l⟩
 cases p with
 | none=>cases c
 | some a=>rfl
def RCl1 (V:View)(v:Value)(S:List L3):Prop:=∃p n c,v=.agg #[.slice p n c]/\Lst 6 RLv V p n S
theorem RCl1.le {V V':View}{v:Value}{S:List L3}(h:RCl1 V v S)(l:V.Le V'):RCl1 V' v S:=by
 obtain ⟨p,n,c,rfl,g⟩:=h;exact ⟨p,n,c,rfl,g.le l fun _ _ k=>RLv.le k l⟩
def RCode (_V:View)(v:Value)(b:Bool):Prop:=v=.agg #[.int .i64 (if b then -2 else -1)]
theorem c_cells_All {V:View}{v:Value}{root:Int}{l:List Nd}(hb:∀x∈l,Bd x.ln)(h:AT V v root l){y z:Value}(hy:Sent V 0 y)(hz:Sent V 1 z)(sy:SErr y)(sz:SErr z) :
  Acts prog 11 #[v] V fun r V'=>(ofT l root=none->r=.tuple #[.slice none 0 0,.slice none 0 0,y])/\∀t,ofT l root=some t->(1024<t.depth->r=.tuple #[.slice none 0 0,.slice none 0 0,z])/\(t.depth<=1024->∃p n c q m e,r=.tuple #[.slice p n c,.slice q m e,.nilIface]/\Lst 1 RCl1 V' p n ((partsC t []).map fun p=>p.1.map Prod.fst)/\Lst 1 RCode V' q m ((partsC t []).map Prod.snd)):=by
 have h0:=h;obtain ⟨q,n,c,rfl,-⟩:=h;have O:∀{y:Value},SErr y->IsIface y/\isNilI y=false:=fun h=>by obtain ⟨a,rfl⟩:=h;exact ⟨.inr ⟨_,_,rfl⟩,rfl⟩
 refine vc_cells_All root q n c V _ fun V1 Q=>(c_cells_parts hb (h0.le Q) (hy.le Q) (hz.le Q)).mono ?_;rintro r V2 l2 ⟨h1,h2⟩;have a5:=Q.trans l2
 cases e:ofT l root with
 | none=>
  obtain rfl:=h1 e;exact ⟨_,_,_,_,rfl,(O sy).1,fun _ V3 l3=>⟨fun _=>rfl,fun t C=>by cases C⟩,fun B=>by rw [(O sy).2] at B;cases B⟩
 | some t=>
  obtain ⟨g1,g2⟩:=h2 t e;by_cases hd:1024<t.depth
  ·obtain rfl:=g1 hd;exact ⟨_,_,_,_,rfl,(O sz).1,fun _ V3 l3=>⟨(fun k=>by cases k),fun t' C=>by cases C;exact ⟨fun _=>rfl,fun k=>by omega⟩⟩,fun B=>by rw [(O sz).2] at B;cases B⟩
  ·obtain ⟨p,n',c',rfl,hL⟩:=g2 (by omega);have a6:=ofT_size e;have a0:=parts_count (t:=t) (c:=[]);have R:=parts_len (t:=t) (c:=[]);obtain rfl:=hL.len;refine ⟨_,_,_,_,rfl,.inl rfl,(fun B=>by cases B),fun _=>?_⟩;generalize eA:partsC t []=A at *;refine ⟨fun z V'=>∃j:Nat,z.2.2.2.2.2.2=(j:Int)/\j<=A.length/\GR 1 RCl1 V' z.1 z.2.1 z.2.2.1 ((A.take j).map fun p=>p.1.map Prod.fst)/\GR 1 RCode V' z.2.2.2.1 z.2.2.2.2.1 z.2.2.2.2.2.1 ((A.take j).map Prod.snd),fun z=>A.length-z.2.2.2.2.2.2.toNat,⟨(0,0,[],0,0,[],0),by and_intros<;>first|rfl|trivial,0,rfl,Nat.zero_le _,GR.nil,GR.nil⟩,?_⟩;rintro ⟨D,w2,ws,E,x2,xs,w⟩ V4 l4 ⟨j,ej,a7,b,d⟩;dsimp only at ej b d ⊢;subst ej;refine ⟨by trivial,fun f=>?_,fun f V9 l9 b1 b2 S k2=>⟨(fun k=>by cases k),fun t' C=>⟨fun k=>by cases C;omega,fun _=>?_⟩⟩⟩
   ·have f:(j:Int)<A.length:=of_decide_eq_true f;have G:j<A.length:=by omega
    have wr:i64.wrap ((j:Int)+1)=((j+1:Nat):Int):=by rw [i64w (by omega)];rfl
    rw [wr,Int.toNat_natCast];obtain ⟨ps,pq,pm,pe,pb,ad,ha,k0,S,gl,a8,T⟩:=lst_prt (hL.le l4 fun _ _ g=>RPrt.le g l4) G;have H:=R _ (List.getElem_mem G);have et:A.take (j+1)=A.take j++[A[j]]:=(List.take_append_getElem G).symm;have la:=b.len;have lb:=d.len;rw [List.length_map,List.length_take] at la lb;generalize A[j]=P at *;obtain ⟨bb,c0,s,u,c3,c4,c5,c6,c7,c8,rr,rfl,U⟩:=T;simp only [List.length_nil,Nat.zero_add] at H
    have call:∀{x:Int},x=(if P.2 then -2 else -1)->∀I,V4.Le I->Acts prog 41 #[.slice pq pm pe] I fun r F=>∃(q:OA)(m e:Nat),r=.agg #[.slice q m e]/\∀{i o:List Value} {s u:Nat},D+1<=s->s*1<=(D+1)*1+i.length->E+1<=u->u*1<=(E+1)*1+o.length->GR 1 RCl1 F (D+1) s (ws.take (D*1)++[.slice q m e]++i) ((A.take (j+1)).map fun p=>p.1.map Prod.fst)/\GR 1 RCode F (E+1) u (xs.take (E*1)++[.int .i64 x]++o) ((A.take (j+1)).map Prod.snd):=fun {x} hx I J=>by
     refine (c_Cell_API (gl.le J fun _ _ g=>RSd.le g J) (by omega)).mono ?_;rintro r F l6 ⟨q,m,e,rfl,hq,-⟩;have W:=J.trans l6;refine ⟨q,m,e,rfl,fun {i o s u} K L M N=>?_⟩;rw [et,List.map_append,List.map_append];exact ⟨(b.mono (V':=F) fun _ _ g=>RCl1.le g W).snoc (a:=P.1.map Prod.fst) rfl ⟨_,_,_,rfl,hq⟩ (by decide) K L,(d.mono (V':=F) fun _ _ g=>g).snoc (a:=P.2) rfl (by rw [hx];rfl) (by decide) M N⟩
    have o1:∀{q:OA} {m e:Nat},∀v∈([.slice q m e]:List Value),v.oneCell'=true:=fun v X=>by rw [List.mem_singleton.1 X];rfl
    have o2:∀{x:Int},∀v∈([.int .i64 x]:List Value),v.oneCell'=true:=fun v X=>by rw [List.mem_singleton.1 X];rfl
    refine ⟨ps,⟨by omega,by omega⟩,pq,pm,pe,_,ad,ha,k0,S,rfl,rfl,P.2,rdc U 11 rfl,fun Y I J=>(call (x:=-2) (by rw [Y];rfl) I J).mono ?_,fun Y V7 l7=>(call (x:=-1) (by rw [Y];rfl) V7 l7).mono ?_⟩
    ·rintro r F l6 ⟨q,m,e,rfl,Z⟩;refine ⟨q,m,e,rfl,by omega,b.le,b.cap,rfl,o1,fun i s K L=>⟨by omega,d.le,d.cap,rfl,o2,fun o u M N=>⟨(D+1,s,_,E+1,u,_,((j+1:Nat):Int)),by dsimp only;omega,by and_intros<;>first|rfl|trivial,j+1,rfl,G,Z K L M N⟩⟩⟩
    ·rintro r V8 l8 ⟨q,m,e,rfl,Z⟩;refine ⟨q,m,e,rfl,by omega,b.le,b.cap,rfl,o1,fun i s K L=>⟨by omega,d.le,d.cap,rfl,o2,fun o u M N=>⟨(D+1,s,_,E+1,u,_,((j+1:Nat):Int)),by dsimp only;omega,by and_intros<;>first|rfl|trivial,j+1,rfl,G,Z K L M N⟩⟩⟩
   ·have f:¬(j:Int)<A.length:=of_decide_eq_false f;obtain rfl:j=A.length:=by omega
    rw [List.take_length] at b d;cases C;rw [eA];have e1:=b.len;have e2:=d.len;have f1:=b.le;have f2:=d.le;subst e1 e2;exact ⟨_,_,_,_,_,_,rfl,Lst.of_mrow S (b.row.le fun _ _ g=>RCl1.le g l9) (by decide) f1,Lst.of_mrow k2 (d.row.le fun _ _ g=>g) (by decide) f2⟩
theorem wL {V:View}{y z:Value}(hy:Sent V 0 y)(hz:Sent V 1 z)(sy:SErr y)(sz:SErr z):Acts prog 19 #[] V fun r V'=>r=.bool true:=by
 refine vS V _ fun D B=>?_;have h:AT D (.agg #[.int .i64 (-2),.slice none 0 0]) (-2) []:=⟨none,0,0,rfl,rfl,Nat.le_refl _,⟨[],(fun i v h=>by simp at h),fun i d h=>by simp at h⟩,fun _=>rfl⟩;refine (c_cells_All (l:=[]) (fun x E=>by cases E) h (hy.le B) (hz.le B) sy sz).mono ?_;rintro r V2 P ⟨-,F⟩;have e:ofT [] (-2)=some (.leaf true):=by decide
 obtain ⟨p,n,c,q,m,k,rfl,s,t⟩:=(F _ e).2 (by decide);have G:partsC (.leaf true) []=[([],true)]:=rfl;rw [G] at s t;have u:=s.len;have w:=t.len;obtain ⟨C,j,xs,Q,⟨H,I,J,ex,K⟩,L⟩:=s.at_ 0 (by simp);obtain ⟨b,g,R,S,o,M⟩:=t.at_ 0 (by simp);have ex:=congrArg Array.toList (Value.agg.inj ex);have o:=congrArg Array.toList (Value.agg.inj o);dsimp only at ex o;subst ex o;have A:=K.len;have u:n=1:=u;have w:m=1:=w;have A:I=0:=A;subst u w A;have j:addrAdd p 0=some C:=j;have g:addrAdd q 0=some b:=g
 have sp:p.isSome=true:=by
  cases p with
  | none=>cases j
  | some a=>rfl
 have N:q.isSome=true:=by
  cases q with
  | none=>cases g
  | some a=>rfl
 have O:b.add 0=b:=by
  cases q with
  | none=>cases g
  | some a=>
   have b1:a.add 0=b:=Option.some.inj g;rw [←b1,ka]
 refine ⟨_,_,_,_,_,_,_,rfl,.inl rfl,fun _=>⟨fun _=>⟨sp,⟨by decide,by decide⟩,by rw [j];rfl,H,0,J,⟨C.add 0,by rw [j];rfl,L 0 _ rfl⟩,fun _=>⟨fun _=>⟨N,⟨by decide,by decide⟩,-2,⟨b,g,by have:=M 0 _ rfl;rw [O] at this;exact this⟩,fun T U=>rfl⟩,fun f=>by simp at f⟩,fun f=>by simp at f⟩,fun f=>by simp at f⟩,fun f=>by simp [isNilI] at f⟩
end Go.Proofs.Tryz
namespace Go.Proofs.Tryz
open Go.Eng
set_option maxRecDepth 100000
end Go.Proofs.Tryz
namespace Go.Proofs.Tryz
open Go.Eng Go.Big
theorem FU {α:Type}{sz:Nat}{R:View->Value->α->Prop}{V:View}{vs:List Value}{al:List α}(h:Row sz R V vs al)(hs:0<sz){i:Nat}(hi:i<al.length) :
  ∃xs:List Value,xs.length=sz/\R V (.agg xs.toArray) al[i]/\i*sz+sz<=vs.length/\(vs.drop (i*sz)).take sz=xs/\∀j v,xs[j]?=some v->vs[i*sz+j]?=some v:=by
 obtain ⟨xs,d,e,a⟩:=h.at_ i hi;have f:=h.jn hs
 have hm:i*sz+sz<=al.length*sz:=by
  have:=Nat.mul_le_mul_right sz (Nat.succ_le_of_lt hi);rw [Nat.succ_mul] at this;exact this
 refine ⟨xs,d,e,by omega,List.ext_getElem? fun j=>?_,a⟩;rw [List.getElem?_take];by_cases c:j<sz
 ·rw [if_pos c,List.getElem?_drop];have b:xs[j]?=some xs[j]:=List.getElem?_eq_getElem (by omega);rw [b,a j _ b]
 ·rw [if_neg c,List.getElem?_eq_none (by omega)]
theorem M_ {V:View}{n c:Nat}{vs:List Value}{al:List (List L3×Bool)}(h:GR 2 RCe V n c vs al){i:Nat}(hi:i<al.length) :
  ∃(q:OA)(m e:Nat),i*2+2<=vs.length/\(vs.drop (i*2)).take 2=[.slice q m e,.bool al[i].2]/\vs[i*2+0]?=some (.slice q m e)/\Lst 6 RLv V q m al[i].1:=by
 obtain ⟨xs,g,⟨q,m,e,ex,a,j⟩,b,d,f⟩:=FU h.row (by decide) hi;have ex:=congrArg Array.toList (Value.agg.inj ex);dsimp only at ex;subst ex;exact ⟨q,m,e,b,d,f 0 _ rfl,a⟩
theorem BI {t:Tr}(ht:t.All Okb):cellsR t []=(partsC t []).map fun p=>(p.1.map Prod.fst,p.2):=
 ua CanC.nil (fun x a=>by cases a) (oV ht) (.inl rfl) rfl
theorem Ji {t:Tr}(ht:t.All Okb):∀p∈partsC t [],∀s∈p.1,Bd s.1:=fun p a s b=>by
 obtain ⟨M,c,d⟩:=mE (P:=Okb) (fun l h=>⟨ok_rev h.1,h.2.rev⟩) (fun l h=>h.1) CanC.nil (fun x e=>by cases e) ht p a;exact (d _ (c.mem s b).1).2
def Wa (a:List Bool)(i:Nat):Bool:=a.getD i false
def Ox (a b:List Bool):Prop:=a.length=b.length/\∀i,Wa a i=true->Wa b i=true
theorem Ox.refl (a:List Bool):Ox a a:=⟨rfl,fun _ h=>h⟩
theorem Ox.trans {a b c:List Bool}(h:Ox a b)(h':Ox b c):Ox a c:=⟨h.1.trans h'.1,fun i g=>h'.2 i (h.2 i g)⟩
def emptyPart:List Sd×Bool:=([],false)
def RIx (_V:View)(v:Value)(i:Nat):Prop:=v=.agg #[.int .i64 (i:Int)]
def touchI (A:List (List Sd×Bool))(x:Rat×Rat)(j:Nat):List Nat:=(List.range j).filter fun i=>hasC (A.getD i emptyPart).1 x
theorem touchI_succ {A:List (List Sd×Bool)}{x:Rat×Rat}{j:Nat}(h:j<A.length):touchI A x (j+1)=touchI A x j++(if hasC A[j].1 x=true then [j] else []):=by
 unfold touchI;rw [List.range_succ,List.filter_append];congr 1;have e:A.getD j emptyPart=A[j]:=by rw [List.getD_eq_getElem?_getD,List.getElem?_eq_getElem h];rfl
 by_cases c:hasC A[j].1 x=true
 ·rw [if_pos c,List.filter_cons_of_pos (by rw [e];exact c)];rfl
 ·rw [if_neg c,List.filter_cons_of_neg (by rw [e];exact c)];rfl
theorem touchI_len (A:List (List Sd×Bool))(x:Rat×Rat)(j:Nat):(touchI A x j).length<=j:=by
 unfold touchI;have a:=List.length_filter_le (fun i=>hasC (A.getD i emptyPart).1 x) (List.range j);rw [List.length_range] at a;exact a
theorem c_cells_Touching {V:View}{v w:Value}{root:Int}{l:List Nd}(hb:∀x∈l,Bd x.ln)(h:AT V v root l){x:Rat×Rat}(hp:ApS V w x)(s1:Sz 1000000000 x.1)(s2:Sz 1000000000 x.2){y z:Value}(hy:Sent V 0 y)(hz:Sent V 1 z)(sy:SErr y)(sz:SErr z) :
  Acts prog 23 #[v,w] V fun r V'=>(ofT l root=none->r=.tuple #[.slice none 0 0,y])/\∀t,ofT l root=some t->(1024<t.depth->r=.tuple #[.slice none 0 0,z])/\(t.depth<=1024->∃p n c,r=.tuple #[.slice p n c,.nilIface]/\Lst 1 RIx V' p n (touchI (partsC t []) x (partsC t []).length)):=by
 have S:=h;obtain ⟨q,n,c,rfl,-⟩:=h;obtain ⟨⟨_,_,_,_,_,_,_,_,_,_,_,_,_,_,rfl⟩,C⟩:=hp;have u:∀{y:Value},SErr y->IsIface y/\isNilI y=false:=fun h=>by obtain ⟨a,rfl⟩:=h;exact ⟨.inr ⟨_,_,rfl⟩,rfl⟩
 refine vc_cells_Touching root q n c _ _ _ _ _ _ _ _ _ _ _ _ _ _ V _ fun V1 B=>(c_cells_parts hb (S.le B) (hy.le B) (hz.le B)).mono ?_;rintro r V2 T ⟨U,W⟩;have D:=B.trans T
 cases e:ofT l root with
 | none=>
  obtain rfl:=U e;exact ⟨_,_,_,_,rfl,(u sy).1,fun _ X Y=>⟨fun _=>rfl,fun t i=>by cases i⟩,fun f=>by rw [(u sy).2] at f;cases f⟩
 | some t=>
  obtain ⟨Z,g2⟩:=W t e;by_cases hd:1024<t.depth
  ·obtain rfl:=Z hd;exact ⟨_,_,_,_,rfl,(u sz).1,fun _ X Y=>⟨(fun k=>by cases k),fun t' i=>by cases i;exact ⟨fun _=>rfl,fun k=>by omega⟩⟩,fun f=>by rw [(u sz).2] at f;cases f⟩
  ·obtain ⟨p,n',c',rfl,K⟩:=g2 (by omega);have a0:=ofT_size e;have L:=parts_count (t:=t) (c:=[]);have E:=parts_len (t:=t) (c:=[]);obtain rfl:=K.len;refine ⟨_,_,_,_,rfl,.inl rfl,(fun f=>by cases f),fun _ V4 M=>(C V4 (D.trans M)).mono ?_⟩;rintro r V5 l5 N;have F:=N;obtain ⟨_,_,_,_,_,_,rfl,-⟩:=N;have m:=M.trans l5;generalize eA:partsC t []=A at *;refine ⟨_,_,_,_,_,_,rfl,fun z V'=>∃j:Nat,z.2.2.2=(j:Int)/\j<=A.length/\GR 1 RIx V' z.1 z.2.1 z.2.2.1 (touchI A x j),fun z=>A.length-z.2.2.2.toNat,⟨(0,0,[],0),by and_intros<;>first|rfl|trivial,0,rfl,Nat.zero_le _,GR.nil⟩,?_⟩;rintro ⟨O,w2,ws,w⟩ V6 G ⟨j,Q,a3,d⟩;dsimp only at Q d ⊢;subst Q;refine ⟨by trivial,fun b=>?_,fun b V9 l9 b1 H=>⟨(fun k=>by cases k),fun t' i=>⟨fun k=>by cases i;omega,fun _=>?_⟩⟩⟩
   ·have b:(j:Int)<A.length:=of_decide_eq_true b;have o:j<A.length:=by omega
    have wr:i64.wrap ((j:Int)+1)=((j+1:Nat):Int):=by rw [i64w (by omega)];rfl
    rw [wr,Int.toNat_natCast];obtain ⟨ps,pq,pm,pe,pb,ad,ha,k0,H,gl,a4,-⟩:=lst_prt (K.le (m.trans G) fun _ _ g=>RPrt.le g (m.trans G)) o;have s:=E _ (List.getElem_mem o);have R:=touchI_succ (x:=x) o;have la:=d.len;have lb:=touchI_len A x j;generalize A[j]=P at *;simp only [List.length_nil,Nat.zero_add] at s;have o2:∀{x:Int},∀v∈([.int .i64 x]:List Value),v.oneCell'=true:=fun v hv=>by rw [List.mem_singleton.1 hv];rfl
    refine ⟨ps,⟨by omega,by omega⟩,pq,pm,pe,pb,ad,ha,k0,H,fun V7 I=>(c_Cell_Has (x:=x) (gl.le I fun _ _ g=>RSd.le g I) (F.le (G.trans I)) s1 s2 (by omega)).mono ?_⟩;rintro r V8 l8 rfl;refine ⟨_,rfl,fun J=>⟨by omega,d.le,d.cap,rfl,o2,fun a5 c1 a1 a2=>⟨(O+1,c1,_,((j+1:Nat):Int)),by dsimp only;omega,by and_intros<;>first|rfl|trivial,j+1,rfl,o,?_⟩⟩,fun J=>⟨(O,w2,ws,((j+1:Nat):Int)),by dsimp only;omega,by and_intros<;>first|rfl|trivial,j+1,rfl,o,?_⟩⟩
    ·dsimp only;rw [R,if_pos J];exact (d.mono (V':=V8) fun _ _ g=>g).snoc (a:=j) rfl rfl (by decide) a1 a2
    ·dsimp only;rw [R,if_neg (by rw [J];exact Bool.false_ne_true),List.append_nil];exact d.mono fun _ _ g=>g
   ·have b:¬(j:Int)<A.length:=of_decide_eq_false b;obtain rfl:j=A.length:=by omega
    cases i;rw [eA];have e1:=d.len;have f1:=d.le;subst e1;exact ⟨_,_,_,rfl,Lst.of_mrow H (d.row.le fun _ _ g=>g) (by decide) f1⟩
def FstI (A:List (List Sd×Bool))(x:Rat×Rat)(i:Int):Prop:=(i=-1/\∀(k:Nat)(h:k<A.length),inC A[k].1 x=false)\/∃(j:Nat)(h:j<A.length),i=(j:Int)/\inC A[j].1 x=true/\∀(k:Nat)(h:k<A.length),k<j->inC A[k].1 x=false
theorem c_Find_1 {V:View}{p:OA}{n c:Nat}{b:OA}{cs:List Sd}{qb:Nat}{u1 u2:Int}{u3:OA}{w1 w2:Int}{w3:OA}{x:Rat×Rat}(hw:V.w.heap[qb]?=some (.cells #[.int .i64 u1,.int .i64 u2,.pointer u3,.int .i64 w1,.int .i64 w2,.pointer w3] 137 (0,0)))(hx:V.X qb)
  (h:Lst 17 RSd V p n cs)(hp:RPt V (.agg #[.int .i64 u1,.int .i64 u2,.pointer u3,.int .i64 w1,.int .i64 w2,.pointer w3]) x.1 x.2)(s1:Sz 1000000000 x.1)(s2:Sz 1000000000 x.2)(hn:cs.length<=100000) :
  Acts prog 53 #[.agg #[.slice p n c,.pointer b],.pointer (some ⟨qb,0,none⟩)] V fun r V'=>r=.bool (inC cs x)/\V'.w.heap[qb]?=some (.cells #[.int .i64 u1,.int .i64 u2,.pointer u3,.int .i64 w1,.int .i64 w2,.pointer w3] 137 (0,0)):=by
 refine vc_cells_Find_1 p n c b qb u1 u2 u3 w1 w2 w3 V _ hw hx fun e a=>(c_Cell_Inside (x:=x) (h.le a fun _ _ g=>RSd.le g a) (hp.le a) s1 s2 hn).mono ?_;rintro r V2 f rfl;exact ⟨_,rfl,fun i j d=>⟨rfl,d⟩⟩
theorem c_IndexFunc {V:View}{sp:OA}{sn sc:Nat}{A:List (List Sd×Bool)}{qb:Nat}{u1 u2:Int}{u3:OA}{w1 w2:Int}{w3:OA}{x:Rat×Rat}(hw:V.w.heap[qb]?=some (.cells #[.int .i64 u1,.int .i64 u2,.pointer u3,.int .i64 w1,.int .i64 w2,.pointer w3] 137 (0,0)))(hx:V.X qb)
  (h:Lst 2 RPrt V sp sn A)(hp:RPt V (.agg #[.int .i64 u1,.int .i64 u2,.pointer u3,.int .i64 w1,.int .i64 w2,.pointer w3]) x.1 x.2)(s1:Sz 1000000000 x.1)(s2:Sz 1000000000 x.2)(hn:∀p∈A,p.1.length<=100000)(hl:A.length<=1000000) :
  Acts prog 52 #[.slice sp sn sc,.func (.func 53) #[] #[.pointer (some ⟨qb,0,none⟩)]] V fun r V'=>∃i:Int,r=.int .i64 i/\FstI A x i/\V'.w.heap[qb]?=some (.cells #[.int .i64 u1,.int .i64 u2,.pointer u3,.int .i64 w1,.int .i64 w2,.pointer w3] 137 (0,0)):=by
 obtain rfl:=h.len;refine vc_slices_IndexFunc sp _ sc qb u1 u2 u3 w1 w2 w3 V _ hw hx ⟨fun z _=>∃j:Nat,z=((j:Int),u1,u2,u3,w1,w2,w3)/\j<=A.length/\∀(k:Nat)(h:k<A.length),k<j->inC A[k].1 x=false,fun z=>A.length-z.1.toNat,⟨(0,u1,u2,u3,w1,w2,w3),by and_intros<;>first|rfl|trivial,0,rfl,Nat.zero_le _,fun k _ g=>absurd g (Nat.not_lt_zero k)⟩,?_⟩;rintro z n e ⟨j,rfl,q,a⟩;dsimp only;refine ⟨by trivial,fun c=>?_,fun c N O s=>⟨-1,rfl,.inl ⟨rfl,fun k f=>a k f ?_⟩,s⟩⟩;rotate_left
 ·have c:¬(j:Int)<A.length:=of_decide_eq_false c;omega
 have c:(j:Int)<A.length:=of_decide_eq_true c;have d:j<A.length:=by omega
 have wr:i64.wrap ((j:Int)+1)=((j+1:Nat):Int):=by rw [i64w (by omega)];rfl
 rw [wr,Int.toNat_natCast];obtain ⟨t,u,pm,v,y,B,C,D,E,F,G,-⟩:=lst_prt (h.le e fun _ _ g=>RPrt.le g e) d;refine ⟨t,⟨by omega,by omega⟩,u,pm,v,y,B,C,D,E,fun V2 l H I J=>(c_Find_1 (V:=V2.lend [H]) I ⟨by simp,J⟩ (F.le (V:=n) (V':=V2.lend _) (fun b o h=>l b o h) fun _ _ g=>RSd.le g fun b o h=>l b o h) (RPt.le (V:=V) (V':=V2.lend _) hp fun b o h=>(e.trans l) b o h) s1 s2 (hn _ (List.getElem_mem d))).mono ?_⟩;rintro r P Q ⟨rfl,K⟩;refine ⟨_,rfl,_,_,_,_,_,_,K,fun m R S L=>⟨(j:Int),rfl,.inr ⟨j,d,rfl,m,a⟩,L⟩,fun m=>⟨(((j+1:Nat):Int),u1,u2,u3,w1,w2,w3),by dsimp only;omega,by and_intros<;>first|rfl|trivial,j+1,rfl,d,fun k f g=>?_⟩⟩;by_cases M:k=j
 ·subst M;exact m
 ·exact a k f (by omega)
theorem c_cells_Find {V:View}{v w:Value}{root:Int}{l:List Nd}(hb:∀x∈l,Bd x.ln)(h:AT V v root l){x:Rat×Rat}(hp:ApS V w x)(s1:Sz 1000000000 x.1)(s2:Sz 1000000000 x.2){y z:Value}(hy:Sent V 0 y)(hz:Sent V 1 z)(sy:SErr y)(sz:SErr z) :
  Acts prog 21 #[v,w] V fun r V'=>(ofT l root=none->r=.tuple #[.int .i64 0,.bool false,y])/\∀t,ofT l root=some t->(1024<t.depth->r=.tuple #[.int .i64 0,.bool false,z])/\(t.depth<=1024->∃i:Int,FstI (partsC t []) x i/\r=.tuple #[.int .i64 (maxI i 0),.bool (decide (i≥0)),.nilIface]):=by
 have I:=h;obtain ⟨q,n,c,rfl,-⟩:=h;obtain ⟨⟨_,_,_,_,_,_,_,_,_,_,_,_,_,_,rfl⟩,s⟩:=hp;have j:∀{y:Value},SErr y->IsIface y/\isNilI y=false:=fun h=>by obtain ⟨a,rfl⟩:=h;exact ⟨.inr ⟨_,_,rfl⟩,rfl⟩
 refine vc_cells_Find root q n c _ _ _ _ _ _ _ _ _ _ _ _ _ _ V _ fun V1 m=>(c_cells_parts hb (I.le m) (hy.le m) (hz.le m)).mono ?_;rintro r V2 J ⟨K,L⟩;have u:=m.trans J
 cases e:ofT l root with
 | none=>
  obtain rfl:=K e;exact ⟨_,_,_,_,rfl,(j sy).1,fun _ M N=>⟨fun _=>rfl,fun t f=>by cases f⟩,fun d=>by rw [(j sy).2] at d;cases d⟩
 | some t=>
  obtain ⟨O,P⟩:=L t e;by_cases Q:1024<t.depth
  ·obtain rfl:=O Q;exact ⟨_,_,_,_,rfl,(j sz).1,fun _ M N=>⟨(fun k=>by cases k),fun R f=>by cases f;exact ⟨fun _=>rfl,fun k=>by omega⟩⟩,fun d=>by rw [(j sz).2] at d;cases d⟩
  ·obtain ⟨p,n',c',rfl,S⟩:=P (by omega);have T:=ofT_size e;have F:=parts_count (t:=t) (c:=[]);have A:=parts_len (t:=t) (c:=[]);refine ⟨_,_,_,_,rfl,.inl rfl,(fun d=>by cases d),fun _ U B=>(s U (u.trans B)).mono ?_⟩;rintro r W G H;have C:=H;obtain ⟨_,_,_,_,_,_,rfl,-⟩:=H;refine ⟨_,_,_,_,_,_,rfl,fun D E X Y Z=>(c_IndexFunc (V:=D.lend [X]) (x:=x) Y ⟨by simp,Z⟩ (S.le (V:=V2) (V':=D.lend _) (fun b o h=>(B.trans (G.trans E)) b o h) fun _ _ g=>RPrt.le g fun b o h=>(B.trans (G.trans E)) b o h) (RPt.le (V:=W) (V':=D.lend _) C fun b o h=>E b o h) s1 s2 (fun p hp=>by have:=A p hp;simp only [List.length_nil] at this;omega) (by omega)).mono ?_⟩;rintro r V7 l7 ⟨i,rfl,hi,e7⟩;exact ⟨_,rfl,_,_,_,_,_,_,e7,fun V8 l8=>⟨(fun k=>by cases k),fun R f=>by cases f;exact ⟨fun k=>by omega,fun _=>⟨i,hi,rfl⟩⟩⟩⟩
theorem Fy (c:List Sd)(x:Rat×Rat):hasC c x=(c.map Prod.fst).all fun l=>decide (0<=ai l x.1 x.2):=by
 unfold hasC;rw [List.all_map];rfl
theorem Iy (c:List Sd)(x:Rat×Rat):inC c x=(c.map Prod.fst).all fun l=>decide (0<ai l x.1 x.2):=by
 unfold inC;rw [List.all_map];rfl
theorem HZ {c c':List Sd}(e:c.map Prod.fst=c'.map Prod.fst)(x:Rat×Rat):ku c x=ku c' x:=by
 unfold ku;rw [Fy,Iy,Fy,Iy,e]
theorem H2 {M:List L3}{c:List Sd}(h:CanC M c)(hk:∀m∈M,okL m=true)(x:Rat×Rat):D2 (c.map Prod.fst) x=ku c x:=by
 obtain ⟨d,a,-,b⟩:=DZ h hk;rw [Kx (pF h hk) a,HZ b]
theorem Ac {c:List Sd}{x:Rat×Rat}:inC c x=true↔oQ c x:=by
 unfold inC oQ;rw [List.all_eq_true];exact ⟨fun h s a=>of_decide_eq_true (h s a),fun h s a=>decide_eq_true (h s a)⟩
theorem B0 {c:List Sd}{x:Rat×Rat}:hasC c x=true↔∀s∈c,0<=ai s.1 x.1 x.2:=by
 unfold hasC;rw [List.all_eq_true];exact ⟨fun h s a=>of_decide_eq_true (h s a),fun h s a=>decide_eq_true (h s a)⟩
theorem H0 {c:List Sd}{x:Rat×Rat}:ku c x=2↔inC c x=true:=by
 have a:inC c x=true->hasC c x=true:=fun h=>B0.2 fun s b=>Rat.le_of_lt (Ac.1 h s b);unfold ku;by_cases h:hasC c x=true
 ·rw [if_pos h];by_cases g:inC c x=true
  ·rw [if_pos g];exact ⟨fun _=>g,fun _=>rfl⟩
  ·rw [if_neg g];exact ⟨fun e=>absurd e (by decide),fun e=>absurd e g⟩
 ·rw [if_neg h];exact ⟨fun e=>absurd e (by decide),fun e=>absurd (a e) h⟩
theorem Gx {c:List Sd}{x:Rat×Rat}:ku c x=0↔hasC c x=false:=by
 unfold ku;cases h:hasC c x
 ·simp
 ·rw [if_pos rfl];split<;>simp
theorem Ez {L:List (List Sd×Bool)}(hd:L.Pairwise fun p p'=>¬∃q,oQ p.1 q/\oQ p'.1 q){x:Sec.V2}{i j:Nat}(hi:i<L.length)(hj:j<L.length)(h1:oQ L[i].1 x)(h2:oQ L[j].1 x):i=j:=by
 rcases Nat.lt_trichotomy i j with h|h|h
 ·exact absurd ⟨x,h1,h2⟩ (List.pairwise_iff_getElem.1 hd i j hi hj h)
 ·exact h
 ·exact absurd ⟨x,h2,h1⟩ (List.pairwise_iff_getElem.1 hd j i hj hi h)
theorem K4 {V:View}{p:OA}{n:Nat}{al:List Nat}(h:Lst 1 RIx V p n al){i:Nat}(hi:i<al.length) :
  p.isSome=true/\∃a:Addr,addrAdd p (i*1)=some a/\V.at a (.int .i64 (al[i]:Int)):=by
 obtain ⟨b,c,xs,j,e,f⟩:=h.at_ i hi;have ex:=congrArg Array.toList (Value.agg.inj e);dsimp only at ex;subst ex
 cases p with
 | none=>cases c
 | some a=>
  have b1:a.add (i*1)=b:=Option.some.inj c;have g:b.add 0=b:=by rw [←b1,ka];rfl
  have d:=f 0 _ rfl;rw [g] at d;exact ⟨rfl,b,c,d⟩
theorem Na {V:View}{n c:Nat}{vs:List Value}{al:List Nat}(h:GR 1 RIx V n c vs al){i:Nat}(hi:i<al.length):vs[i*1]?=some (.int .i64 (al[i]:Int)):=by
 obtain ⟨xs,d,a,e,f,b⟩:=FU h.row (by decide) hi;have ex:=congrArg Array.toList (Value.agg.inj a);dsimp only at ex;subst ex;exact b 0 _ rfl
def OE (A:List (List Sd×Bool))(x:Rat×Rat)(j:Nat)(at_:Int)(f:Bool):Prop:=
 (f=false/\at_=0/\∀(k:Nat)(h:k<A.length),k<j->inC A[k].1 x=false)\/(f=true/\∃(i:Nat)(h:i<A.length),i<j/\at_=(i:Int)/\inC A[i].1 x=true)
theorem nk {V:View}{y z:Value}(hy:Sent V 0 y)(hz:Sent V 1 z)(sy:SErr y)(sz:SErr z){lp:OA}{ln lc:Nat}(hr:Gd V lp ln)(hc:ln<=lc) :
  Acts prog 4 #[.slice lp ln lc] V fun r V'=>r=.bool true:=by
 refine mO lp ln lc V _ fun V1 l1=>(BG hc).mono ?_;rintro r V2 l2 ⟨b5,rfl,b6,hb⟩;refine ⟨b5,_,_,_,_,rfl,b6,hb,fun V3 l3 b7 e4 h4=>?_⟩
 have b8:V1.Le V3:=fun b o h=>l3 b o ⟨fun Z=>Z.elim (l2 b o h).1 fun e=>by
  have d:b<V1.w.heap.size:=by
   rcases Nat.lt_or_ge b V1.w.heap.size with C|C
   ·exact C
   ·have:=h.2;rw [Array.getElem?_eq_none C] at this;cases this
  have:=e.1;omega,(l2 b o h).2⟩
 have Q:min ln 400<=400:=Nat.min_le_right _ _;have hr:Gd V lp (min ln 400):=fun i q=>hr i (Nat.lt_of_lt_of_le q (Nat.min_le_left _ _));generalize min ln 400=n at *;have yN:V.Le V3:=l1.trans b8;refine (MU 4 (V:=V3.lend [b7]) (by omega) (hr.le fun b o h=>yN b o h) Q e4 ⟨by simp,h4⟩ (Int.le_refl 0)).mono ?_;rintro r X l4 ⟨qa,t,HF,rfl,Ow,E,d9,t1,b9⟩;have J:V.Le X:=fun b o h=>l4 b o (yN b o h);have W0:ofT (wr 0 t) (rt 0 t)=some t:=NM (oV E) (by omega);have VD:∀x∈wr 0 t,Bd x.ln:=uK (NN E);have e0:=lE t;have d8:=parts_count (t:=t) (c:=[]);have c0:=parts_len (t:=t) (c:=[]);have c1:=Ji E;have c2:∀p∈partsC t [],∃M',CanC M' p.1/\∀m∈M',okL m=true:=mE (P:=fun l=>okL l=true) (fun l h=>ok_rev h) (fun l h=>h) CanC.nil (fun x K=>by cases K) (oV E);have S9:=nK (t:=t) CanC.nil (fun x K=>by cases K) (oV E);have B5:=fun x:Sec.V2=>lL (t:=t) (x:=x) CanC.nil (fun x K=>by cases K) (oV E);have Yj:=BI E;have e1:=cells_len t [];refine ⟨_,rfl,_,_,_,_,b9,fun V5 l5 c4 e5 h5=>(zL (V:=V5.lend [c4]) (hr.le fun b o h=>l5 b o (J b o h)) Q e5 ⟨by simp,h5⟩ t1 (RW.le (V:=X) (V':=V5.lend _) (fun b o h=>l5 b o h) Ow) E (by omega)).mono ?_⟩;rintro r V6 l6 ⟨p,e2,hp,F,H,t2,c5⟩;have R:=hp;obtain ⟨_,_,_,_,_,_,_,_,_,_,_,_,rfl,-⟩:=hp;have L:X.Le V6:=fun b o h=>l6 b o (l5 b o h);have s1:Sz 1000000000 p.1:=F.mono (by omega);have s2:Sz 1000000000 p.2:=H.mono (by omega);have B5:=B5 p (fun s hs=>by cases hs);refine ⟨_,_,_,_,_,_,_,_,_,_,_,_,_,_,rfl,_,_,_,_,c5,fun V7 l7=>(mT (RW.le (V:=X) (V':=V7) (fun b o h=>l7 b o (L b o h)) Ow) E (by omega)).mono ?_⟩;rintro r V8 l8 hA;have Rn:=hA;obtain ⟨pa,na,ca,rfl,-⟩:=hA;have TQ:V6.Le V8:=fun b o h=>l8 b o (l7 b o h);have NB:=(J.trans L).trans TQ;refine ⟨_,_,_,_,rfl,fun V9 l9=>(rC (R.le (TQ.trans l9)) F H (by omega)).mono ?_⟩;rintro r e6 c6 hq;have c7:=hq;obtain ⟨_,_,_,_,_,_,_,_,_,_,_,_,_,_,rfl,-⟩:=hq;have KY:=l9.trans c6;refine ⟨_,_,_,_,_,_,_,_,_,_,_,_,_,_,rfl,fun e7 I=>(c_cells_Find VD (Rn.le (KY.trans I)) (ApS.of (p:=p) (c7.le I) F H (by omega)) s1 s2 (hy.le (NB.trans (KY.trans I))) (hz.le (NB.trans (KY.trans I))) sy sz).mono ?_⟩;rintro r e8 c9 ⟨-,h2⟩;obtain ⟨fi,d0,rfl⟩:=(h2 t W0).2 (by omega);have TS:=KY.trans (I.trans c9);have P9:=TQ.trans TS;have P6:=L.trans P9;refine ⟨_,_,_,rfl,fun d1 PV=>(mT (RW.le (V:=X) (V':=d1) (P6.trans PV) Ow) E (by omega)).mono ?_⟩;rintro r e9 cO hB;have d2:=hB;obtain ⟨pb,nb,cb,rfl,-⟩:=hB;have Mn:=PV.trans cO;have P_:=P9.trans Mn;refine ⟨_,_,_,_,rfl,fun f0 dh=>(rC (R.le (P_.trans dh)) F H (by omega)).mono ?_⟩;rintro r j9 cQ a5;have Tk:=a5;obtain ⟨_,_,_,_,_,_,_,_,_,_,_,_,_,_,rfl,-⟩:=a5;have IE:=dh.trans cQ;have TO:=P6.trans (Mn.trans IE);have GU:=J.trans TO;refine ⟨_,_,_,_,_,_,_,_,_,_,_,_,_,_,rfl,fun ng ck=>(c_cells_Touching VD (d2.le (IE.trans ck)) (ApS.of (p:=p) (Tk.le ck) F H (by omega)) s1 s2 (hy.le (GU.trans ck)) (hz.le (GU.trans ck)) sy sz).mono ?_⟩;rintro r oo dk ⟨-,h3⟩;obtain ⟨p3,n3,c3,rfl,a6⟩:=(h3 t W0).2 (by omega);have Qa:=P_.trans (IE.trans (ck.trans dk));have P7:=L.trans Qa;have PR:=J.trans P7;refine ⟨_,_,_,_,rfl,.inl rfl,(fun hf=>by cases hf),fun _=>⟨.inl rfl,(fun hf=>by cases hf),fun _ pZ fN=>(c_ref14_Cells t (ls:=[]) (RW.le (V:=X) (V':=pZ) (P7.trans fN) Ow) E Lst.nil (fun x K=>by cases K) (fun x K=>by cases K) (by simp;omega)).mono ?_⟩⟩;rintro r rf iN ⟨bm,vm,n',c',w1,w2,rfl,G⟩;have lW:oo.Le (rf.shut.hideG (vm≠[]) bm):=fN.trans (le_moved (V:=pZ) (V':=rf) iN fun h=>.inl (w2 h));have G':GR 2 RCe (rf.shut.hideG (vm≠[]) bm) n' c' vm (cellsR t []):=G.mono fun _ _ g=>RCe.le g fun b o h=>h;clear G;refine ⟨bm,vm,w1,fun h=>.inl (w2 h),none,n',c',rfl,?_⟩;generalize rf.shut.hideG (vm≠[]) bm=W at lW G' ⊢;have e3:=G'.len;rw [Yj] at G' e3;rw [List.length_map] at e3
 have f1:0<(touchI (partsC t []) p (partsC t []).length).length:=by
  obtain ⟨P,hP,a7⟩:=B5;obtain ⟨i,q,rfl⟩:=List.mem_iff_getElem.1 hP;refine List.length_pos_iff.2 fun e=>?_
  have hm:i∈touchI (partsC t []) p (partsC t []).length:=by
   unfold touchI;refine List.mem_filter.2 ⟨List.mem_range.2 q,?_⟩;have:(partsC t []).getD i emptyPart=(partsC t [])[i]:=by rw [List.getD_eq_getElem?_getD,List.getElem?_eq_getElem q];rfl
   rw [this];exact B0.2 a7
  rw [e] at hm;cases hm
 have a8:=touchI_len (partsC t []) p;have Rp:=a6.len;generalize partsC t []=A at *;subst e3;refine ⟨fun z V'=>∃j:Nat,z.2.2.2.2.2=(j:Int)/\j<=A.length/\GR 1 RIx V' z.2.2.1 z.2.2.2.1 z.2.2.2.2.1 (touchI A p j)/\OE A p j z.1 z.2.1,fun z=>A.length-z.2.2.2.2.2.toNat,⟨(0,false,0,0,[],0),by and_intros<;>first|rfl|trivial,0,rfl,Nat.zero_le _,GR.nil,.inl ⟨rfl,rfl,fun k _ g=>absurd g (Nat.not_lt_zero k)⟩⟩,?_⟩;rintro ⟨za,zf,S,d3,ws,wj⟩ tE fV ⟨j,ej,f2,D,hF⟩;dsimp only at ej D hF ⊢;subst ej;refine ⟨by trivial,fun d=>?_,fun d=>?_⟩
 ·have d:(j:Int)<A.length:=of_decide_eq_true d;have N:j<A.length:=by omega
  have wr:i64.wrap ((j:Int)+1)=((j+1:Nat):Int):=by rw [i64w (by omega)];rfl
  rw [wr,Int.toNat_natCast];obtain ⟨p8,n8,c8,g1,g2,-,gl⟩:=M_ G' (i:=j) (by rw [List.length_map];exact N);rw [List.getElem_map] at g2 gl;have a9:=c1 A[j] (List.getElem_mem N);have b0:=c0 A[j] (List.getElem_mem N);obtain ⟨M,hM,hk⟩:=c2 A[j] (List.getElem_mem N)
  have d4:∀l∈A[j].1.map Prod.fst,Bd l:=fun l hl=>by
   obtain ⟨s,hs,rfl⟩:=List.mem_map.1 hl;exact a9 s hs
  have KN:=pF hM hk;have Yi:=H2 hM hk p;have YV:(A[j].1.map Prod.fst).length<=1000:=by rw [List.length_map];simp only [List.length_nil] at b0;omega
  have es:=touchI_succ (x:=p) N;have i2:=H0 (c:=A[j].1) (x:=p);have i0:=Gx (c:=A[j].1) (x:=p)
  have u:∀at_ f,(inC A[j].1 p=true->f=true/\at_=(j:Int))->(inC A[j].1 p=false->f=zf/\at_=za)->OE A p (j+1) at_ f:=fun at_ f h1 h2=>by
   cases q:inC A[j].1 p with
   | true=>obtain ⟨rfl,rfl⟩:=h1 q;exact .inr ⟨rfl,j,N,Nat.lt_succ_self j,rfl,q⟩
   | false=>
    obtain ⟨rfl,rfl⟩:=h2 q;rcases hF with ⟨O,a2,T⟩|⟨O,i,U,a2,T,Y⟩
    ·refine .inl ⟨O,a2,fun k hk g=>?_⟩;by_cases ek:k=j
     ·subst ek;exact q
     ·exact T k hk (by omega)
    ·exact .inr ⟨O,i,U,by omega,T,Y⟩
  have la:=D.len;have lb:=a8 j;clear a9 b0 hM hk hF;generalize hPj:A[j]=P at *;dsimp only at g2 gl;refine ⟨⟨by omega,by omega⟩,G'.le,p8,n8,c8,P.2,⟨g1,g2⟩,fun Ge my=>(wR (gl.le (fV.trans my) fun _ _ g=>RLv.le g (fV.trans my)) d4 KN YV (R.le (Qa.trans (lW.trans (fV.trans my)))) s1 s2).mono ?_⟩;rintro r DH d5 rfl;rw [Yi];have WN:=my.trans d5;have o1:∀{x:Int},∀v∈([.int .i64 x]:List Value),v.oneCell'=true:=fun v hv=>by rw [List.mem_singleton.1 hv];rfl
  refine ⟨_,rfl,fun h=>⟨by omega,D.le,D.cap,rfl,o1,fun sp c k1 k2=>⟨((j:Int),true,S+1,c,_,((j+1:Nat):Int)),by dsimp only;omega,by and_intros<;>first|rfl|trivial,j+1,rfl,N,?_,?_⟩⟩,fun h=>⟨fun C=>⟨by omega,D.le,D.cap,rfl,o1,fun sp c k1 k2=>⟨(za,zf,S+1,c,_,((j+1:Nat):Int)),by dsimp only;omega,by and_intros<;>first|rfl|trivial,j+1,rfl,N,?_,?_⟩⟩,fun C=>⟨(za,zf,S,d3,ws,((j+1:Nat):Int)),by dsimp only;omega,by and_intros<;>first|rfl|trivial,j+1,rfl,N,?_,?_⟩⟩⟩
  ·have h:ku P.1 p=2:=by simpa using h
   have B:=i2.1 h
   have Z:hasC P.1 p=true:=by
    cases e:hasC P.1 p with
    | true=>rfl
    | false=>have:=i0.2 e;omega
   dsimp only;rw [es,if_pos Z];exact (D.mono (V':=DH) fun _ _ g=>g).snoc (a:=j) rfl rfl (by decide) k1 k2
  ·have h:ku P.1 p=2:=by simpa using h
   have B:=i2.1 h;exact u _ _ (fun _=>⟨rfl,rfl⟩) (fun g=>by rw [B] at g;cases g)
  ·have C:ku P.1 p=1:=by simpa using C
   have Z:hasC P.1 p=true:=by
    cases e:hasC P.1 p with
    | true=>rfl
    | false=>have:=i0.2 e;omega
   dsimp only;rw [es,if_pos Z];exact (D.mono (V':=DH) fun _ _ g=>g).snoc (a:=j) rfl rfl (by decide) k1 k2
  ·have h:ku P.1 p≠2:=by simpa using h
   exact u _ _ (fun g=>absurd (i2.2 g) h) (fun _=>⟨rfl,rfl⟩)
  ·have h:ku P.1 p≠2:=by simpa using h
   have C:ku P.1 p≠1:=by simpa using C
   have d6:ku P.1 p=0:=by
    unfold ku at h C ⊢;split
    ·split
     ·rename_i a b;rw [if_pos a,if_pos b] at h;exact absurd rfl h
     ·rename_i a b;rw [if_pos a,if_neg b] at C;exact absurd rfl C
    ·rfl
   dsimp only;rw [es,if_neg (by rw [i0.1 d6];exact Bool.false_ne_true),List.append_nil];exact D.mono fun _ _ g=>g
  ·have h:ku P.1 p≠2:=by simpa using h
   exact u _ _ (fun g=>absurd (i2.2 g) h) (fun _=>⟨rfl,rfl⟩)
 ·have d:¬(j:Int)<A.length:=of_decide_eq_false d;obtain rfl:j=A.length:=by omega
  have IG:=lW.trans fV
  have key:decide (fi≥0)=zf/\maxI fi 0=za:=by
   rcases d0 with ⟨rfl,hn⟩|⟨i,q,rfl,B,-⟩
   ·rcases hF with ⟨O,a2,-⟩|⟨-,i,U,-,-,Y⟩
    ·rw [O,a2];exact ⟨rfl,rfl⟩
    ·rw [hn i U] at Y;cases Y
   ·rcases hF with ⟨-,-,T⟩|⟨O,k,d7,-,T,Y⟩
    ·rw [T i q q] at B;cases B
    ·have:=Ez S9 q d7 (Ac.1 B) (Ac.1 Y);subst this;rw [O,T];refine ⟨decide_eq_true (by omega),?_⟩;unfold maxI;split<;>omega
  obtain ⟨k1,k2⟩:=key;have gl:=D.len;rw [k1,k2];refine ⟨fun h=>by simp at h,fun _=>⟨fun h=>by simp at h,fun _=>⟨fun h=>?_,fun _=>⟨fun h=>?_,fun _=>⟨fun z _=>∃i:Nat,z=(i:Int)/\i<=n3,fun z=>n3-z.toNat,⟨0,by and_intros<;>rfl,0,rfl,Nat.zero_le _⟩,?_⟩⟩⟩⟩⟩
  ·rw [Rp,gl] at h;simp at h
  ·rw [Rp] at h;have h:((touchI A p A.length).length:Int)=0:=by simpa using h
   omega
  rintro w Kl wD ⟨i,rfl,f3⟩;refine ⟨by trivial,fun d=>?_,fun _ Rk FG=>(wL (hy.le (PR.trans (IG.trans (wD.trans FG)))) (hz.le (PR.trans (IG.trans (wD.trans FG)))) sy sz).mono ?_⟩
  ·have d:(i:Int)<n3:=of_decide_eq_true d;have q:i<n3:=by omega
   have lb:=a8 A.length;have wr:i64.wrap ((i:Int)+1)=((i+1:Nat):Int):=by rw [i64w (by omega)];rfl
   rw [wr,Int.toNat_natCast];have PW:=IG.trans wD;obtain ⟨is,ad,a0,O⟩:=K4 (a6.le PW fun _ _ g=>g) (i:=i) (by omega);have b1:=Na D (i:=i) (by omega);exact ⟨is,⟨by omega,by omega⟩,_,⟨ad,a0,O⟩,⟨by omega,by omega⟩,D.le,_,b1,fun h=>by simp at h,fun _=>⟨((i+1:Nat):Int),by dsimp only;omega,by and_intros<;>rfl,i+1,rfl,q⟩⟩
  ·rintro r OK Ag rfl;exact ⟨_,rfl,fun R7 Kf=>rfl⟩
end Go.Proofs.Tryz
