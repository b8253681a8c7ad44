import Derived.Shelf.SlSortCmp.WholeK
import Derived.Shelf.SlSortCmp.NoneTotal
import Derived.Test.YtlhmddanbgcbjaaGreatDoorF17
set_option linter.all false
open Go.IntKind (i64 u64 u32)
open Go.Value renaming agg→hF,bool→dB,pointer→dS,int→Ô,slice→zF,tuple→tN
open Go.Eng Go.Big
namespace Go.Proofs.Tryz
variable{a b:L3}{v:Value}{V:Ó}
def Jn:L3:=(0,0,0)
def Vf (a b:L3):Int:=jR a b
theorem uS:jR a b<0↔(a.1<b.1\/a.1=b.1/\(a.2.1<b.2.1\/a.2.1=b.2.1/\a.2.2<b.2.2)):=by have s:∀{x y:Int},(x<y/\(x-y).sign=-1)\/(x=y/\(x-y).sign=0)\/(y<x/\(x-y).sign=1):=χ;unfold jR;grind
theorem T6:œ Vf:=⟨λa b h=>by unfold Vf at *;rw [uS] at *;omega,λa b d h c=>by unfold Vf at *;rw [uS] at *;omega⟩
theorem Kb:Qv [dO (a.1:Rat) (b.1:Rat),dO (a.2.1:Rat) (b.2.1:Rat),dO (a.2.2:Rat) (b.2.2:Rat)]=jR a b:=by have e:∀x y:Int,dO (x:Rat) (y:Rat)=(x-y).sign:=λx y=>by{unfold dO;rw [<-Wj2,Qf6]};rw [e,e,e];unfold jR;generalize (a.1-b.1).sign=x;generalize (a.2.1-b.2.1).sign=y;generalize (a.2.2-b.2.2).sign=z;simp only [Qv];grind
def mI (V:Ó)(v:Value)(c:L3):Prop:=AW V v c.1 c.2.1 c.2.2/\Bd c
theorem mI.le {V V':ut}{c:L3}(h:mI V v c)(l:V.Le V'):mI V' v c:=⟨h.1.le l,h.2⟩
theorem mI.shape {c:L3}(h:mI V v c):∃(x y:Int)(p:OA)(xb yb:Int)(pb:OA)(xc yc:Int)(pc:OA),v=hF #[Ô .i64 x,Ô .i64 y,dS p,Ô .i64 xb,Ô .i64 yb,dS pb,Ô .i64 xc,Ô .i64 yc,dS pc]:=by obtain ⟨⟨a,b,p,d,f,q,g,i,r,e,-⟩,-⟩:=h;exact qyJ e
theorem LJ {w:un}(h:mI V v a)(h':mI V w b):À 122 #[v,w] V λr V'=>r=Ô .i64 (Vf a b):=by obtain ⟨s1,s2,s3⟩:=h.2.sz;obtain ⟨t1,t2,t3⟩:=h'.2.sz;refine (wR h.1 h'.1 s1 s2 s3 t1 t2 t3).s ?_;rintro r c d rfl;rw [Kb];rfl
def eL (a b:L3):Bool:=decide (a=b)
theorem Sg {w:un}(h:mI V v a)(h':mI V w b):À 123 #[v,w] V λr V'=>r=dB (eL a b):=by obtain ⟨s1,s2,s3⟩:=h.2.sz;obtain ⟨t1,t2,t3⟩:=h'.2.sz;refine (yk h.1 h'.1 s1 s2 s3 t1 t2 t3).s ?_;rintro r g i rfl;unfold eL;congr 1;refine É.2 ⟨λ⟨c,d,f⟩=>Wj4 (Qd7.1 c) (Wj4 (Qd7.1 d) (Qd7.1 f)),λe=>by rw [e];exact ⟨rfl,rfl,rfl⟩⟩
end Go.Proofs.Tryz
namespace Go.Eng
open Go.Proofs Go.Shelf Go.RowKit Go.Lib Go.Sort
def X0 {τ:Type}(R:Ó->Value->τ->Prop)(k:Nat)(V:Ó):Type:={p:List Value×τ // R V (.agg p.1.toArray) p.2/\p.1.length=k/\∀x∈p.1,x.oneCell'=true}
theorem Hd {w w':World}(h:kq (λ_=>False) w w'):∃q os,w'=grow (w.drewN q) os:=by refine ⟨w'.drawn-w.drawn,w'.heap.extract w.heap.size w'.heap.size,?_⟩;obtain ⟨a,k,dr,os,out⟩:=w';have b:=h.os;have c:=h.tape;have d:=h.out;have e:=h.dr;have f:=h.size;have g:=h.bg;dsimp only at b c d e f g;subst b c d;have i:a=w.heap++a.extract w.heap.size a.size:=χ;have j:dr=w.drawn+(dr-w.drawn):=ω;show (⟨a,w.tape,dr,w.os,w.output⟩:World)=⟨w.heap++a.extract w.heap.size a.size,w.tape,w.drawn+(dr-w.drawn),w.os,w.output⟩;rw [<-i,<-j]
def tM {α:Type}[Inhabited α](enc:α->pz un)(k:Nat)(w:World)(b off m:Nat)(d:Array α)(os:Array Obj)(i:Nat)(hi:i<w.heap.size):(sortWorldK enc k w b off m d os).heap[i]?=if b=i then (w.heap[i]?).map (onCells (putCells id off (flatK enc k d))) else w.heap[i]?:=by show (((w.heap.modify b (onCells (putCells id off (flatK enc k d))))++os))[i]?=_;rw [Array.getElem?_append,Ä (by rw [Array.size_modify];exact hi),Array.getElem?_modify]
def SL {α:Type}[Inhabited α](enc:α->pz un)(k:Nat)(hk:∀x,(enc x).length=k)(d:Array α)(vs:pz un)(hl:d.size*k<=vs.length)(i:Nat)(hi:i<d.size)(j:Nat)(x:un)(hx:(enc d[i]!)[j]?=some x):(putCells id 0 (flatK enc k d) vs.toArray).toList[i*k+j]?=some x:=by have c:j<k:=by{have:=(ĥ.1 hx).1;rw [hk] at this;exact this};have lt:i*k+j<d.size*k:=by{have:=ÿ k (show i+1<=d.size from hi);rw [đ,ŋ] at this;omega};have a:(i*k+j)/k=i:=(blk_iff k i _ ω).1 ⟨ω,ω⟩;have b:(i*k+j)%k=j:=by{rw [Nat.mod_eq_sub_div_mul,a];omega};unfold putCells;rw [Array.getElem?_toList,Array.getElem?_mapIdx,List.getElem?_toArray,ô ω,Wk3,Ä ⟨â _,by rw [size_flatK];omega⟩,Wk4,get_flatK _ _ _ _ lt,a,b];rw [Qt9,hx];rfl
variable {P:Program} {ρ:Ren} {τ:Type} {R:Ó->Value->τ->Prop} {k g:Nat} {ty:TypeId} {cf:τ->τ->Int}
set_option maxHeartbeats 1000000 in
theorem M4 (L:SlLaysF0.n6 P ρ)(aE:∀w,(isAgg (ρ.t 24)).run P w=.ok true w)(zE:∀w,(Go.sizeOf (ρ.t 24)).run P w=.ok k w)(hR:∀{V V':ut} {v a},R V v a->V.Le V'->R V' v a)(hS:∀{V:ut} {v a},R V v a->∃xs:pz un,v=.agg xs.toArray/\xs.length=k/\∀x∈xs,x.oneCell'=true)(hO:SWO λx y=>decide (cf x y<0))(hc:∀{V:ut} {v w a b},R V v a->R V w b->aa P g #[v,w] V λr _=>r=Ô .i64 (cf a b)){V:ut}{lb n c:Nat}{vs:pz un}{l:pz τ}(hw:V.w.heap[lb]?=some (.cells vs.toArray ty (0,0)))(hx:V.X lb)(row:ç k R V vs l)(hn:n=l.length)(h0:l≠[])(k0:0<k)(mN:l.length<1000000000):aa P (ρ.f 6) #[zF (some ⟨lb,0,none⟩) n c,.func (.func g) #[] #[]] V λr V'=>r=tN #[]/\∃vs' l',V'.w.heap[lb]?=some (.cells vs'.toArray ty (0,0))/\ç k R V' vs' l'/\l'.Perm l/\l'.Pairwise λx y=>¬cf y x<0:=by subst hn;have s:∀i:Fin l.length,∃e:X0 R k V,e.1.2=l[i.1]/\∀j x,e.1.1[j]?=some x->vs[i.1*k+j]?=some x:=λi=>by{have ⟨xs,G,M,W⟩:=row.at_ i.1 i.2;have ⟨Y,f1,f2,f3⟩:=hS M;have:xs=Y:=List.toArray_inj (Value.agg.inj f1);subst this;exact ⟨⟨(xs,l[i.1]),M,f2,f3⟩,rfl,W⟩};obtain ⟨I,-,-⟩:=s ⟨0,(Qh7.2 h0)⟩;letI:Inhabited (X0 R k V):=⟨I⟩;let enc:X0 R k V->pz un:=λe=>e.1.1;have hk:∀x,(enc x).length=k:=λx=>x.2.2.1;let d:Array (X0 R k V):=Array.ofFn λi=>Classical.choose (s i);have B:d.size=l.length:=Array.size_ofFn;have N:∀i (p:i<l.length),(d[i]!)=Classical.choose (s ⟨i,p⟩):=λi p=>by{rw [getElem!_pos d i ω];exact Array.getElem_ofFn _};have d1:∀i (p:i<l.length),(d[i]!).1.2=l[i]:=λi p=>by{rw [N i p];exact (Classical.choose_spec (s ⟨i,p⟩)).1};have d2:∀i (p:i<l.length) j x,(enc d[i]!)[j]?=some x->vs[i*k+j]?=some x:=λi p j x h=>by{rw [N i p] at h;exact (Classical.choose_spec (s ⟨i,p⟩)).2 j x h};have D:=aG hw;have hH:HoldsK enc k V.w lb 0 d:=λt J=>by{rw [size_flatK] at J;have Z:t/k<l.length:=by{rw [<-B];exact Nat.div_lt_of_lt_mul (by rw [Ķ];exact J)};have hm:t%k<k:=Ė _ k0;rw [get_flatK _ _ _ _ J,ą];have hg:(enc d[t/k]!)[t%k]?=some ((enc d[t/k]!)[t%k]!):=by{rw [Qt9,ô (by rw [hk];exact hm)];rfl};have:=d2 _ Z _ _ hg;rw [Nat.div_add_mod' t k] at this;unfold World.cell? World.frozen?;rw [hw];refine ⟨?_,?_⟩;{show (if (none:Option _).isSome=true then none else vs.toArray[t]?)=_;rw [Ã ψ,List.getElem?_toArray];exact this};grind};have hle:∀m (u:Array (X0 R k V)) os (E:∀b,V.H b->b<(sortWorldK enc k V.w lb 0 m u os).heap.size) (X:Nat->Prop) (C:∀b,X b->V.H b),V.Le ⟨sortWorldK enc k V.w lb 0 m u os,V.H,X,E,C⟩:=λm u os E X C b o ⟨hb,O⟩=>by{refine ⟨hb,?_⟩;rw [tM _ _ _ _ _ _ _ _ _ (aG O),Ã (show ¬lb=b from λe=>hb (e▸V.hX _ hx))];exact O};have F:∀m (u:Array (X0 R k V)) os,V.w.heap.size<=(sortWorldK enc k V.w lb 0 m u os).heap.size:=λm u os=>size_sortWorldK_c ..;have hC:CmpLays P g #[] enc k (λx y=>cf x.1.2 y.1.2) lb 0 d.size V.w:=λm os u _ x y=>by{have Q:∀b,V.H b->b<(sortWorldK enc k V.w lb 0 m u os).heap.size:=λb hb=>ĳ (V.hH b hb) (F m u os);have:=(hc (hR x.2.1 (hle m u os Q (λ_=>False) λ_ h=>h.elim)) (hR y.2.1 (hle m u os Q (λ_=>False) λ_ h=>h.elim))).2;refine this.s ?_<;>grind [Hd]};have Vk:SWO (ltOf λ(x y:X0 R k V)=>cf x.1.2 y.1.2):=⟨λx=>hO.irrefl _,λx y z=>hO.2 _ _ _,λx y z=>hO.3 _ _ _⟩;rw [<-B];refine ⟨?_,(AnyQ.slices_SortFunc L k aE zE enc hk (λx=>x.2.2.2) (λx y=>cf x.1.2 y.1.2) Vk g #[] lb 0 c d V.w (λargs w=>iG.run (hc I.2.1 I.2.1).1 args) hC hH D ω).s ?_⟩;{obtain ⟨nm,E,C⟩:=L.f6;exact ⟨_,C,rfl,E⟩};rintro e w' ⟨rfl,A,q,os,hp,hs,rfl⟩;obtain ⟨p1,-,S⟩:=hp;have T:=p1.m B;refine ⟨_,rfl,⟨F _ _ _,λb hb hX=>?_,rfl,rfl,rfl,Qr2 _ _⟩,rfl,(putCells id 0 (flatK enc k A) vs.toArray).toList,A.toList.map λx=>x.1.2,?_,⟨λi p=>?_⟩,?_,?_⟩;{rw [tM _ _ _ _ _ _ _ _ _ hb,Ã (show ¬lb=b from λe=>hX (e▸hx))]};{show (sortWorldK enc k V.w lb 0 q A os).heap[lb]?=_;rw [tM _ _ _ _ _ _ _ _ _ D,Ä rfl,hw,Array.toArray_toList];rfl};{rw [ď,Ww4] at p;refine ⟨enc A[i]!,hk _,?_,λj x hx=>SL enc k hk A vs (by rw [T];exact (row.fP k0)) i p j x hx⟩;rw [Qp0,Qr1,getElem!_pos A i p];exact hR A[i].2.1 (hle q A os _ V.X V.hX)};{have G:∀a:Array (X0 R k V),a.size=l.length->a.extract 0 d.size=a:=λa ha=>by{rw [B,<-ha];simp};rw [G _ T,G _ B] at S;have p4:=S.map λx=>x.1.2;have:d.toList.map (λx=>x.1.2)=l:=List.ext_getElem (by simp [B]) λi E C=>by{rw [Qp0,Qr1,<-getElem!_pos d i ω];exact d1 i C};rwa [this] at p4};{refine Qn4.2 λi j p U K=>?_;rw [ď,Ww4] at p U;have:=hs i j (â _) K ω;rw [Qp0,Qp0,Qr1,Qr1,<-getElem!_pos A i p,<-getElem!_pos A j U];exact Â this}
end Go.Eng
namespace Go.Proofs.Tryz
open Go.Eng Go.Proofs Go.Shelf Go.RowKit Go.Lib Go.Sort
def œ.swo {τ:Type}{c:τ->τ->Int}(h:œ c):SWO λx y=>decide (c x y<0):=
 ⟨λx=>È (h.refl x),λx y z a b=>Ç (Decidable.byContradiction λn=>h.tr _ _ _ n (h.Zq _ _ (Á b)) (Á a)),
  λx y z a b=>È (h.tr _ _ _ (Â a) (Â b))⟩
variable {P:Program} {ρ:Ren} {τ:Type} {R:Ó->Value->τ->Prop} {k g:Nat} {ty:TypeId} {cf:τ->τ->Int}
theorem xN (L:SlLaysF0.n6 P ρ){V:ut}{p:OA}{c:Nat}{fv:un}:aa P (ρ.f 6) #[zF p 0 c,fv] V λr V'=>r=tN #[]/\V'=V:=by refine ⟨?_,(AnyF.slices_SortFunc_none L p c fv V.w).s ?_⟩;{obtain ⟨d,a,b⟩:=L.f6;exact ⟨_,b,rfl,a⟩};rintro e g ⟨rfl,rfl⟩;exact ⟨_,rfl,kq.refl _ _,rfl,rfl⟩
theorem KD (L:SlLaysF0.n6 P ρ)(aE:∀w,(isAgg (ρ.t 24)).run P w=.ok true w)(zE:∀w,(Go.sizeOf (ρ.t 24)).run P w=.ok k w)(hR:∀{V V':ut} {v a},R V v a->V.Le V'->R V' v a)(hS:∀{V:ut} {v a},R V v a->∃xs:pz un,v=.agg xs.toArray/\xs.length=k/\∀x∈xs,x.oneCell'=true)(hO:œ cf)(hc:∀{V:ut} {v w a b},R V v a->R V w b->aa P g #[v,w] V λr _=>r=Ô .i64 (cf a b))(k0:0<k){V:ut}{lb n c:Nat}{vs:pz un}{l:pz τ}(hw:V.w.heap[lb]?=some (.cells vs.toArray ty (0,0)))(hx:V.X lb)(row:ç k R V vs l)(hn:n=l.length)(mN:l.length<1000000000:=by omega):aa P (ρ.f 6) #[zF (some ⟨lb,0,none⟩) n c,.func (.func g) #[] #[]] V λr V'=>r=tN #[]/\∃vs' l',V'.w.heap[lb]?=some (.cells vs'.toArray ty (0,0))/\ç k R V' vs' l'/\l'.Perm l/\l'.Pairwise λx y=>¬cf y x<0:=by by_cases d:l=[];{subst d hn;refine (xN L).s ?_;rintro r V' e ⟨rfl,rfl⟩;exact ⟨rfl,vs,[],hw,row,.refl _,.nil⟩};{exact M4 (R:=R) (cf:=cf) L aE zE hR hS hO.swo hc hw hx row hn d k0 mN}
end Go.Proofs.Tryz
namespace Go.Proofs.Tryz
variable{b n:Nat}{vs:List Value}{l:List L3}{V:Ó}{p:OA}
structure Rb (V:Ó) (n:Nat) (vs:List Value) (l:List L3):Prop where
 row:ç 9 mI V vs l
 len:n=l.length
 mN:l.length<4000
theorem Rb.le {V V':ut}(h:Rb V n vs l)(e:V.Le V'):Rb V' n vs l:=⟨h.row.le λ_ _ g=>mI.le g e,h.len,h.mN⟩
theorem Rb.get (h:Rb V n vs l){k:Nat}(hk:k<l.length):∃(x y:Int)(p:OA)(xb yb:Int)(pb:OA)(xc yc:Int)(pc:OA),((0+k*9)+9<=vs.length/\(vs.drop (0+k*9)).take 9=[Ô .i64 x,Ô .i64 y,dS p,Ô .i64 xb,Ô .i64 yb,dS pb,Ô .i64 xc,Ô .i64 yc,dS pc])/\mI V (hF #[Ô .i64 x,Ô .i64 y,dS p,Ô .i64 xb,Ô .i64 yb,dS pb,Ô .i64 xc,Ô .i64 yc,dS pc]) (l.getD k Jn):=by obtain ⟨xs,-,a,b,c⟩:=h.row.get (d:=Jn) hk φ;obtain ⟨x,y,p,xb,yb,pb,xc,yc,pc,e⟩:=a.shape;have e:=Æ Array.toList (Value.agg.inj e);dsimp only at e;subst e;rw [ą];exact ⟨x,y,p,xb,yb,pb,xc,yc,pc,⟨b,c⟩,a⟩
theorem mI.cells {v:un}{c:L3}(h:mI V v c):∃xs:pz un,v=.agg xs.toArray/\xs.length=9/\∀x∈xs,x.oneCell'=true:=by obtain ⟨_,_,_,_,_,_,_,_,_,rfl⟩:=h.shape;exact ⟨_,rfl,rfl,ĩ.1 rfl⟩
theorem IZ {lb c:Nat}(hw:V.w.heap[lb]?=some (.cells vs.toArray 97 (0,0)))(hx:V.X lb)(h:Rb V n vs l):À 165 #[zF (some ⟨lb,0,none⟩) n c,.func (.func 122) #[] #[]] V λr V'=>r=tN #[]/\∃vs' l',V'.w.heap[lb]?=some (.cells vs'.toArray 97 (0,0))/\Rb V' n vs' l'/\l'.Perm l/\l'.Pairwise λx y=>¬Vf y x<0:=by have mN:=h.mN;refine (KD (R:=mI) (cf:=Vf) Gd aggL sizL mI.le mI.cells T6 LJ φ hw hx h.row h.len).s λr V' b ⟨rfl,vs',l',e,row,pm,a⟩=>⟨rfl,vs',l',e,⟨row,h.len.m pm.length_eq.symm,by rw [pm.length_eq];exact mN⟩,pm,a⟩
theorem zf:À 165 #[zF none 0 0,.func (.func 122) #[] #[]] V λr V'=>r=tN #[]:=
 (xN Gd).s λ_ _ _ h=>h.1
set_option maxHeartbeats 1000000 in
theorem Bc {lb c:Nat}(hw:V.w.heap[lb]?=some (.cells vs.toArray 97 (0,0)))(hx:V.X lb)(h:Rb V n vs l)(hc:n<=c):À 166 #[zF (some ⟨lb,0,none⟩) n c,.func (.func 123) #[] #[]] V λr V'=>∃vs',r=zF (some ⟨lb,0,none⟩) (oH eL l).length c/\V'.w.heap[lb]?=some (.cells vs'.toArray 97 (0,0))/\ç 9 mI V' vs' (oH eL l)/\vs'.length=vs.length:=by
 have mN:=h.mN;have len:=h.len;have a3:=h.row.fP φ;refine nW lb n c vs V _ hw hx ⟨λG V1 l1 U=>?_,λG=>⟨λz V'=>∃k:Nat,z=((k+1:Nat):Int)/\k+1<=n/\oH eL (l.take (k+1))=l.take (k+1),λz=>n-z.toNat,⟨1,σ,0,rfl,by have:=Â G;omega,Jh (by rw [é];omega)⟩,?_⟩⟩
 ·have G:=Á G;have e:=Jh (e:=eL) (l:=l);rw [e,<-len];exact ⟨vs,rfl,U,h.row.le λ_ _ g=>mI.le g l1,rfl⟩
 have G:=Â G;rintro z V2 W ⟨k,rfl,hk,s⟩;have Q:=h.le W;refine ⟨rfl,λb=>?_,λb V9 l9 Y=>?_⟩;rotate_left
 ·have b:=Â b;have e:l.take (k+1)=l:=Qv3 ω;rw [e] at s;rw [s,<-len];exact ⟨vs,rfl,Y,h.row.le λ_ _ g=>mI.le g (W.m l9),rfl⟩
 have b:=Á b;have w1:i64.wrap (((k+1:Nat):Int)-1)=(k:Int):=by rw [au ω];omega
 have w2:i64.wrap (((k+1:Nat):Int)+1)=((k+1+1:Nat):Int):=by rw [au ω];rfl
 rw [w1,w2,Ý,Ý];have ⟨H,I,J,K,L,M,N,O,f,S,R⟩:=Q.get (k:=k+1) ω;obtain ⟨Z,y2,p2,x,y,A,B,C,D,g2,T⟩:=Q.get (k:=k) ω;refine ⟨⟨ω,b⟩,H,I,J,K,L,M,N,O,f,S,⟨ω,ω⟩,Z,y2,p2,x,y,A,B,C,D,g2,λV3 l3=>(Sg (R.le l3) (T.le l3)).s ?_⟩;rintro r V4 l4 rfl;have step:=ru (e:=eL) (d:=Jn) (l:=l) (k:=k);refine ⟨_,rfl,λhe=>⟨⟨ω,ω⟩,?_⟩,λhe=>⟨((k+1+1:Nat):Int),by dsimp only;omega,σ,k+1,rfl,ω,?_⟩⟩;rotate_left
 ·have u:=he;rw [step,s,u];show l.take (k+1)++[_]=_;have P:k+1<l.length:=ω;rw [show l.getD (k+1) Jn=l[k+1] by rw [ġ,ô P];rfl,Qj6 P]
 have u:=he;have so:∀{m:Nat},m<c->HP 0 c m 9=m*9:=λhm=>by unfold HP;rw [Ã ω,ą]
 refine ⟨λz V'=>∃(q t:Nat)(m:pz L3),z.1=(q:Int)/\z.2.1=((t+1:Nat):Int)/\q<=k+1+t/\k+1+t+1<=n/\Rb V' n z.2.2 m/\z.2.2.length=vs.length/\(∀i,k+1+t<=i->m.getD i Jn=l.getD i Jn)/\m.take q=oH eL (l.take (k+1+t+1)),λz=>n-z.2.1.toNat,
  ⟨(((k+1:Nat):Int),1,vs),σ,k+1,0,l,rfl,rfl,ω,ω,h.le (W.m (l3.m l4)),rfl,λi _=>rfl,?_⟩,?_⟩
 ·rw [Ę,step,u,Ä rfl,Ć,s]
 rintro ⟨zq,zt,us⟩ V5 l5 ⟨q,t,m,e1,e2,hq,ht,v,WI,hm,j⟩;dsimp only at e1 e2 v WI;subst e1 e2;dsimp only;have ml:=v.len;have a4:=v.row.fP φ;refine ⟨rfl,λa=>?_,λa=>?_⟩
 ·have a:=Á a;have w3:i64.wrap (((t+1:Nat):Int)-1)=(t:Int):=by{rw [au ω];omega};have w4:i64.wrap (((t+1:Nat):Int)+1)=((t+1+1:Nat):Int):=by{rw [au ω];rfl};have w5:i64.wrap ((q:Int)+1)=((q+1:Nat):Int):=by{rw [au ω];rfl};rw [w3,w4,w5,Ý,Ý,Ý,so ω];have ⟨H,I,J,K,L,M,N,O,f,S,R⟩:=v.get (k:=k+1+(t+1)) ω;obtain ⟨Z,y2,p2,x,y,A,B,C,D,g2,T⟩:=v.get (k:=k+1+t) ω;have a1:(k+1)*9+(t+1)*9=0+(k+1+(t+1))*9:=ω;have a2:(k+1)*9+t*9=0+(k+1+t)*9:=ω;rw [a1,a2];rw [hm _ ω] at R;rw [hm _ ω] at T;refine ⟨⟨ω,a⟩,H,I,J,K,L,M,N,O,f,S,⟨ω,ω⟩,Z,y2,p2,x,y,A,B,C,D,g2,λV6 l6=>(Sg (R.le l6) (T.le l6)).s ?_⟩;rintro r V7 l7 rfl;have YK:=l6.m l7;have p:=ru (e:=eL) (d:=Jn) (l:=l) (k:=k+1+t);refine ⟨_,rfl,λhn=>⟨⟨ω,a⟩,H,I,J,K,L,M,N,O,f,S,⟨ω,ω⟩,ω,(((q+1:Nat):Int),((t+1+1:Nat):Int),_),by dsimp only;omega,σ,q+1,t+1,m.set q (l.getD (k+1+(t+1)) Jn),rfl,rfl,ω,ω,?_,?_,λi P=>?_,?_⟩,λhn=>⟨(((q:Nat):Int),((t+1+1:Nat):Int),us),by dsimp only;omega,σ,q,t+1,m,rfl,rfl,ω,ω,v.le YK,WI,λi P=>hm i ω,?_⟩⟩;{refine ⟨?_,by rw [Qf7];exact ml,by rw [Qf7];exact v.mN⟩;have:=(v.le YK).row.put (i:=q) ω φ (xs:=[Ô .i64 H,Ô .i64 I,dS J,Ô .i64 K,Ô .i64 L,dS M,Ô .i64 N,Ô .i64 O,dS f]) rfl (R.le YK);dsimp only;rw [ą];exact this};{exact (yR (vs:=us) (xs:=[Ô .i64 H,Ô .i64 I,dS J,Ô .i64 K,Ô .i64 L,dS M,Ô .i64 N,Ô .i64 O,dS f]) (o:=0+q*9) (by show 0+q*9+9<=_;omega)).m WI};{rw [ġ,Qm1 ω,<-ġ];exact hm i ω};{have E:eL (l.getD (k+1+(t+1)) Jn) (l.getD (k+1+t) Jn)=false:=by{simpa using hn};have F:eL (l.getD (k+1+t+1) Jn) (l.getD (k+1+t) Jn)=false:=E;have P:q<m.length:=ω;rw [show k+1+(t+1)+1=k+1+t+2 from rfl,p,F,<-j,Ã φ];rw [Qs3,ŀ,ô P,show (some m[q]).toList=[m[q]] from rfl];rw [List.set_append_right _ _ (by rw [é];omega),é,ģ ω,Nat.sub_self];rfl};{have E:eL (l.getD (k+1+(t+1)) Jn) (l.getD (k+1+t) Jn)=true:=by{simpa using hn};have F:eL (l.getD (k+1+t+1) Jn) (l.getD (k+1+t) Jn)=true:=E;rw [show k+1+(t+1)+1=k+1+t+2 from rfl,p,F,Ä rfl,Ć,j]}
 ·have a:=Â a;have hl:l.take (k+1+t+1)=l:=Qv3 ω;rw [hl] at j;have a5:q<n:=by{have:=Wg (e:=eL) (d:=Jn) (l:=l) (k:=k) ω u;rw [<-j,é] at this;omega};rw [Ý,so ω];have hz:q*9+(n-q)*9=n*9:=by{rw [<-đ];congr 1;omega};rw [hz];refine ⟨⟨ω,ω⟩,ω,⟨ω,ω⟩,λV8 l8 a0=>⟨_,?_,a0,?_,?_⟩⟩;{rw [<-j,é,ģ ω]};{rw [<-j,ė];exact (v.row.le λ_ _ g=>mI.le g l8).V_ ω φ};{simp only [í,é,Ĵ,rT,List.length_flatten,List.map_replicate,List.sum_replicate_nat,Ą,į];omega}
theorem tB:À 166 #[zF none 0 0,.func (.func 123) #[] #[]] V λr V'=>r=zF none 0 0:=
 kO V _ ⟨λ_ a b=>rfl,λh=>Å (Â h) φ⟩
def IB (m:Nat):Prop:=(m=0->∀{V:Ó},À 166 #[.slice none 0 0,.func (.func 123) #[] #[]] V λr V'=>r=.slice none 0 0) /\
 ∀{V:Ó} {lb n c:Nat} {vs:List Value} {l:List L3},l.length=m->V.w.heap[lb]?=some (.cells vs.toArray 97 (0,0))->V.X lb->Rb V n vs l->n<=c ->
 À 166 #[.slice (some ⟨lb,0,none⟩) n c,.func (.func 123) #[] #[]] V λr V'=>∃vs',r=.slice (some ⟨lb,0,none⟩) (oH eL l).length c/\V'.w.heap[lb]?=some (.cells vs'.toArray 97 (0,0))/\ç 9 mI V' vs' (oH eL l)/\vs'.length=vs.length
theorem Ym (m:Nat):IB m:=⟨λ_=>tB,λ_ hw a h b=>Bc hw a h b⟩
def Gu (m:Nat):Prop:=∀{V:Ó} {lb n c:Nat} {vs:List Value} {l:List L3},l.length=m->V.w.heap[lb]?=some (.cells vs.toArray 97 (0,0))->V.X lb->Rb V n vs l ->
 À 165 #[.slice (some ⟨lb,0,none⟩) n c,.func (.func 122) #[] #[]] V λr V'=>r=.tuple #[]/\∃vs' l',V'.w.heap[lb]?=some (.cells vs'.toArray 97 (0,0))/\Rb V' n vs' l'/\l'.Perm l/\l'.Pairwise λx y=>¬Vf y x<0
theorem UJ (m:Nat):Gu m:=λ_ hw a h=>IZ hw a h
theorem Tp {P:Prop}(h:P->V.H b):V.Le (V.shut.aW P b):=λx o g=>⟨λa=>by
 rcases a with a|a
 ·exact g.1 a
 ·rw [a.2.1] at g;exact g.1 (h a.1),g.2⟩
theorem aa.monoB {f:FuncId}{args:Array un}{R R':un->ut->Prop}(h:À f args V R)(hR:∀r V',V.Le V'->(∀b,V.H b->V'.H b)->R r V'->R' r V'):À f args V R':=
 ⟨h.1,h.2.s λ_ c ⟨r,he,a,d⟩=>⟨r,he,a,hR r _ (V.Tt c a) (λ_ hb=>hb) d⟩⟩
theorem Ml {V':ut}{P:Prop}(h:V.Le (V'.aW True b)):V.Le (V'.aW P b):=λx o a=>
 ⟨λc=>(h x o a).1 (c.imp id λe=>⟨trivial,e.2⟩),(h x o a).2⟩
theorem P6 {V':ut}{P:Prop}(h:V.Le V')(n:¬P):V.Le (V'.aW P b):=λx o a=>
 ⟨λc=>(h x o a).1 (c.elim id λe=>Å e.1 n),(h x o a).2⟩
def bJ (l:L3):L3:=if l.1<0\/l.1=0/\l.2.1<0 then Õ l else l
def Tr.eU:Tr->List L3
 | .leaf _=>[]
 | .node l a b=>l::(a.eU++b.eU)
theorem vq:∀t:Tr,t.eU.length=t.size
 | .leaf _=>rfl
 | .node _ a b=>by simp only [Tr.eU,Ą,í,vq a,vq b,Tr.size]
theorem rH {p:L3->Prop}:∀{t:Tr},t.dV p->∀x∈t.eU,p x
 | .leaf _,_,x,h=>by cases h
 | .node l a b,⟨h1,h2,h3⟩,x,h=>by
  rcases å.1 h with rfl|h
  ·exact h1
  ·rcases õ.1 h with h|h
   ·exact rH h2 x h
   ·exact rH h3 x h
theorem Bd.rev {l:L3}(h:Bd l):Bd (Õ l):=by obtain ⟨a,b,c⟩:=h;unfold Bd Õ;simp only [ş];exact ⟨a,b,c⟩
theorem Bd.can {l:L3}(h:Bd l):Bd (bJ l):=by unfold bJ;split;{exact h.rev};{exact h}
theorem Bd.ja {l:L3}(h:Bd l):iH 1000 l:=⟨h.sz.1,h.sz.2.1,h.sz.2.2⟩
theorem NW {l:L3}:(Qv [((l.1:Rat)).num.sign,((l.2.1:Rat)).num.sign]<0)↔(l.1<0\/l.1=0/\l.2.1<0):=by
 rw [Qf6,Qf6];simp only [Qv]
 rcases Qh0 l.1 0 with h|h|h<;>rcases Qh0 l.2.1 0 with h'|h'|h' <;>
  simp [Qd2,Qf8,h,h']<;>omega
theorem I3 {v:un}{l:L3}(h:mI V v l):À 164 #[v] V λr V'=>∃w b,r=tN #[w,dB b]/\mI V' w (bJ l):=by have f:=h;obtain ⟨⟨C,D,p,E,F,q,G,H,r,rfl,o,s,I⟩,hb⟩:=h;obtain ⟨s1,s2,s3⟩:=hb.sz;refine zS V _ λK c=>(pX (o.le c) s1).s ?_;rintro r V2 j rfl;refine ⟨_,rfl,λM k=>(pX (s.le (c.m (j.m k))) s2).s ?_⟩;rintro r N t rfl;refine ⟨_,rfl,λO u P d=>(I1 (l:=[((l.1:Rat)).num.sign,((l.2.1:Rat)).num.sign]) rfl (λi v x=>⟨_,rfl,by rw [add_zero'];exact dL (xs:=WK [((l.1:Rat)).num.sign,((l.2.1:Rat)).num.sign]) d x⟩) ψ).s ?_⟩;rintro r Q y rfl;have m:=c.m (j.m (k.m (t.m (u.m y))));refine ⟨_,rfl,λJ=>⟨λa R z=>(jj (L:=l) ((f.le (m.m z)).1) hb.ja φ).s ?_,λa S e=>?_⟩⟩;{have a:=NW.1 (Á a);rintro r A T g;have n:mI A r (Õ l):=⟨g,hb.rev⟩;obtain ⟨_,_,_,_,_,_,_,_,_,rfl⟩:=n.shape;refine qyJ ⟨rfl,λU B=>⟨_,_,rfl,?_⟩⟩;unfold bJ;rw [Ä a];exact n.le B};{have a:=Â a;refine ⟨_,_,rfl,?_⟩;unfold bJ;rw [Ã λh=>a (NW.2 h)];exact f.le (m.m e)}
theorem one9 {a b:Int}{c d:Int}{q:OA}{e f:Int}{r:OA}:∀v∈([Ô .i64 a,Ô .i64 b,dS p,Ô .i64 c,Ô .i64 d,dS q,Ô .i64 e,Ô .i64 f,dS r]:pz un),v.oneCell'=true:=by intro v hm;simp only [å,Ě,Ì] at hm;rcases hm with rfl|rfl|rfl|rfl|rfl|rfl|rfl|rfl|rfl<;>rfl
def XN:Tr->List L3
 | .leaf _=>[]
 | .node l _ _=>[bJ l]
theorem GQ {V:ut}{t:Tr}{ob lb n c:Nat}{l:pz L3}(h:RT V p t)(ha:t.dV Bd)(hw:V.w.heap[ob]?=some (.cells #[zF (mA lb c) n c] 193 (0,0)))(hx:V.X ob)(hv:vs≠[]->V.w.heap[lb]?=some (.cells vs.toArray 97 (0,0)))(hxv:vs≠[]->V.X lb)(hne:vs≠[]->ob≠lb)(hg:GR 9 mI V n c vs l)(hp:vs≠[]->0<n)(hn:n<=1000000:=by omega):À 163 #[dS p,dS (some ⟨ob,0,none⟩)] V λr V'=>∃(bm:Nat)(vm:pz un)(n' c':Nat),(vm≠[]->V'.w.heap[bm]?=some (.cells vm.toArray 97 (0,0)))/\(vm≠[]->V.w.heap.size<=bm\/(vs≠[]/\bm=lb))/\r=tN #[]/\V'.w.heap[ob]?=some (.cells #[zF (mA bm c') n' c'] 193 (0,0))/\GR 9 mI (V'.aW (vm≠[]) bm) n' c' vm (l++XN t)/\(vm≠[]->0<n'):=by refine xR p ob lb n c vs V _ hw hx hv hxv hne λR e=>(ch (h.le e)).s ?_;rintro r V2 f rfl;have x:∀{A B:Prop},A\/B\/False->A\/B:=λh=>h.imp id λh=>h.elim id False.elim;refine ⟨_,rfl,λk=>?_,λk S m hle o q s=>⟨m,vs,n,c,q,λh=>x (s h),rfl,o,?_,hp⟩⟩;{(cases t with|leaf i=>{cases k}|node ln a b=>{obtain ⟨y,D,E,F,G,H,I,J,K,L,pl,M,i,rfl,hb,u,-,-⟩:=h.le (e.m f);have d:∀j v,([Ô .i64 D,Ô .i64 E,dS F,Ô .i64 G,Ô .i64 H,dS I,Ô .i64 J,Ô .i64 K,dS L,dS pl,dS M,dB i]:pz un)[j]?=some v->V2.at ((⟨y,0,none⟩:Addr).add j) v:=by{intro j v hv;rw [add_zero'];exact dL (xs:=[_,_,_,_,_,_,_,_,_,_,_,_]) hb hv};refine ⟨rfl,rfl,_,_,_,_,_,_,_,_,_,⟨y,0,none⟩,rfl,d 0 _ rfl,d 1 _ rfl,d 2 _ rfl,d 3 _ rfl,d 4 _ rfl,d 5 _ rfl,d 6 _ rfl,d 7 _ rfl,d 8 _ rfl,λT z=>(I3 (l:=ln) ⟨u.le z,ha.1⟩).s ?_⟩;rintro r N O ⟨w,b,rfl,C⟩;obtain ⟨_,_,_,_,_,_,_,_,_,rfl⟩:=C.shape;refine ⟨_,_,_,_,_,_,_,_,_,_,rfl,ω,hg.le,hg.cap,rfl,one9,λsp c' P Q U m hle o q s=>⟨m,_,n+1,c',q,λh=>x (s h),rfl,o,?_,λ_=>Nat.succ_pos n⟩⟩;exact ((hg.s (V':=N) λ_ _ g=>mI.le g (e.m (f.m (z.m O)))).snoc rfl C φ P Q).s λ_ _ g=>mI.le g hle})};{(cases t with|node ln a b=>{cases k}|leaf i=>{show GR 9 mI _ n c vs (l++[]);rw [Ć];exact hg.s λ_ _ g=>mI.le g ((e.m f).m hle)})}
def WV:List Tr->List L3
 | []=>[]
 | t::r=>t.eU.map bJ++WV r
theorem Tw (ts:pz Tr)(x:Tr):WV (ts++[x]).reverse=x.eU.map bJ++WV ts.reverse:=by rw [List.reverse_append];rfl
theorem wQ {V:ut}{t:Tr}{ob lb:Nat}(h:RT V p t)(ha:t.dV Bd)(hs:t.size<=400000)(hw:V.w.heap[ob]?=some (.cells #[zF (mA lb 0) 0 0] 193 (0,0)))(hx:V.X ob):À 162 #[dS p,.func (.func 163) #[] #[dS (some ⟨ob,0,none⟩)]] V λr V'=>∃(bm:Nat)(vm:pz un)(n' c':Nat),(vm≠[]->V'.w.heap[bm]?=some (.cells vm.toArray 97 (0,0)))/\(vm≠[]->V.w.heap.size<=bm)/\r=tN #[]/\V'.w.heap[ob]?=some (.cells #[zF (mA bm c') n' c'] 193 (0,0))/\GR 9 mI (V'.aW (vm≠[]) bm) n' c' vm (t.eU.map bJ)/\(vm≠[]->0<n'):=by
 refine rX p ob lb 0 0 [] V _ hw hx (λh=>Å rfl h) (λh=>Å rfl h) (λh=>Å rfl h) ⟨λz k V'=>∃(d:pz Tr)(o:pz L3),z.1=d.length/\z.1<=z.2.1/\z.2.1<=z.2.2.1.length/\Ze V' z.2.2.1 d/\(∀x∈d,x.dV Bd)/\GR 9 mI V' z.2.2.2.1 z.2.2.2.2.1 z.2.2.2.2.2 o/\(z.2.2.2.2.2≠[]->0<z.2.2.2.1)/\o++WV d.reverse=t.eU.map bJ/\k=Lr d/\k<=2*t.size+1,
  ⟨(1,1,[dS p],0,0,[]),2*t.size+1,⟨by and_intros<;>first|rfl|trivial|omega,[t],[],rfl,Ù _,Ù _,?_,λx hx=>by rw [ö.1 hx];exact ha,GR.nil,(λh=>Å rfl h),by simp [WV],by simp [Lr],Ù _⟩⟩,?_⟩
 ·intro i x hx
  match i,hx with
  | 0,hx=>cases hx;exact ⟨p,rfl,h⟩
  | n+1,hx=>cases hx
 ·rintro ⟨n,c,vs,n',c',us⟩ m V1 l1 ⟨d,o,h1,W,Y,f,F,K,e,L,h6,h7⟩;dsimp only at h1 W Y f K e ⊢;have a0:=W3 d
  have a6:o.length<=1000000:=by have:=Æ List.length L;rw [í,ď,vq] at this;omega
  have gl:=K.len;refine ⟨θ,λG=>?_,λG V6 bk hle M N e3=>?_⟩
  ·have G:0<n:=by simpa using G
   have w1:i64.wrap ((n:Int)-1)=((n-1:Nat):Int):=by rw [au ω];omega
   rw [w1];simp only [Ý,Ē];have A:n-1<d.length:=ω
   have ⟨q,P,j⟩:=f (n-1) d[n-1] (ô A)
   have B:d=d.take (n-1)++[d[n-1]]:=by rw [Qj6 A,Qv3 ω]
   have s:=F _ (ù A);generalize d[n-1]=x at j B s
   have M:o++(x.eU.map bJ++WV (d.take (n-1)).reverse)=t.eU.map bJ:=by rw [<-Tw,<-B];exact L
   have N:Lr d=Lr (d.take (n-1))+(2*x.size+1):=by
    conv=>lhs;rw [B]
    rw [Cj];simp [Lr]
   have H:∀y∈d.take (n-1),y.dV Bd:=λy u=>F y (Qn5 u);refine ⟨⟨ω,ω⟩,W,q,P,⟨ω,ω⟩,λV2 Q Yi I f1 f2 f3 f4 f5=>(GQ (V:=V2.aq [Yi,vb us V2.w.heap.size I]) (lb:=I) (l:=o) (RT.le (V:=V1) (V':=V2.aq _) (λb o h=>Q b o h) j) s f1 ⟨ψ,f2⟩ f3 (λh=>⟨by simp [pJ h],f4 h⟩) f5 (K.s (V':=V2.aq _) λ_ _ g=>mI.le g λb o h=>Q b o h) e).s ?_⟩;rintro r V3 l3 ⟨bm,vm,R,S,a1,Z,rfl,a3,a4,a5⟩;refine ⟨bm,vm,a1,Z,rfl,R,S,a3,λV4 l4=>?_⟩;have hZ:V2.Le V3:=λb o h=>l3 b o h;have D:=Q.m ((vo (V':=V2) hZ (Ó.Le.refl V2) λh=>(Z h).imp id λh'=>by rw [h'.2];exact f4 h'.1).m l4);refine (ch (j.le D)).s ?_;rintro r V5 E rfl;have g5:=a4.s λ_ _ g=>mI.le g λb o h=>E b o (l4 b o h);refine ⟨_,rfl,λC=>?_,λC=>?_⟩
   ·have C:x.qv=false:=by{simpa using C};(cases x with|leaf i=>{cases C}|node ln a b=>{obtain ⟨bb,x1,x2,x3,y1,y2,y3,z1,z2,z3,pl,pr,i,rfl,hb,hl,T,U⟩:=j;have J:=(D.m E) _ _ hb;simp only [Tr.size] at N;refine ⟨rfl,rfl,pr,zI J 10 rfl,rfl,rfl,pl,zI J 9 rfl,ω,ω,ω,rfl,by intro v hv;simp at hv;rcases hv with rfl|rfl<;>rfl,λsp c' k1 k2=>?_⟩;(refine ⟨(n-1+2,c',_,R,S,vm),Lr (d.take (n-1))+(2*a.size+1)+(2*b.size+1),ω,⟨by and_intros<;>first|rfl|trivial,d.take (n-1)++[b,a],o++XN (.node ln a b),?_,k1,?_,(f.le (D.m E)).Xj ω ω (U.le (D.m E)) (T.le (D.m E)),λy u=>?_,g5,a5,?_,?_,ω⟩⟩);{simp;omega};{dsimp only;simp only [í,é,Ą,į];omega};{rcases õ.1 u with u|u;{exact H y u};{simp only [å,Ě,Ì] at u;rcases u with rfl|rfl;{exact s.2.2};{exact s.2.1}}};{rw [<-M];have:WV (d.take (n-1)++[b,a]).reverse=a.eU.map bJ++(b.eU.map bJ++WV (d.take (n-1)).reverse):=by{rw [List.reverse_append];rfl};rw [this];simp only [Tr.eU,XN,Ļ,ŝ,ė,Qc0,ō]};{rw [Cj];simp [Lr];omega}})
   ·have C:x.qv=true:=by{simpa using C};(cases x with|node ln a b=>{cases C}|leaf i=>{simp only [Tr.size] at N;(refine ⟨(n-1,c,vs,R,S,vm),Lr (d.take (n-1)),ω,⟨by and_intros<;>first|rfl|trivial,d.take (n-1),o,?_,by dsimp only;omega,Y,λi t O=>?_,H,by simpa [XN] using g5,a5,by simpa [Tr.eU] using M,rfl,ω⟩⟩);{simp;omega};{rw [ğ] at O;split at O;{exact (f.le (D.m E)) i t O};{cases O}}})
  ·have G:n=0:=by{simpa using G};have:d=[]:=ĕ.1 ω;subst this;simp only [List.reverse_nil,WV,Ć] at L;rw [<-L];refine ⟨bk,us,n',c',N,λh=>?_,rfl,M,K.s λ_ _ g=>mI.le g hle,e⟩;rcases e3 h with h|h|h;{exact h};{exact Å rfl h.1};{exact h.elim}
def YX (l m:List L3):Prop:=m.Perm l/\m.Pairwise λx y=>¬Vf y x<0
theorem I0 {t:Tr}(h:RT V p t)(ha:t.dV Bd)(hs:t.size<4000)(sl:Gu t.eU.length)(cl:IB t.eU.length):À 109 #[dS p] V λr V'=>∃q n c m,r=zF q n c/\bP 9 mI V' q n (oH eL m)/\YX (t.eU.map bJ) m:=by refine C9 V _ ⟨λz _=>z=(0,0,[]),⟨(0,0,[]),σ,rfl⟩,?_⟩;rintro z V1 M rfl;dsimp only;refine ⟨rfl,λV2 N O B P Q g3 g4 g5=>(wQ (V:=V2.aq [O,vb [] V2.w.heap.size B]) (lb:=B) (RT.le (V:=V) (V':=V2.aq _) (λb o h=>N b o (M b o h)) h) ha ω P ⟨ψ,Q⟩).s ?_⟩;rintro r V3 l3 ⟨R,v,n,c,S,T,rfl,U,u,W⟩;refine ⟨R,v,S,λh=>.inl (T h),rfl,n,c,U,λj=>?_,λj C X D E F=>?_⟩;{subst j;have Y:=u.cap;have hle:=u.le;have hlen:=u.len;have Z:c=0:=by{simp at Y;omega};subst Z;have n0:n=0:=ω;subst n0;have i:=ĕ.1 hlen.symm;refine ⟨rfl,λV4 l4=>zf.s ?_⟩;rintro r V5 l5 rfl;refine ⟨rfl,λV6 l6 a0 E F=>(cl.1 (by rw [<-ď (f:=bJ),i];rfl)).s ?_⟩;rintro r V7 l7 rfl;refine ⟨0,[],λh=>Å rfl h,λh=>Å rfl h,none,0,0,rfl,λV8 l8 G H=>⟨_,_,_,[],rfl,bP.nil,?_⟩⟩;rw [i];exact ⟨.refl _,List.Pairwise.nil⟩};{have a:=u.s λ_ _ g=>mI.le g λb o h=>X b o h;have hlen:=a.len;have x:(t.eU.map bJ).length<4000:=by{rw [ď,vq];exact hs};have I:=a.cap;have hle:=a.le;have a6:=W j;have y:c≠0:=ω;have A:∀b,mA b c=some ⟨b,0,none⟩:=λb=>by{unfold mA;rw [Ã y]};rw [A];refine (sl (V:=C.aq [vb v C.w.heap.size D]) (lb:=D) (vs:=v) (l:=t.eU.map bJ) (ď ..) (E j) ⟨by simp [pJ j],F j⟩ ⟨a.row.le λ_ _ g=>mI.le g λb o h=>h,hlen,x⟩).s ?_;rintro r fW a7 ⟨rfl,d,m,H,J,pm,pw⟩;have K:=pm.length_eq;have k:d≠[]:=λe=>by{have:=J.row.fP φ;rw [e,K,<-hlen] at this;simp at this;omega};refine ⟨rfl,j,d,k,H,λL bw s f1 f2=>?_⟩;rw [A];refine aa.monoB (cl.2 (V:=L.aq [vb d L.w.heap.size s]) (lb:=s) (vs:=d) (l:=m) (K.m (ď ..)) (f1 k) ⟨by simp [pJ k],f2 k⟩ (J.le λb o h=>bw b o h) hle) ?_;rintro r iD bY hH ⟨ws,rfl,e4,row,wl⟩;have hk:=Jg (e:=eL) (l:=m);refine ⟨s,ws,λ_=>e4,λ_=>.inr ⟨k,rfl⟩,some ⟨s,0,none⟩,(oH eL m).length,c,by rw [A],λku ct Pf f3=>⟨_,_,_,m,rfl,?_,pm,pw⟩⟩;exact bP.bM f3 (row.le λ_ _ g=>mI.le g ((Tp λ_=>hH s (f2 k)).m ct)) φ}
end Go.Proofs.Tryz
namespace Go.Proofs.Tryz.aw
variable{q:Rat}
def nv (l:L3)(v:V2):Rat:=(l.1:Rat)*v.1+(l.2.1:Rat)*v.2
def aR (l:L3):V2:=((l.2.1:Rat),-(l.1:Rat))
theorem TU (l:L3)(v:V2):nv l v=cr (aR l) v:=by unfold nv cr aR;grind
def QM (l:L3)(p v:V2):Int:=if (ar l p.1 p.2).num.sign=0 then (nv l v).num.sign else (ar l p.1 p.2).num.sign
def C8:Tr->V2->V2->Bool×Bool
 | .leaf i,_,_=>(i,true)
 | .node l a b,p,v=>if QM l p v=1 then C8 a p v else if QM l p v=-1 then C8 b p v else (false,false)
theorem UE:q.num.sign=-1↔q<0:=by rw [Ww8,<-Int.not_le,<-Rat.not_le,Wy3]
theorem sg_pos:q.num.sign=1↔q>0:=by have h:=@UE (-q);grind [Rat.neg_num]
theorem iT:q.num.sign=0↔q=0:=by rw [Qm6,Ŏ]
theorem jN (l:L3)(p v:V2)(s:Rat):ar l (p.1+s*v.1) (p.2+s*v.2)=ar l p.1 p.2+s*nv l v:=by unfold ar nv;grind
def Hr (p v:V2)(s:Rat)(l:L3):Rat:=
 if nv l v=0\/ar l p.1 p.2=0 then s
 else if -(ar l p.1 p.2*(nv l v)⁻¹)>0/\-(ar l p.1 p.2*(nv l v)⁻¹)*(1/2)<s then -(ar l p.1 p.2*(nv l v)⁻¹)*(1/2) else s
theorem inv_mul {c:Rat}(h:c≠0)(a:Rat):a*c⁻¹*c=a:=by rw [Rat.mul_assoc,Rat.inv_mul_cancel _ h,Rat.mul_one]
def half (u:V2):Int:=if u.2.num.sign>0\/u.2.num.sign=0/\u.1.num.sign>0 then 1 else if u.2.num.sign<0\/u.1.num.sign<0 then 2 else 0
def kQ (u v:V2):Int:=if half u<half v then -1 else if half u>half v then 1 else -(cr u v).num.sign
theorem sU:q.num.sign>0↔q>0:=by
 have:=Wy3 (q:=-q);rw [Qt3] at this;rw [gt_iff_lt,Int.sign_pos_iff];have a:(0<=-q)↔¬q>0:=by constructor<;>intro h<;>grind
 rw [a] at this;by_cases h:q>0
 ·exact ⟨λ_=>h,λ_=>by
   have:¬0<=-q.num:=λg=>this.1 g h;omega⟩
 grind
theorem OQ:q.num.sign<0↔q<0:=by have:=@sU (-q);grind [Rat.neg_num]
theorem eV (u:V2):half u=1/\up u\/half u=2/\dn u\/half u=0/\u.1=0/\u.2=0:=by unfold half up dn;split;{rename_i h;rw [sU,sU,iT] at h;exact .inl ⟨rfl,h⟩};{rename_i h;rw [sU,sU,iT] at h;split;{rename_i a;rw [OQ,OQ] at a;exact .inr (.inl ⟨rfl,χ⟩)};{rename_i a;rw [OQ,OQ] at a;exact .inr (.inr ⟨rfl,χ,χ⟩)}}
theorem Gy {u v:V2}:kQ u v<0↔half u<half v\/half u=half v/\cr u v>0:=by have:=@sU (cr u v);unfold kQ;grind
theorem IH {u v:V2}:kQ u v=0↔half u=half v/\cr u v=0:=by have:=@iT (cr u v);grind [kQ]
theorem Rv (u v:V2):kQ u v<0\/kQ u v=0\/kQ v u<0:=by rw [Gy,IH,Gy];grind [N0]
theorem Gx (u v:V2)(h:kQ u v<0):¬kQ v u<0:=by grind [Gy,N0]
theorem Wh {a b d:V2}(hab:half a=half b)(hbd:half b=half d)(h1:cr a b<=0)(h2:cr b d<=0):cr a d<=0:=by by_cases h:cr a d<=0;{exact h};exfalso;have c:cr a d>0:=χ;have p:=jac2 a d b;rcases eV b with ⟨e,hb⟩|⟨e,hb⟩|⟨e,hb⟩;{have g:up a:=by{(rcases eV a with ⟨f,h⟩|⟨f,h⟩|⟨f,h⟩<;>first|exact h|omega)};have i:up d:=by{(rcases eV d with ⟨f,h⟩|⟨f,h⟩|⟨f,h⟩<;>first|exact h|omega)};unfold up at g hb i;have m:=mn (show -(cr a b)≥0 by grind) (show d.2≥0 by grind);have n:=mn (show -(cr b d)≥0 by grind) (show a.2≥0 by grind);have o:=mn (show cr a d≥0 by grind) (show b.2≥0 by grind);have j:cr a d*b.2=0:=χ;have k:b.2=0:=by{rcases Qh3.1 j with h|h<;>grind};have l:b.1>0:=χ;have d2:d.2=0:=by{by_cases q:d.2>0;{have:=mp l q;unfold cr at h2;rw [k] at h2;grind};{grind}};have:=mn (show a.2≥0 by grind) (show d.1≥0 by grind);unfold cr at c;rw [d2] at c;grind};{have g:dn a:=by{(rcases eV a with ⟨f,h⟩|⟨f,h⟩|⟨f,h⟩<;>first|exact h|omega)};have i:dn d:=by{(rcases eV d with ⟨f,h⟩|⟨f,h⟩|⟨f,h⟩<;>first|exact h|omega)};unfold dn at g hb i;have m:=mn (show -(cr a b)≥0 by grind) (show -d.2≥0 by grind);have n:=mn (show -(cr b d)≥0 by grind) (show -a.2≥0 by grind);have o:=mn (show cr a d≥0 by grind) (show -b.2≥0 by grind);have j:cr a d*b.2=0:=χ;have k:b.2=0:=by{rcases Qh3.1 j with h|h<;>grind};have l:-b.1>0:=χ;have d2:d.2=0:=by{by_cases q:-d.2>0;{have:=mp l q;unfold cr at h2;rw [k] at h2;grind};{grind}};have:=mn (show -a.2≥0 by grind) (show -d.1≥0 by grind);unfold cr at c;rw [d2] at c;grind};grind [eV]
theorem Zn {u v:V2}:¬kQ u v<0↔half v<half u\/half u=half v/\cr u v<=0:=by rw [Gy];grind
theorem Zo (a b d:V2)(h:¬kQ a b<0)(h':¬kQ b d<0):¬kQ a d<0:=by rw [Zn] at *;grind [Wh]
theorem Rw {u v:V2}(hu:nz u)(h:kQ u v=0):∃c:Rat,c>0/\u=(c*v.1,c*v.2):=by
 rw [IH] at h;obtain ⟨e,c⟩:=h;have fin:∀k:Rat,k>0->u.1=k*v.1->u.2=k*v.2->∃c:Rat,c>0/\u=(c*v.1,c*v.2):=λk a b g=>⟨k,a,Wj4 b g⟩
 have pos:∀x y:Rat,y≠0->x*y>0->x*y⁻¹>0:=λx y j h=>by have e:=inv_mul j x;generalize x*y⁻¹=t at *;have o:t*(y*y)=x*y:=χ;have:=sq_pos (u:=(y,0)) (.inl j);unfold dt at this;by_cases q:t>0;{exact q};{have:=mn (show -t≥0 by grind) (show y*y≥0 by grind);grind}
 unfold cr at c
 have two:v.2≠0->u.2*v.2>0->∃c:Rat,c>0/\u=(c*v.1,c*v.2):=λa b=>by refine fin (u.2*v.2⁻¹) (pos _ _ a b) ?_ (inv_mul a _).symm;grind
 have one:v.1≠0->u.1*v.1>0->v.2=0->u.2=0->∃c:Rat,c>0/\u=(c*v.1,c*v.2):=λa b g m=>
  fin (u.1*v.1⁻¹) (pos _ _ a b) (inv_mul a _).symm (by rw [g,m];grind)
 rcases eV u with ⟨l,h⟩|⟨l,h⟩|⟨l,h⟩
 ·have i:up v:=by{(rcases eV v with ⟨d,h⟩|⟨d,h⟩|⟨d,h⟩<;>first|exact h|omega)};unfold up at h i;by_cases q:v.2>0;{refine two χ ?_;by_cases f:u.2>0;{exact mp f q};grind};{have v2:v.2=0:=χ;have v1:v.1>0:=χ;by_cases f:u.2>0;{have:=mp f v1;rw [v2] at c;grind};{exact one χ (mp χ v1) v2 χ}}
 ·have i:dn v:=by{(rcases eV v with ⟨d,h⟩|⟨d,h⟩|⟨d,h⟩<;>first|exact h|omega)};unfold dn at h i;by_cases q:v.2<0;{refine two χ ?_;by_cases f:u.2<0;{have:=mp (show -u.2>0 by grind) (show -v.2>0 by grind);grind};{have n:u.2=0:=χ;rw [n] at c;grind}};{have v2:v.2=0:=χ;have v1:-v.1>0:=χ;by_cases f:u.2<0;{have:=mp (show -u.2>0 by grind) v1;rw [v2] at c;grind};{refine one χ ?_ v2 χ;have:=mp (show -u.1>0 by grind) v1;grind}}
 ·unfold nz at hu;grind
theorem Ar {a b c x y z:Int}(h1:a*y=b*x)(h2:a*z=c*x)(g:Nat.gcd (Nat.gcd x.natAbs y.natAbs) z.natAbs=1):x.natAbs∣a.natAbs:=by have d:a.natAbs*y.natAbs=b.natAbs*x.natAbs:=by{rw [<-ļ,<-ļ,h1]};have e:a.natAbs*z.natAbs=c.natAbs*x.natAbs:=by{rw [<-ļ,<-ļ,h2]};have d1:x.natAbs∣a.natAbs*Nat.gcd (Nat.gcd x.natAbs y.natAbs) z.natAbs:=by{rw [<-Nat.gcd_mul_left,<-Nat.gcd_mul_left];exact Nat.dvd_gcd (Nat.dvd_gcd ⟨a.natAbs,by rw [Ķ]⟩ ⟨b.natAbs,by rw [d,Ķ]⟩) ⟨c.natAbs,by rw [e,Ķ]⟩};rwa [g,Ē] at d1
theorem QK {l m:L3}(ol:bX l=true)(om:bX m=true)(cl:bJ l=l)(cm:bJ m=m){x y:Rat}(hl:ar l x y=0)(hm:ar m x y=0)(hc:cr (aR l) (aR m)=0):l=m:=by unfold bX at ol om;rw [ċ,decide_eq_true_iff,decide_eq_true_iff] at ol om;have d:l.1*m.2.1=l.2.1*m.1:=by{unfold cr aR at hc;have:(l.1:Rat)*(m.2.1:Rat)=(l.2.1:Rat)*(m.1:Rat):=χ;exact_mod_cast this};unfold ar at hl hm;have o:(l.1:Rat)*(m.2.1:Rat)=(l.2.1:Rat)*(m.1:Rat):=by{exact_mod_cast d};have e:l.1*m.2.2=l.2.2*m.1:=by{have:(l.1:Rat)*(m.2.2:Rat)=(l.2.2:Rat)*(m.1:Rat):=χ;exact_mod_cast this};have f:l.2.1*m.2.2=l.2.2*m.2.1:=by{have:(l.2.1:Rat)*(m.2.2:Rat)=(l.2.2:Rat)*(m.2.1:Rat):=χ;exact_mod_cast this};obtain ⟨p,g⟩:=ol;obtain ⟨q,i⟩:=om;have j:Nat.gcd (Nat.gcd l.2.1.natAbs l.1.natAbs) l.2.2.natAbs=1:=by{rw [Ş l.2.1.natAbs];exact g};have k:Nat.gcd (Nat.gcd m.2.1.natAbs m.1.natAbs) m.2.2.natAbs=1:=by{rw [Ş m.2.1.natAbs];exact i};have s:=Nat.dvd_antisymm (Ar (a:=m.1) (b:=m.2.1) (c:=m.2.2) (by rw [Qh4,<-d,Qh4]) (by rw [Qh4,<-e,Qh4]) g) (Ar d e i);have t:=Nat.dvd_antisymm (Ar (a:=m.2.1) (b:=m.1) (c:=m.2.2) (by rw [Qh4,d,Qh4]) (by rw [Qh4,<-f,Qh4]) j) (Ar (b:=l.1) (c:=l.2.2) d.symm f k);have sl:¬(l.1<0\/l.1=0/\l.2.1<0):=λh=>by{unfold bJ at cl;rw [Ä h] at cl;have n:-l.1=l.1:=Æ (λx:L3=>x.1) cl;have r:-l.2.1=l.2.1:=Æ (λx:L3=>x.2.1) cl;omega};have sm:¬(m.1<0\/m.1=0/\m.2.1<0):=λh=>by{unfold bJ at cm;rw [Ä h] at cm;have n:-m.1=m.1:=Æ (λx:L3=>x.1) cm;have r:-m.2.1=m.2.1:=Æ (λx:L3=>x.2.1) cm;omega};have n:l.1=m.1:=ω;by_cases z:l.1=0;{grind [Int.eq_of_mul_eq_mul_left]};{grind [Int.eq_of_mul_eq_mul_left,Int.mul_comm]}
end Go.Proofs.Tryz.aw
namespace Go.Proofs.Tryz.aw
variable{l:L3}{M:List L3}
def mx (x:Rat×Rat)(t:Rat):Rat:=x.1+t*(x.2-x.1)
theorem MA {x:Rat×Rat}{t:Rat}(h1:x.1>0)(h2:x.2>0)(t0:t>0)(t1:t<=1):mx x t>0:=by have a:=mn (show 1-t≥0 by grind) (show x.1≥0 by grind);have b:=mp t0 h2;unfold mx;grind
theorem mx_mid {x:Rat×Rat}{t s:Rat}(h1:x.1>0)(hs:mx x s≥0)(s0:s>0)(t0:t>0)(ts:t<=s):mx x t≥0:=by unfold mx at *;have a:=mn (show s-t≥0 by grind) (show x.1≥0 by grind);have b:=mn (show t≥0 by grind) hs;by_cases h:x.1+t*(x.2-x.1)≥0;{exact h};{have:=mp s0 (show -(x.1+t*(x.2-x.1))>0 by grind);grind}
theorem AR {y:Rat×Rat}(h1:y.1>0){s:Rat}(s0:s>0)(hs:mx y s<=0):∃t,t>0/\t<=s/\mx y t=0:=by have a:y.1-y.2>0:=by{by_cases c:y.1-y.2>0;{exact c};{have:=mn (show s≥0 by grind) (show y.2-y.1≥0 by grind);unfold mx at hs;grind}};have e:=inv_mul (show y.1-y.2≠0 by grind) y.1;refine ⟨y.1*(y.1-y.2)⁻¹,(mp h1 (Wz7.2 a)),?_,?_⟩;{generalize y.1*(y.1-y.2)⁻¹=t at *;by_cases c:t<=s;{exact c};{have:=mp (show t-s>0 by grind) a;unfold mx at hs;grind}};grind [mx]
theorem Mf:∀(L:pz (Rat×Rat)),(∀x∈L,x.1>0)->(∃x∈L,x.2<=0)->∃t,t>0/\t<=1/\(∀x∈L,mx x t≥0)/\∃x∈L,mx x t=0
 | [],_,h=>by obtain ⟨x,hx,_⟩:=h;cases hx
 | y::L,h0,h=>by
  have j:=h0 y (þ ..);have f:=λx hx=>h0 x (ó y hx);by_cases c:∃x∈L,x.2<=0
  ·have ⟨t,t0,t1,a,x,hx,e⟩:=Mf L f c;by_cases g:mx y t≥0
   ·exact ⟨t,t0,t1,λz b=>by rcases å.1 b with rfl|b;exact g;exact a z b,x,ó _ hx,e⟩
   ·have ⟨s,d,st,es⟩:=AR j t0 χ;exact ⟨s,d,χ,λz b=>by rcases å.1 b with rfl|b;grind;exact mx_mid (f z b) (a z b) t0 d st,y,þ ..,es⟩
  ·obtain ⟨x,hx,i⟩:=h
   have:x=y:=by
    rcases å.1 hx with rfl|hx
    ·rfl
    ·exact Å ⟨x,hx,i⟩ c
   subst this;have ⟨s,d,st,es⟩:=AR j (s:=1) φ (by unfold mx;grind);refine ⟨s,d,st,λz b=>?_,x,þ ..,es⟩;rcases å.1 b with rfl|b
   ·grind
   ·have:z.2>0:=by{by_cases q:z.2>0;{exact q};{exact Å ⟨z,b,χ⟩ c}};have:=MA (f z b) this d st;grind
theorem HR:∀(L:pz (Rat×Rat)),(∀x∈L,x.1>0)->∃s,s>0/\∀x∈L,x.1+s*x.2>0
 | [],_=>⟨1,φ,λx h=>by cases h⟩
 | y::L,h0=>by
  have ⟨s,s0,h⟩:=HR L λx d=>h0 x (ó y d);by_cases c:y.1+s*y.2>0
  ·exact ⟨s,s0,λz a=>by rcases å.1 a with rfl|a;exact c;exact h z a⟩
  ·have b:-y.2>0:=by
    by_cases q:y.2<0
    ·grind
    ·have:=mn (show s≥0 by grind) (show y.2≥0 by grind);grind
   have e:=inv_mul (show -y.2≠0 by grind) y.1;have p:=mp (h0 y (þ ..)) (Wz7.2 b);generalize y.1*(-y.2)⁻¹=r at *
   have g:r<=s:=by by_cases q:r<=s;{exact q};{have:=mp (show r-s>0 by grind) b;grind}
   refine ⟨r*(1/2),χ,λz a=>?_⟩;rcases å.1 a with rfl|a
   ·grind
   ·have f:=h0 z (ó _ a);by_cases q:z.2≥0;{have:=mn (show r*(1/2)≥0 by grind) q;grind};{have:=mn (show s-r*(1/2)≥0 by grind) (show -z.2≥0 by grind);grind}
def pos (M:List L3)(p:V2):Prop:=∀m∈M,ar m p.1 p.2>0
def Es (M:List L3)(l:L3):Prop:=∃p:V2,ar l p.1 p.2=0/\∀m∈M,m≠l->ar m p.1 p.2>0
def Dif (M:List L3):Prop:=∀l∈M,∀m∈M,l≠m->∀p:V2,ar l p.1 p.2=0->ar m p.1 p.2=0->cr (aR l) (aR m)≠0
theorem Xg {m:L3}{w:V2}(hw:w.1≠0\/w.2≠0)(h1:nv l w=0)(h2:nv m w=0):cr (aR l) (aR m)=0:=by have a:cr (aR l) (aR m)*w.1=0:=by{unfold nv at *;unfold cr aR;grind};have b:cr (aR l) (aR m)*w.2=0:=by{unfold nv at *;unfold cr aR;grind};grind
theorem NZ (u:V2):cr u u=0:=by unfold cr;grind
theorem vY (m:L3)(q p:V2)(t:Rat):ar m (q.1+t*(p.1-q.1)) (q.2+t*(p.2-q.2))=ar m q.1 q.2+t*(ar m p.1 p.2-ar m q.1 q.2):=by unfold ar;grind
theorem nv_mid (m:L3)(q p:V2)(t:Rat):nv m (q.1+t*(p.1-q.1),q.2+t*(p.2-q.2))=nv m q+t*(nv m p-nv m q):=by unfold nv;grind
theorem nv_sub (m:L3)(q x:V2):nv m (q.1-x.1,q.2-x.2)=ar m q.1 q.2-ar m x.1 x.2:=by unfold nv ar;grind
theorem ess (hd:Dif M)(hn:∀m∈M,(aR m).1≠0\/(aR m).2≠0){q p:V2}(hq:pos M q)(hp:∀m∈M,Es M m->ar m p.1 p.2>0):pos M p:=by
 intro D E;by_cases c:ar D p.1 p.2>0
 ·exact c
 exfalso;let f:L3->Rat×Rat:=λm=>(ar m q.1 q.2,ar m p.1 p.2);have ⟨t,t0,t1,ge,x,j,ex⟩:=Mf (M.map f) (λx j=>by obtain ⟨m,hm,rfl⟩:=ò.1 j;exact hq m hm) ⟨f D,Qr7 E,by show ar D p.1 p.2<=0;grind⟩;obtain ⟨i,l,rfl⟩:=ò.1 j;let X:V2:=(q.1+t*(p.1-q.1),q.2+t*(p.2-q.2));have N:∀m,ar m X.1 X.2=mx (f m) t:=λm=>vY m q p t;have F:∀m∈M,ar m X.1 X.2≥0:=λm hm=>by rw [N];exact ge _ (Qr7 hm)
 have O:ar i X.1 X.2=0:=by rw [N];exact ex
 let u:V2:=(q.1-X.1,q.2-X.2);have P:∀m,nv m u=ar m q.1 q.2-ar m X.1 X.2:=λm=>nv_sub m q X;let Z:=M.filter λm=>decide (ar m X.1 X.2=0);have A:∀m,m∈Z↔m∈M/\ar m X.1 X.2=0:=λm=>by simp [Z,ĺ]
 let d:=aR i;have d0:nv i d=0:=by rw [TU];exact NZ _
 let g:L3->Rat×Rat:=λm=>(nv m u,nv m d)
 have ⟨k,Y,k1,G,y,R,S⟩:=Mf (Z.map g) (λx j=>by
  obtain ⟨m,hm,rfl⟩:=ò.1 j;obtain ⟨H,T⟩:=(A m).1 hm;show nv m u>0;rw [P,T];have:=hq m H;grind) ⟨g i,Qr7 ((A i).2 ⟨l,O⟩),by show nv i d<=0;rw [d0];grind⟩
 obtain ⟨o,I,rfl⟩:=ò.1 R;obtain ⟨n,r⟩:=(A o).1 I;let w:V2:=(u.1+k*(d.1-u.1),u.2+k*(d.2-u.2));have J:∀m,nv m w=mx (g m) k:=λm=>nv_mid m u d k;have Q:nv o w=0:=by rw [J];exact S
 have U:w.1≠0\/w.2≠0:=by by_cases e:k=1;{have:=hn i l;have B:w.1=d.1:=by{dsimp only [w];rw [e];grind};have C:w.2=d.2:=by{dsimp only [w];rw [e];grind};rw [B,C];exact this};{have a:nv i w>0:=by{rw [J];show nv i u+k*(nv i d-nv i u)>0;rw [d0];have:nv i u>0:=by{rw [P,O];have:=hq i l;grind};have:=mp (show 1-k>0 by grind) this;grind};by_cases B:w.1=0;{by_cases C:w.2=0;{unfold nv at a;rw [B,C] at a;grind};{exact .inr C}};{exact .inl B}}
 have ⟨s,V,W⟩:=HR ((M.filter λm=>decide (ar m X.1 X.2>0)).map λm=>(ar m X.1 X.2,nv m w)) (λx j=>by
  obtain ⟨m,hm,rfl⟩:=ò.1 j;simpa using (ĺ.1 hm).2)
 have es:Es M o:=by refine ⟨(X.1+s*w.1,X.2+s*w.2),?_,λm hm K=>?_⟩;{rw [jN,r,Q];grind};{rw [jN];by_cases z:ar m X.1 X.2=0;{have L:=(A m).2 ⟨hm,z⟩;have g0:nv m w≥0:=by{rw [J];exact G _ (Qr7 L)};have ne:nv m w≠0:=λe=>hd o n m hm (λh=>K h.symm) X r z (Xg U Q e);have:=mp V (show nv m w>0 by grind);rw [z];grind};{have gz:=F m hm;have v:(ar m X.1 X.2,nv m w)∈((M.filter λm=>decide (ar m X.1 X.2>0)).map λm=>(ar m X.1 X.2,nv m w)):=ò.2 ⟨m,ĺ.2 ⟨hm,by simp;grind⟩,rfl⟩;exact W _ v}}
 have a:=hp o n es;have b:=hq o n;grind [MA]
def Oo (l:L3):V2:=((l.1:Rat),(l.2.1:Rat))
theorem sq_p {x y:Rat}(h:x≠0\/y≠0):x*x+y*y>0:=by have p:∀z:Rat,z≠0->z*z>0:=λz a=>by{by_cases c:z>0;{exact mp c c};{have:=mp (show -z>0 by grind) (show -z>0 by grind);grind}};have q:∀z:Rat,z*z≥0:=λz=>by{by_cases c:z≥0;{exact mn c c};{have:=mn (show -z≥0 by grind) (show -z≥0 by grind);grind}};rcases h with h|h;{have:=p x h;have:=q y;grind};{have:=p y h;have:=q x;grind}
theorem TV (h:(aR l).1≠0\/(aR l).2≠0):nv l (Oo l)>0:=by have:nv l (Oo l)=(l.1:Rat)*(l.1:Rat)+(l.2.1:Rat)*(l.2.1:Rat):=rfl;refine sq_p ?_;rcases h with h|h;{exact .inr h};{left;intro e;apply h;show -(l.1:Rat)=0;rw [e];grind}
theorem N6 (hd:Dif M)(hn:∀m∈M,(aR m).1≠0\/(aR m).2≠0){q:V2}(hq:pos M q)(h0:M≠[]):∃l∈M,Es M l:=by have ⟨l,a⟩:=Wy8 M h0;by_cases c:∃l∈M,Es M l;{exact c};exfalso;have d:=TV (hn l a);have e:=inv_mul (show nv l (Oo l)≠0 by grind) (ar l q.1 q.2);have b:=ess hd hn hq (p:=(q.1+-(ar l q.1 q.2*(nv l (Oo l))⁻¹)*(Oo l).1,q.2+-(ar l q.1 q.2*(nv l (Oo l))⁻¹)*(Oo l).2)) (λm hm he=>Å ⟨m,hm,he⟩ c) l a;rw [jN] at b;grind
theorem G9 {M:pz L3}(hn:(aR l).1≠0\/(aR l).2≠0){x:V2}(hx:ar l x.1 x.2=0)(h:∀m∈M,m≠l->ar m x.1 x.2>0)(L:pz L3)(hL:∀m∈L,ar m x.1 x.2>0):∃q:V2,pos M q/\ar l q.1 q.2>0/\pos L q:=by
 have ⟨s,c,a⟩:=HR (((M.filter λm=>decide (m≠l))++L).map λm=>(ar m x.1 x.2,nv m (Oo l))) (λy d=>by
  obtain ⟨m,hm,rfl⟩:=ò.1 d;rcases õ.1 hm with hm|hm
  ·have:=ĺ.1 hm;exact h m this.1 (by simpa using this.2)
  ·exact hL m hm)
 have b:ar l (x.1+s*(Oo l).1) (x.2+s*(Oo l).2)>0:=by rw [jN,hx];have:=mp c (TV hn);grind
 refine ⟨(x.1+s*(Oo l).1,x.2+s*(Oo l).2),λm hm=>?_,b,λm hm=>?_⟩
 ·by_cases e:m=l;{rw [e];exact b};{rw [jN];exact a (ar m x.1 x.2,nv m (Oo l)) (ò.2 ⟨m,ĭ _ (ĺ.2 ⟨hm,by simpa using e⟩),rfl⟩)}
 ·rw [jN];exact a (ar m x.1 x.2,nv m (Oo l)) (ò.2 ⟨m,Ľ _ hm,rfl⟩)
theorem J8 (hno:∀x:V2,ar l x.1 x.2=0->¬pos M x){q p:V2}(hq:pos M q)(hp:pos M p):ar l q.1 q.2>0->ar l p.1 p.2>0:=by intro h;by_cases c:ar l p.1 p.2>0;{exact c};exfalso;have ⟨t,t0,t1,e⟩:=AR (y:=(ar l q.1 q.2,ar l p.1 p.2)) h (s:=1) φ (by unfold mx;grind);refine hno (q.1+t*(p.1-q.1),q.2+t*(p.2-q.2)) ?_ λm hm=>?_;{rw [vY];exact e};{rw [vY];exact MA (x:=(ar m q.1 q.2,ar m p.1 p.2)) (hq m hm) (hp m hm) t0 t1}
end Go.Proofs.Tryz.aw
namespace Go.Proofs.Tryz
section
variable{s:Sp}{l m:L3}
theorem vx {u:Sp}{t:Rat}:(s.meet u).inn t↔s.inn t/\u.inn t:=by have c:tS s.lo u.lo<t↔s.lo<t/\u.lo<t:=by{unfold tS;rcases cY u.lo s.lo with ⟨h,e⟩|⟨h,e⟩|⟨h,e⟩<;>rw [e]<;>simp<;>grind};have d:t<tT s.hi u.hi↔t<s.hi/\t<u.hi:=by{unfold tT;rcases cY u.hi s.hi with ⟨h,e⟩|⟨h,e⟩|⟨h,e⟩<;>rw [e]<;>simp<;>grind};unfold Sp.inn Sp.meet;cases s.a<;>cases s.b<;>cases u.a<;>cases u.b<;>simp<;>grind
theorem reg_one (h:s.good):rW [s]:=⟨λx a=>(show x=s by simpa using a)▸h,ψ⟩
theorem uT {u:Sp}(hs:s.can)(hu:u.can):Ö 2 [s] [u]=if (s.meet u).emp=true then [] else [s.meet u]:=by have key:∀t,è (Ö 2 [s] [u]) t=true->t∉Þ ([s]++[u])->(s.meet u).inn t:=λt h a=>by{rw [comb_inB _ _ _ a] at h;have h:(è [s] t&&è [u] t)=true:=h;rw [ċ] at h;have e:∀x:Sp,è [x] t=x.innB t:=λx=>by{unfold è;simp};grind [innB_iff,vx.2]};refine reg_eq (Þ ([s]++[u])) (comb_reg _ _ _) ?_ λt a=>?_;{split;{exact ⟨ţ,List.Pairwise.nil⟩};{rename_i h;exact reg_one ⟨Sp.Cc hs hu,by simpa using h⟩}};{refine An ⟨λh=>?_,λh=>?_⟩;{have hk:=key t h a;split;{rename_i he;obtain ⟨b,c⟩:=hk;generalize s.meet u=m at he b c;unfold Sp.emp at he;rw [ċ,ċ,Ĥ,Ĥ,Ñ] at he;obtain ⟨⟨d,hb⟩,g⟩:=he;rw [d] at b;rw [hb] at c;rcases cY m.lo m.hi with ⟨h,e⟩|⟨h,e⟩|⟨h,e⟩<;>grind};{exact jI.2 ⟨_,ψ,hk⟩}};{rw [comb_inB _ _ _ a];show (è [s] t&&è [u] t)=true;split at h;{cases h};{have ⟨x,f,hi⟩:=jI.1 h;obtain rfl:x=s.meet u:=by{simpa using f};have ⟨b,c⟩:=vx.1 hi;rw [ċ];exact ⟨jI.2 ⟨s,ψ,b⟩,jI.2 ⟨u,ψ,c⟩⟩}}}
theorem j7 (h:Nz l)(t:Rat):ar l (cT l t) (cW l t)=0/\lG l (cT l t) (cW l t)=t:=by have a:=h.norm;unfold ar lG cT cW;unfold fR at *;constructor<;>grind
theorem val_me (h:ß l m≠0):ar l (meX l m) (meY l m)=0/\ar m (meX l m) (meY l m)=0:=by have a:=Qn8 _ h;unfold ar meX meY;constructor;{have e:(l.1:Rat)*(((l.2.1:Rat)*(m.2.2:Rat)-(l.2.2:Rat)*(m.2.1:Rat))*(ß l m)⁻¹)+(l.2.1:Rat)*(((l.2.2:Rat)*(m.1:Rat)-(l.1:Rat)*(m.2.2:Rat))*(ß l m)⁻¹)+(l.2.2:Rat)=(l.2.2:Rat)*(1-ß l m*(ß l m)⁻¹):=by{unfold ß;grind};rw [e,a];grind};{have e:(m.1:Rat)*(((l.2.1:Rat)*(m.2.2:Rat)-(l.2.2:Rat)*(m.2.1:Rat))*(ß l m)⁻¹)+(m.2.1:Rat)*(((l.2.2:Rat)*(m.1:Rat)-(l.1:Rat)*(m.2.2:Rat))*(ß l m)⁻¹)+(m.2.2:Rat)=(m.2.2:Rat)*(1-ß l m*(ß l m)⁻¹):=by{unfold ß;grind};rw [e,a];grind}
theorem VX (l:L3):bJ (bJ l)=bJ l:=by unfold bJ;by_cases h:l.1<0\/l.1=0/\l.2.1<0;{rw [Ä h,Ã];unfold Õ;dsimp only;omega};{rw [Ã h,Ã h]}
theorem ok_can (h:bX l=true):bX (bJ l)=true:=by unfold bJ;split;{unfold bX Õ cq at *;grind};{exact h}
theorem qF (h:bX l=true):¬(l.1=0/\l.2.1=0):=by unfold bX at h;rw [ċ,decide_eq_true_iff] at h;exact h.1
theorem rA:s.emp=false↔∃t,s.inn t:=by constructor;{intro h;have ⟨c,d⟩:=Sp.OP h;refine ⟨s.gN,?_,?_⟩;{cases ha:s.a;{exact .inr (c ha)};{exact .inl rfl}};{cases hb:s.b;{exact .inr (d hb)};{exact .inl rfl}}};{rintro ⟨t,c,d⟩;grind [Sp.gy]}
theorem g_ {l:L3}{s:Sp}{m:L3}:(cF l s m=true->∀t,(bu l s m).inn t↔s.inn t/\0<ar m (cT l t) (cW l t))/\(s.emp=false->cF l s m=false->∀t,s.inn t->¬0<ar m (cT l t) (cW l t)):=by have key:Ú m l≠0->∀t,(bu l s m).inn t↔s.inn t/\0<j8 m l+Ú m l*t:=λa t=>by{unfold bu;rcases cM (Ú m l) with ⟨h,e⟩|⟨h,e⟩|⟨h,e⟩;{exact Å h a};{rw [e];show (s.meet ⟨Ø m l,0,false,true⟩).inn t↔_;rw [vx];have b:Ú m l*(t-Ø m l)=j8 m l+Ú m l*t:=by{unfold Ø;grind};have:(⟨Ø m l,0,false,true⟩:Sp).inn t↔Ø m l<t:=by{unfold Sp.inn;simp};rw [this,<-b];refine and_congr_right λ_=>⟨λd=>ń h χ,λd=>?_⟩;by_cases c:Ø m l<t;{exact c};{have:=Wj8 (show 0<=Ú m l by grind) (show 0<=Ø m l-t by grind);grind}};{rw [e];show (s.meet ⟨0,Ø m l,true,false⟩).inn t↔_;rw [vx];have b:-Ú m l*(Ø m l-t)=j8 m l+Ú m l*t:=by{unfold Ø;grind};have:(⟨0,Ø m l,true,false⟩:Sp).inn t↔t<Ø m l:=by{unfold Sp.inn;simp};rw [this,<-b];refine and_congr_right λ_=>⟨λd=>ń χ χ,λd=>?_⟩;by_cases c:t<Ø m l;{exact c};{have:=Wj8 (show 0<=-Ú m l by grind) (show 0<=t-Ø m l by grind);grind}}};by_cases a:Ú m l=0;{have g:bu l s m=s:=by{unfold bu;rw [a];rfl};have f:cF l s m=decide ((j8 m l).num.sign>0):=by{unfold cF;rw [a];rfl};grind [pg,cM]};{have f:cF l s m=!(bu l s m).emp:=by{unfold cF;grind [cM]};grind [pg,rA.2]}
theorem gR (hs:s.good)(hb:cF l s m=true):(bu l s m).good:=⟨Su hs.1,Sr hs.2 hb⟩
abbrev Sd:=L3×Sp
def yL:List Sd->L3->Sp->Option Sp
 | [],_,v=>some v
 | s::c,l,v=>if cF l v s.1 then yL c l (bu l v s.1) else none
theorem F6:∀{c:pz Sd} {l:L3} {v w:Sp},v.good->yL c l v=some w->w.good/\∀t,w.inn t↔v.inn t/\∀s∈c,0<ar s.1 (cT l t) (cW l t)
 | [],_,v,w,h,e=>by cases e;exact ⟨h,λt=>⟨λg=>⟨g,λs hs=>by cases hs⟩,λg=>g.1⟩⟩
 | s::c,l,v,w,h,e=>by
  unfold yL at e;split at e
  ·rename_i hb;have ⟨g1,g2⟩:=F6 (gR h hb) e;grind [g_.1]
  ·cases e
theorem F5:∀{c:pz Sd} {l:L3} {v:Sp},v.good->yL c l v=none->∀t,v.inn t->¬∀s∈c,0<ar s.1 (cT l t) (cW l t)
 | [],_,v,h,e=>by cases e
 | s::c,l,v,h,e=>by
  intro t ht hall;unfold yL at e;split at e
  ·rename_i hb;exact F5 (gR h hb) e t ((g_.1 hb t).2 ⟨ht,hall s (þ ..)⟩) λu hu=>hall u (ó _ hu)
  ·rename_i hb;exact g_.2 h.2 (by simpa using hb) t ht (hall s (þ ..))
theorem qf (l:L3):bJ l=l\/bJ l=Õ l:=by unfold bJ;split;exact .inr rfl;exact .inl rfl
theorem rev_rev (l:L3):Õ (Õ l)=l:=by unfold Õ;simp
theorem Aq (l:L3):aw.aR (Õ l)=(-(aw.aR l).1,-(aw.aR l).2):=by unfold aw.aR Õ;simp only [Qh2]
theorem Ej (h:bX l=true):(aw.aR l).1≠0\/(aw.aR l).2≠0:=by unfold aw.aR;by_cases e:l.2.1=0;{right;intro a;have:(l.1:Rat)=0:=χ;exact qF h ⟨by exact_mod_cast this,e⟩};{left;show (l.2.1:Rat)≠0;exact_mod_cast e}
theorem UA (ol:bX l=true)(om:bX m=true){p:aw.V2}(h1:ar l p.1 p.2=0)(h2:ar m p.1 p.2=0)(hc:aw.cr (aw.aR l) (aw.aR m)=0):l=m\/l=Õ m:=by have a:∀{x:L3},ar x p.1 p.2=0->ar (bJ x) p.1 p.2=0:=λ{x} h=>by{grind [qf,val_rev]};have b:aw.cr (aw.aR (bJ l)) (aw.aR (bJ m))=0:=by{unfold aw.cr at *;rcases qf l with e|e<;>rcases qf m with e'|e'<;>rw [e,e']<;>(try rw [Aq l])<;>(try rw [Aq m])<;>(try dsimp only)<;>grind};grind [aw.QK,ok_can,VX,qf,rev_rev]
theorem L_ {M:pz L3}(hk:∀m∈M,bX m=true){q:aw.V2}(hq:aw.pos M q):aw.Dif M:=by intro l d m hm c p f g h;rcases UA (hk l d) (hk m hm) f g h with e|e;{exact c e};{have a:=hq l d;have b:=hq m hm;grind [val_rev]}
theorem AF (h:Nz l){x y:Rat}(hp:ar l x y=0):∃t,x=cT l t/\y=cW l t:=by have a:=Qn8 _ h.norm;unfold ar at hp;refine ⟨lG l x y,?_,?_⟩;{unfold cT lG fR at *;grind};{unfold cW lG fR at *;grind}
def à:Sp:=⟨0,0,true,true⟩
theorem fo:à.good:=⟨⟨λ_=>rfl,λ_=>rfl⟩,rfl⟩
theorem full_inn (t:Rat):à.inn t:=⟨.inl rfl,.inl rfl⟩
structure pL (M:List L3) (c:List Sd):Prop where
 pos:∃q,aw.pos M q
 mem:∀s∈c,s.1∈M/\s.2.good/\∀t,s.2.inn t↔∀m∈M,m≠s.1->0<ar m (cT s.1 t) (cW s.1 t)
 all:∀l∈M,aw.Es M l->∃v,(l,v)∈c
 asc:c.Pairwise λs u=>aw.kQ (aw.aR s.1) (aw.aR u.1)<0
def JE (x:Sd):List Sd->List Sd
 | []=>[x]
 | s::r=>if aw.kQ (aw.aR s.1) (aw.aR x.1)<0 then s::JE x r else x::s::r
def PH (c:List Sd)(l:L3):List Sd:=c.filterMap λs=>if cF s.1 s.2 l then some (s.1,bu s.1 s.2 l) else none
def tW:List Sd->L3->Int
 | [],_=>-1
 | s::c,l=>if (ar l (cT s.1 s.2.gN) (cW s.1 s.2.gN)).num.sign≠0 then (ar l (cT s.1 s.2.gN) (cW s.1 s.2.gN)).num.sign else if s.1=l then 1 else tW c l
def Je (c:List Sd)(l:L3):Option (List Sd):=
 match yL c l à with
 | some v=>some (JE (l,v) (PH c l))
 | none=>if 0<tW c l then some c else none
theorem qp {x y:Sd}:∀{r:pz Sd},y∈JE x r↔y=x\/y∈r
 | []=>by simp [JE]
 | s::r=>by
  unfold JE;split
  ·rw [å,qp,å];exact or_left_comm
  ·rw [å]
theorem NM {a b d:aw.V2}(h:aw.kQ a b<0)(h':aw.kQ b d<0):aw.kQ a d<0:=by by_cases q:aw.kQ a d<0;{exact q};{exact Å h (aw.Zo _ _ _ q (aw.Gx _ _ h'))}
theorem JF {x:Sd}:∀{r:pz Sd},(r.Pairwise λs u=>aw.kQ (aw.aR s.1) (aw.aR u.1)<0)->(∀s∈r,aw.kQ (aw.aR s.1) (aw.aR x.1)≠0)->(JE x r).Pairwise λs u=>aw.kQ (aw.aR s.1) (aw.aR u.1)<0
 | [],_,_=>Qd1 ..
 | s::r,h,hn=>by
  have ⟨h1,h2⟩:=Ġ.1 h;unfold JE;split
  ·rename_i a;refine Ġ.2 ⟨λy b=>?_,JF h2 λu hu=>hn u (ó _ hu)⟩<;>grind [qp.1]
  grind [aw.Rv,List.pairwise_cons.2,NM]
theorem Jm {c:pz Sd}{y:Sd}:y∈PH c l↔∃s∈c,cF s.1 s.2 l=true/\y=(s.1,bu s.1 s.2 l):=by grind [PH]
theorem Ss {c:pz Sd}(h:c.Pairwise λs u=>aw.kQ (aw.aR s.1) (aw.aR u.1)<0):(PH c l).Pairwise λs u=>aw.kQ (aw.aR s.1) (aw.aR u.1)<0:=by refine List.Pairwise.filterMap _ ?_ h<;>grind
theorem Kd {s:L3}(hl:aw.nz (aw.aR s))(h:aw.kQ (aw.aR s) (aw.aR l)=0){p r:aw.V2}(p0:ar l p.1 p.2=0)(p1:0<ar s p.1 p.2)(r0:ar s r.1 r.2=0)(r1:0<ar l r.1 r.2):False:=by have ⟨c,b,e⟩:=aw.Rw hl h;have d:(s.2.1:Rat)=c*(l.2.1:Rat):=Æ Prod.fst e;have a:-(s.1:Rat)=c*-(l.1:Rat):=Æ Prod.snd e;have a:(s.1:Rat)=c*(l.1:Rat):=χ;have key:∀x:aw.V2,ar s x.1 x.2=c*(ar l x.1 x.2-(l.2.2:Rat))+(s.2.2:Rat):=λx=>by{unfold ar;rw [d,a];grind};have k:=aw.mp b r1;rw [key] at p1 r0;rw [p0] at p1;grind
section
variable {M:List L3} {c:List Sd} (h:pL M c) (hk:∀m ∈ M,bX m=true)
include h hk
theorem pL.int {p:aw.V2}(hp:∀s∈c,0<ar s.1 p.1 p.2):aw.pos M p:=by grind [h.pos,aw.ess,L_,Ej,h.all]
theorem PD {l:L3}(hl:bX l=true){v:Sp}(e:yL c l à=some v):pL (l::M) (JE (l,v) (PH c l)):=by have I:=qF hl;have ⟨A,B⟩:=F6 fo e;have C:∀t,v.inn t↔aw.pos M (cT l t,cW l t):=λt=>⟨λg=>h.int hk ((B t).1 g).2,λg=>(B t).2 ⟨full_inn t,λs b=>g s.1 (h.mem s b).1⟩⟩;have ⟨t0,k⟩:=rA.1 A.2;have n:=(C t0).1 k;have D:=(j7 I t0).1;have E:l∉M:=λhm=>by{have:=n l hm;dsimp only at this;grind};have ne:∀m∈M,m≠l:=λm hm e=>E (e▸hm);obtain ⟨q,J,o,-⟩:=aw.G9 (M:=M) (x:=(cT l t0,cW l t0)) (Ej hl) D (λm hm _=>n m hm) [] (λm hm=>by cases hm);have f:∀s∈PH c l,s.1∈M/\s.2.good/\∀t,s.2.inn t↔∀m∈l::M,m≠s.1->0<ar m (cT s.1 t) (cW s.1 t):=λs b=>by{obtain ⟨N,O,hb,rfl⟩:=Jm.1 b;grind [h.mem,gR,g_.1]};refine ⟨⟨q,Qm3.2 ⟨o,J⟩⟩,λs b=>?_,λj a he=>?_,JF (Ss h.asc) λs b K=>?_⟩;{rcases qp.1 b with rfl|b;{refine ⟨þ ..,A,λt=>?_⟩;rw [C t,Qm3];exact ⟨λg=>⟨λh=>Å rfl h,λm hm _=>g m hm⟩,λg m hm=>g.2 m hm (ne m hm)⟩};grind};{rcases å.1 a with rfl|a;{exact ⟨v,qp.2 (.inl rfl)⟩};{obtain ⟨p,F,u⟩:=he;have ⟨w,hw⟩:=h.all j a ⟨p,F,λm hm d=>u m (ó _ hm) d⟩;have ⟨i,y,z⟩:=h.mem _ hw;have ⟨t,G,H⟩:=AF (qF (hk j a)) F;have hb:cF j w l=true:=by{cases hb:cF j w l;{exfalso;refine g_.2 y.2 hb t ((z t).2 λm hm d=>?_) ?_;{dsimp only;rw [<-G,<-H];exact u m (ó _ hm) d};{rw [<-G,<-H];exact u l (þ ..) (λe=>E (e▸a))}};{rfl}};grind [qp.2,Jm.2]}};{have ⟨i,y,z⟩:=f s b;have ⟨t,L⟩:=rA.1 y.2;exact Kd (Ej (hk _ i)) K (p:=(cT l t0,cW l t0)) (r:=(cT s.1 t,cW s.1 t)) D (n _ i) (j7 (qF (hk _ i)) t).1 ((z t).1 L l (þ ..) (λe=>ne _ i e.symm))}
omit h in
theorem xh {l:L3}(hl:bX l=true)(hno:∀x:aw.V2,ar l x.1 x.2=0->¬aw.pos M x){q:aw.V2}(hq:aw.pos M q){s:L3}(hs:s∈M){x:aw.V2}(xz:ar s x.1 x.2=0)(hx:∀m∈M,m≠s->0<ar m x.1 x.2):(0<ar l q.1 q.2->0<ar l x.1 x.2\/s=l)/\(ar l q.1 q.2<0->ar l x.1 x.2<0\/ar l x.1 x.2=0/\s≠l):=by
 have side:∀g:L3,(∀x:aw.V2,ar g x.1 x.2=0->¬aw.pos M x)->0<ar g q.1 q.2->∀y:aw.V2,ar s y.1 y.2=0->(∀m∈M,m≠s->0<ar m y.1 y.2)->¬ar g y.1 y.2<0:=λg hno n y o b j=>by obtain ⟨C,p,-,c⟩:=aw.G9 (Ej (hk s hs)) o b [Õ g] (λm hm=>by rcases ö.1 hm with rfl;rw [val_rev];grind);have c:=c _ (ö.2 rfl);rw [val_rev] at c;have:=aw.J8 hno hq p n;grind
 constructor
 ·intro a;by_cases f:0<ar l x.1 x.2
  ·exact .inl f
  right;have z:ar l x.1 x.2=0:=by have:=side l hno a x xz hx;grind
  by_cases e:s=l
  ·exact e
  exfalso
  have h:aw.cr (aw.aR l) (aw.aR s)≠0:=λt=>by rcases UA hl (hk s hs) z xz t with g|g;{exact e g.symm};{rw [g,val_rev] at a;have:=hq s hs;grind}
  have step:∀d:aw.V2,aw.nv s d=0->aw.nv l d<0->False:=λd d0 d1=>by
   have ⟨r,u,v⟩:=aw.HR ((M.filter λm=>decide (m≠s)).map λm=>(ar m x.1 x.2,aw.nv m d)) (λy b=>by
    obtain ⟨m,hm,rfl⟩:=ò.1 b;have:=ĺ.1 hm;exact hx m this.1 (by simpa using this.2))
   refine side l hno a (x.1+r*d.1,x.2+r*d.2) ?_ (λm hm i=>?_) ?_
   ·rw [aw.jN,xz,d0];grind
   ·rw [aw.jN];exact v (ar m x.1 x.2,aw.nv m d) (ò.2 ⟨m,ĺ.2 ⟨hm,by simpa using i⟩,rfl⟩)
   ·rw [aw.jN,z];have:=aw.mp u (show -aw.nv l d>0 by grind);grind
  have k:aw.nv s (aw.aR s)=0:=by rw [aw.TU];exact aw.NZ _
  have ls:aw.nv l (aw.aR s)≠0:=by rw [aw.TU];exact h
  by_cases w:aw.nv l (aw.aR s)<0
  ·exact step _ k w
  ·have A:aw.nv s (-(aw.aR s).1,-(aw.aR s).2)=-aw.nv s (aw.aR s):=by{unfold aw.nv;dsimp only;grind};have B:aw.nv l (-(aw.aR s).1,-(aw.aR s).2)=-aw.nv l (aw.aR s):=by{unfold aw.nv;dsimp only;grind};exact step (-(aw.aR s).1,-(aw.aR s).2) (by rw [A,k];grind) (by rw [B];grind)
 ·intro a;have:=side (Õ l) (λx hx=>hno x (by rw [val_rev] at hx;grind)) (by rw [val_rev];grind) x xz hx;rw [val_rev] at this;by_cases f:ar l x.1 x.2<0;{exact .inl f};{refine .inr ⟨χ,λe=>?_⟩;have:=hq s hs;grind}
theorem yQ {s:Sd}(hs:s∈c):ar s.1 (cT s.1 s.2.gN) (cW s.1 s.2.gN)=0/\∀m∈M,m≠s.1->0<ar m (cT s.1 s.2.gN) (cW s.1 s.2.gN):=by have ⟨d,e,f⟩:=h.mem s hs;refine ⟨(j7 (qF (hk _ d)) _).1,(f _).1 ?_⟩;have ⟨g,i⟩:=Sp.OP e.2;constructor;{cases ha:s.2.a;{exact .inr (g ha)};{exact .inl rfl}};{cases hb:s.2.b;{exact .inr (i hb)};{exact .inl rfl}}
theorem Qz {l:L3}(hl:bX l=true)(hno:∀x:aw.V2,ar l x.1 x.2=0->¬aw.pos M x){q:aw.V2}(hq:aw.pos M q)(hp:0<ar l q.1 q.2)(h0:c≠[]):tW c l=1:=by (cases hc:c with|nil=>exact Å hc h0|cons s r=>{have b:s∈c:=by{rw [hc];exact þ ..};have ⟨d,f⟩:=yQ h hk b;have:=(xh hk hl hno hq (h.mem s b).1 (x:=(cT s.1 s.2.gN,cW s.1 s.2.gN)) d f).1 hp;unfold tW;dsimp only at this;by_cases e:0<ar l (cT s.1 s.2.gN) (cW s.1 s.2.gN);{rw [aw.sg_pos.2 e];rfl};{have a:=this.resolve_left e;have z:ar l (cT s.1 s.2.gN) (cW s.1 s.2.gN)=0:=by{have h:=d;rw [a] at h ⊢;exact h};rw [aw.iT.2 z,Ã ψ,Ä a]}})
theorem Qy {l:L3}(hl:bX l=true)(hno:∀x:aw.V2,ar l x.1 x.2=0->¬aw.pos M x){q:aw.V2}(hq:aw.pos M q)(hp:ar l q.1 q.2<0):tW c l=-1:=by
 have:∀r:pz Sd,(∀s∈r,s∈c)->tW r l=-1:=by
  intro r
  induction r with
  | nil=>intro _;rfl
  | cons s r ih=>
   intro a;have b:=a s (þ ..);have ⟨d,e⟩:=yQ h hk b;have:=(xh hk hl hno hq (h.mem s b).1 (x:=(cT s.1 s.2.gN,cW s.1 s.2.gN)) d e).2 hp;dsimp only at this;unfold tW;rcases this with g|⟨g,f⟩
   ·rw [aw.UE.2 g];rfl
   ·rw [aw.iT.2 g,Ã ψ,Ã f];exact ih λu hu=>a u (ó _ hu)
 exact this c λ_ h=>h
theorem Wa {l:L3}(hl:bX l=true):(∀c',Je c l=some c'->pL (l::M) c')/\(Je c l=none->¬∃q,aw.pos (l::M) q):=by unfold Je;(cases e:yL c l à with|some v=>{exact ⟨λc' f=>by cases f;exact PD h hk hl e,λf=>by cases f⟩}|none=>{dsimp only;have d:∀x:aw.V2,ar l x.1 x.2=0->¬aw.pos M x:=λx D n=>by{have ⟨t,E,o⟩:=AF (qF hl) D;refine F5 fo e t (full_inn t) λs r=>?_;rw [<-E,<-o];exact n s.1 (h.mem s r).1};have F:c≠[]:=λG=>by{rw [G] at e;cases e};obtain ⟨q,j⟩:=h.pos;by_cases u:0<ar l q.1 q.2;{rw [Qz h hk hl d j u F];refine ⟨λc' f=>?_,λf=>by cases f⟩;cases f;refine ⟨⟨q,Qm3.2 ⟨u,j⟩⟩,λs r=>?_,λB w he=>?_,h.asc⟩;{have ⟨y,H,I⟩:=h.mem s r;refine ⟨ó _ y,H,λt=>?_⟩;rw [I t,Qm3];refine ⟨λg=>⟨λi=>?_,g⟩,λg=>g.2⟩;exact ((xh hk hl d j y (x:=(cT s.1 t,cW s.1 t)) (j7 (qF (hk _ y)) t).1 g).1 u).resolve_right λe=>i e.symm};{obtain ⟨p,C,n⟩:=he;by_cases hm:B∈M;{exact h.all B hm ⟨p,C,λm hm i=>n m (ó _ hm) i⟩};{exfalso;refine d p (((å.1 w).resolve_right hm)▸C) λm k=>n m (ó _ k) λo=>hm (o▸k)}}};{have J:ar l q.1 q.2<0:=by{by_cases z:ar l q.1 q.2=0;{exact Å j (d q z)};{grind}};rw [Qy h hk hl d j J];refine ⟨λc' f=>(by cases f),λ_=>?_⟩;rintro ⟨K,A⟩;have ⟨a,b⟩:=Qm3.1 A;have:=aw.J8 d (λm hm=>b m hm) j a;grind}})
end
theorem pL.nil:pL [] []:=⟨⟨(0,0),λm hm=>by cases hm⟩,(λs a=>by cases a),(λl b=>by cases b),List.Pairwise.nil⟩
def tI:List L3->List L3->List Sd->Option (List Sd)
 | [],_,c=>some c
 | l::r,M,c=>match Je c l with
  | some c'=>tI r (l::M) c'
  | none=>none
theorem Jc:∀{ls M:pz L3} {c:pz Sd},pL M c->(∀m∈M,bX m=true)->(∀m∈ls,bX m=true)->(∀c',tI ls M c=some c'->pL (ls.reverse++M) c')/\(tI ls M c=none->¬∃q,aw.pos (ls.reverse++M) q)
 | [],M,c,h,hk,hl=>⟨λc' e=>by cases e;exact h,λe=>by cases e⟩
 | l::r,M,c,h,hk,hl=>by
  have ⟨h1,h2⟩:=Wa h hk (hl l (þ ..));rw [List.reverse_cons,ė];unfold tI
  cases e:Je c l with
  | some c'=>exact Jc (h1 c' e) (Qm3.2 ⟨hl l (þ ..),hk⟩) λm hm=>hl m (ó _ hm)
  | none=>
   refine ⟨λc' a=>(by cases a),λ_=>?_⟩;rintro ⟨q,b⟩;exact h2 e ⟨q,λm hm=>b m (Ľ _ hm)⟩
theorem IL:∀{a b:pz L3},(a.Pairwise λl m=>aw.kQ (aw.aR l) (aw.aR m)<0)->(b.Pairwise λl m=>aw.kQ (aw.aR l) (aw.aR m)<0)->(∀x,x∈a↔x∈b)->a=b
 | [],b,_,_,h=>by cases b<;>grind [List.mem_cons_self]
 | x::a,[],_,_,h=>by have:=(h x).1 (þ ..);cases this
 | x::a,y::b,ha,hb,h=>by
  have ⟨d,f⟩:=Ġ.1 ha;have ⟨g,i⟩:=Ġ.1 hb
  have e:x=y:=by
   rcases å.1 ((h x).1 (þ ..)) with e|j
   ·exact e
   ·rcases å.1 ((h y).2 (þ ..)) with e|k;{exact e.symm};{exact Å (d y k) (aw.Gx _ _ (g x j))}
  subst e;have n:∀z:L3,¬aw.kQ (aw.aR z) (aw.aR z)<0:=λz c=>aw.Gx _ _ c c;congr 1;refine IL f i λz=>⟨λc=>?_,λc=>?_⟩<;>grind
end
section
variable{l m:L3}{c:List L3}
theorem cross_dot (l m:L3):ß l m=-Ú m l:=by unfold ß Ú;grind
theorem Sn (m l:L3):aw.cr (aw.aR m) (aw.aR l)=Ú m l:=by unfold aw.cr aw.aR Ú;grind
def oU (l m:L3):Rat:=lG l (meX l m) (meY l m)
theorem Cr (hl:Nz l)(h:ß l m≠0):oU l m=Ø m l:=by have ⟨v1,v2⟩:=val_me h;have ⟨t,a,b⟩:=AF hl v1;have c:oU l m=t:=by{unfold oU;rw [a,b];exact (j7 hl t).2};rw [a,b,pg] at v2;have d:Ú m l≠0:=λe=>h (by rw [cross_dot,e];grind);unfold Ø;grind
def uZ (l m:L3)(s:Sp):Option Sp:=
 if ß l m=0 then (if (ar m (cT l 0) (cW l 0)).num.sign<=0 then none else some s)
 else
  let s':Sp:=if 0<(Ú m l).num.sign then (if s.a=true\/s.lo<oU l m then ⟨oU l m,s.hi,false,s.b⟩ else s) else (if s.b=true\/oU l m<s.hi then ⟨s.lo,oU l m,s.a,false⟩ else s)
  if s'.a=false/\s'.b=false/\s'.hi<=s'.lo then none else some s'
theorem SB {s:Sp}:s.emp=true↔s.a=false/\s.b=false/\s.hi<=s.lo:=by cases h:s.emp;{grind [Sp.gy.1]};{refine ⟨λ_=>?_,λ_=>rfl⟩;have d:¬(s.a=true\/s.b=true\/s.lo<s.hi):=λg=>by{rw [<-Sp.gy] at g;rw [h] at g;cases g};refine ⟨?_,?_,?_⟩;{cases e:s.a;{rfl};grind};{cases e:s.b;{rfl};grind};{by_cases c:s.lo<s.hi<;>grind}}
theorem BD {s:Sp}(hl:Nz l)(hs:s.good):uZ l m s=if cF l s m=true then some (bu l s m) else none:=by unfold uZ;by_cases c:ß l m=0;{have d:Ú m l=0:=by{rw [cross_dot] at c;grind};have g:bu l s m=s:=by{unfold bu;rw [d];rfl};have f:cF l s m=decide ((j8 m l).num.sign>0):=by{unfold cF;rw [d];rfl};rw [Ä c,g,f];show (if (j8 m l).num.sign<=0 then none else some s)=_;grind};{have d:Ú m l≠0:=λe=>c (by rw [cross_dot,e];grind);rw [Ã c,Cr hl c];have es:(if 0<(Ú m l).num.sign then (if s.a=true\/s.lo<Ø m l then (⟨Ø m l,s.hi,false,s.b⟩:Sp) else s) else (if s.b=true\/Ø m l<s.hi then ⟨s.lo,Ø m l,s.a,false⟩ else s))=bu l s m:=by{obtain ⟨i,j⟩:=hs.1;obtain ⟨lo,hi,a,b⟩:=s;unfold bu;rcases cM (Ú m l) with ⟨h,e⟩|⟨h,e⟩|⟨h,e⟩;{exact Å h d};{rw [e,Ä φ];unfold Sp.meet tS;grind [cY]};{rw [e,Ã φ];unfold Sp.meet tT;grind [cY]}};have f:cF l s m=!(bu l s m).emp:=by{unfold cF;grind [cM]};grind [SB.2,SB.1]}
def eX (l:L3):List L3->Sp->Option Sp
 | [],s=>some s
 | m::r,s=>if m=l then eX l r s else match uZ l m s with
  | some s'=>eX l r s'
  | none=>none
theorem xi (hl:Nz l):∀{c:pz L3} {s w:Sp},s.good->eX l c s=some w->w.good/\∀t,w.inn t↔s.inn t/\∀m∈c,m≠l->0<ar m (cT l t) (cW l t)
 | [],s,w,h,e=>by cases e;exact ⟨h,λt=>⟨λg=>⟨g,λm hm=>by cases hm⟩,λg=>g.1⟩⟩
 | m::c,s,w,h,e=>by
  unfold eX at e;by_cases hm:m=l
  ·rw [Ä hm] at e;have ⟨g1,g2⟩:=xi hl h e;grind
  ·rw [Ã hm,BD hl h] at e;by_cases hb:cF l s m=true
   ·rw [Ä hb] at e;have ⟨g1,g2⟩:=xi hl (gR h hb) e;grind [g_.1]
   grind
theorem xg (hl:Nz l):∀{c:pz L3} {s:Sp},s.good->eX l c s=none->∀t,s.inn t->¬∀m∈c,m≠l->0<ar m (cT l t) (cW l t)
 | [],s,h,e=>by cases e
 | m::c,s,h,e=>by
  intro t ht hall;have ⟨ha,hr⟩:=Qm3.1 hall;unfold eX at e;by_cases hm:m=l
  ·rw [Ä hm] at e;exact xg hl h e t ht hr
  ·rw [Ã hm,BD hl h] at e;by_cases hb:cF l s m=true
   ·rw [Ä hb] at e;exact xg hl (gR h hb) e t ((g_.1 hb t).2 ⟨ht,ha hm⟩) hr
   ·exact g_.2 h.2 (by simpa using hb) t ht (ha hm)
theorem As (hl:Nz l):(eX l c à).isSome=true↔aw.Es c l:=by constructor;{intro h;have ⟨w,hw⟩:=Qd8.1 h;have ⟨b,d⟩:=xi hl fo hw;have ⟨t,e⟩:=rA.1 b.2;exact ⟨(cT l t,cW l t),(j7 hl t).1,((d t).1 e).2⟩};{rintro ⟨p,f,a⟩;have ⟨t,g,i⟩:=AF hl f;(cases h:eX l c à with|some w=>rfl|none=>{rw [g,i] at a;exact Å a (xg hl fo h t (full_inn t))})}
def nF (l:L3):List L3->List L3
 | []=>[l]
 | u::r=>if aw.kQ (aw.aR u) (aw.aR l)<0 then u::nF l r else if u=l then u::r else l::u::r
def ma (c:List L3):List L3->List L3->List L3
 | [],out=>out
 | l::r,out=>ma c r (if (eX l c à).isSome=true then nF l out else out)
theorem nG {x:L3}:∀{r:pz L3},x∈nF l r↔x=l\/x∈r
 | []=>by simp [nF]
 | u::r=>by
  unfold nF;split
  ·rw [å,nG,å];exact or_left_comm
  split
  ·rename_i e;subst e;rw [å];exact ⟨.inr,λh=>h.elim .inl id⟩
  ·rw [å]
theorem JG:∀{r:pz L3},(r.Pairwise λs u=>aw.kQ (aw.aR s) (aw.aR u)<0)->(∀s∈r,aw.kQ (aw.aR s) (aw.aR l)=0->s=l)->(nF l r).Pairwise λs u=>aw.kQ (aw.aR s) (aw.aR u)<0
 | [],_,_=>Qd1 _ _
 | u::r,h,hz=>by
  have ⟨h1,h2⟩:=Ġ.1 h;unfold nF;split
  ·rename_i a;refine Ġ.2 ⟨λy c=>?_,JG h2 (λs b=>hz s (ó _ b))⟩<;>grind [nG.1]
  grind [aw.Rv,List.pairwise_cons.2,NM]
theorem ZC (hk:∀m∈c,bX m=true)(hl:l∈c)(hm:m∈c)(el:aw.Es c l)(em:aw.Es c m)(h:aw.kQ (aw.aR l) (aw.aR m)=0):l=m:=by by_cases e:l=m;{exact e};exfalso;obtain ⟨p,a,b⟩:=em;obtain ⟨r,d,f⟩:=el;exact Kd (Ej (hk l hl)) h a (b l hl e) d (f m hm λg=>e g.symm)
theorem HG (hk:∀m∈c,bX m=true):∀{r out:pz L3},(∀m∈r,m∈c)->(∀m∈out,m∈c/\aw.Es c m)->(out.Pairwise λs u=>aw.kQ (aw.aR s) (aw.aR u)<0) ->((ma c r out).Pairwise λs u=>aw.kQ (aw.aR s) (aw.aR u)<0)/\∀x,x∈ma c r out↔x∈out\/x∈r/\aw.Es c x
 | [],out,_,_,h=>⟨h,λx=>by simp [ma]⟩
 | l::r,out,hr,ho,h=>by
  have ⟨hl,hr⟩:=Qm3.1 hr;unfold ma;by_cases he:aw.Es c l
  ·rw [Ä ((As (qF (hk l hl))).2 he)]
   have ⟨a,b⟩:=HG hk (r:=r) (out:=nF l out) hr (λm hm=>by
    rcases nG.1 hm with rfl|hm
    ·exact ⟨hl,he⟩
    ·exact ho m hm) (JG h λs d e=>ZC hk (ho s d).1 hl (ho s d).2 he e)
   refine ⟨a,λx=>?_⟩;rw [b,nG,å];grind
  ·rw [Ã λg=>he ((As (qF (hk l hl))).1 g)];have ⟨a,b⟩:=HG hk (r:=r) (out:=out) hr ho h;grind
theorem Es.of {M N:pz L3}(h:∀x,x∈M->x∈N)(e:aw.Es N l):aw.Es M l:=by obtain ⟨p,a,b⟩:=e;exact ⟨p,a,λm hm=>b m (h m hm)⟩
theorem Sj {ls:pz L3}(hk:∀m∈ls,bX m=true):(∀c,tI ls [] []=some c->ma ls ls []=c.map Prod.fst/\pL ls.reverse c/\(ls=[]\/ma ls ls []≠[]))/\(tI ls [] []=none->ma ls ls []=[]/\ls≠[]/\¬∃q,aw.pos ls q):=by have ⟨o,u⟩:=Jc (ls:=ls) pL.nil (λm hm=>by cases hm) hk;rw [Ć] at o u;have ⟨v,i⟩:=HG hk (r:=ls) (out:=[]) (λm hm=>hm) (λm hm=>by cases hm) List.Pairwise.nil;have i:∀x,x∈ma ls ls []↔x∈ls/\aw.Es ls x:=λx=>(i x).m ⟨λh=>h.elim ţ id,.inr⟩;have b:∀q,aw.pos ls q↔aw.pos ls.reverse q:=λq=>⟨λh m hm=>h m (Qf2.1 hm),λh m hm=>h m (Qf2.2 hm)⟩;constructor;{intro c e;have g:=o c e;obtain ⟨q,d⟩:=g.pos;have d:=(b q).2 d;refine ⟨?_,g,?_⟩;{refine IL v (List.pairwise_map.2 g.asc) λx=>?_;rw [i,ò];constructor;{grind [g.all,Es.of,List.mem_reverse.1]};{rintro ⟨s,w,rfl⟩;have ⟨j,y,z⟩:=g.mem s w;have ⟨t,A⟩:=rA.1 y.2;have j:=Qf2.1 j;exact ⟨j,⟨(cT s.1 t,cW s.1 t),(j7 (qF (hk _ j)) t).1,λm hm n=>(z t).1 A m (Qf2.2 hm) n⟩⟩}};{by_cases k:ls=[];{exact .inl k};right;have ⟨l,E,he⟩:=aw.N6 (L_ hk d) (λm hm=>Ej (hk m hm)) d k;grind}};{intro e;have f:¬∃q,aw.pos ls q:=λ⟨q,d⟩=>u e ⟨q,(b q).1 d⟩;refine ⟨?_,λk=>f ⟨(0,0),λm hm=>by rw [k] at hm;cases hm⟩,f⟩;refine List.eq_nil_iff_forall_not_mem.2 λx B=>?_;obtain ⟨a,p,C,D⟩:=(i x).1 B;obtain ⟨q,d,-⟩:=aw.G9 (Ej (hk x a)) C D [] (λm hm=>by cases hm);exact f ⟨q,d⟩}
theorem xH (h:bX l=true):bX (Õ l)=true:=by unfold bX Õ cq at *;grind
theorem P8 (hk:∀m∈c,bX m=true):(c=[]\/∃l∈c,aw.Es c l)↔∃q,aw.pos c q:=by constructor;{rintro (rfl|⟨l,d,p,e,f⟩);{exact ⟨(0,0),λm hm=>by cases hm⟩};{obtain ⟨q,a,-⟩:=aw.G9 (Ej (hk l d)) e f [] (λm hm=>by cases hm);exact ⟨q,a⟩}};{rintro ⟨q,a⟩;by_cases b:c=[];{exact .inl b};{exact .inr (aw.N6 (L_ hk a) (λm hm=>Ej (hk m hm)) a b)}}
section
variable {M:List L3} {c:List Sd} (h:pL M c) (hk:∀m ∈ M,bX m=true)
include h hk
theorem Wb {p:aw.V2}(hp:∀s∈c,0<=ar s.1 p.1 p.2):∀m∈M,0<=ar m p.1 p.2:=by intro m hm;obtain ⟨q,b⟩:=h.pos;have key:∀t:Rat,0<=t->t<1->aw.pos M (q.1+t*(p.1-q.1),q.2+t*(p.2-q.2)):=λt t0 t1=>h.int hk λs d=>by{rw [aw.vY];have f:=b s.1 (h.mem s d).1;have j:=aw.mn t0 (hp s d);have k:=aw.mp (show 1-t>0 by grind) f;grind};by_cases g:0<=ar m p.1 p.2;{exact g};exfalso;have ⟨t,t0,t1,e⟩:=aw.AR (y:=(ar m q.1 q.2,ar m p.1 p.2)) (b m hm) (s:=1) φ (by unfold aw.mx;grind);have a:t<1:=by{by_cases i:t=1;{subst i;unfold aw.mx at e;dsimp only at e;grind};{grind}};have:=key t χ a m hm;rw [aw.vY] at this;unfold aw.mx at e;grind
theorem Jd (p:aw.V2):((∀s∈c,0<=ar s.1 p.1 p.2)↔∀m∈M,0<=ar m p.1 p.2)/\((∀s∈c,0<ar s.1 p.1 p.2)↔∀m∈M,0<ar m p.1 p.2):=
 ⟨⟨λg=>Wb h hk g,λg s a=>g _ (h.mem s a).1⟩,λg=>h.int hk g,λg s a=>g _ (h.mem s a).1⟩
end
end
section
theorem dot_rev (l m:L3):Ú (Õ l) m=-Ú l m:=by unfold Ú Õ;simp only [Qh2];grind
theorem NP (l m:L3):j8 (Õ l) m=-j8 l m:=by unfold j8;exact val_rev ..
theorem cutP_rev {l m:L3}(h:Ú l m≠0):Ø (Õ l) m=Ø l m:=by unfold Ø;rw [dot_rev,NP];grind
end
section
def Ol (s:Sp)(t:Rat):s.neg.inn t↔s.inn (-t):=by obtain ⟨c,d,a,b⟩:=s;unfold Sp.neg Sp.inn;cases a<;>cases b<;>simp<;>grind
def rev_ne {l:L3}(h:bX l=true):Õ l≠l:=λe=>by
 have b:=Ej h;rw [<-e,Aq] at b;have a:=Æ aw.aR e;rw [Aq] at a;have c:=Æ Prod.fst a;have d:=Æ Prod.snd a;dsimp only at c d b;grind
end
end Go.Proofs.Tryz
