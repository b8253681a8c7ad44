import Derived.Test.YtbdlbajodgoneaaGreatDoorS20
set_option linter.all false
open Go.IntKind (i64 u64 u32)
open Go.Value renaming slice→yD,pointer→Õ,int→Ô,agg→dB,bool→gF,tuple→ê
namespace Go.Proofs.Tryz
open Go.Eng Go.Big
def Po (V:Ó):Ó:=⟨V.w,λb=>b<V.w.heap.size,λ_=>False,λ_ h=>h,λ_ h=>h.elim⟩
def MU {f:FuncId}{args:Array un}{V:ut}{o:Obj}(h:À f args (Po V) λr W=>∃u,r=Õ (some ⟨u,0,none⟩)/\W.aX u o):À f args V λr W=>∃u,r=Õ (some ⟨u,0,none⟩)/\V.w.heap.size<=u/\W.aX u o:=
 ⟨h.1,h.2.s λ_ _ ⟨_,he,a,u,d,c⟩=>⟨_,he,⟨a.size,λb c _=>a.aX b c (λh=>h),a.os,a.tape,a.out,a.dr⟩,u,d,Nat.le_of_not_lt c.1,λe=>c.1 (V.hH u e),c.2⟩⟩
def J6 {V:ut}{y:OA}{ln lc:Nat}(z:ln<=lc):À 4 #[yD y ln lc] V λr W=>∃u,r=Õ (some ⟨u,0,none⟩)/\V.w.heap.size<=u/\W.aX u (.cells #[yD y (min ln 400) lc,Ô .i64 0] 65 (0,0)):=by refine MU (Jp (Po V) _ ?_);have e:cN (ln:Int) 400=((min ln 400:Nat):Int):=by{unfold cN;simp only [Nat.min_def];split<;>split<;>omega};rw [e,ß];have:=Wj5 ln 400;exact ⟨Ź,λb c u a=>⟨u,rfl,a⟩⟩
def X0 {t:Tr}(h:t.dU kh):t.dU λx=>cq x=true:=Tr.dU.imp (λ_ h=>h.1) h
def Ij {t:Tr}(h:t.dU kh):t.dU Bd:=Tr.dU.imp (λ_ h=>h.2) h
def Tn (l:L3):bM (bM l)=bM l:=by unfold bM;by_cases h:l.1<0\/l.1=0/\l.2.1<0;{rw [Ä h,Ã];unfold Ö;dsimp only;omega};rw [Ã h,Ã h]
def PK {l:L3}(h:cq l=true):cq (bM l)=true:=by unfold bM;split;{unfold cq Ö cj at *;simp only [Ů];rw [Đ,decide_eq_true_iff,decide_eq_true_iff] at h ⊢;exact ⟨λe=>h.1 Ź,h.2⟩};exact h
end Go.Proofs.Tryz
namespace Go.Eng
def Ó.bare (V:Ó)(b:Nat):Ó:=⟨V.w,λx=>V.H x/\x≠b,λx=>V.X x/\x≠b,λx h=>V.hH x h.1,λx h=>⟨V.hX x h.1,h.2⟩⟩
def Ó.WD (V:ut)(b:Nat):V.Le (V.bare b):=λ_ _ h=>⟨λa=>h.1 a.1,h.2⟩
def aa.bare {P:Program}{f:FuncId}{args:Array un}{V:ut}{b:Nat}{R:un->ut->Prop}(u:b<V.w.heap.size)(h:aa P f args (V.bare b) R):aa P f args V λr V'=>V'.w.heap[b]?=V.w.heap[b]?/\R r (V'.bare b):=by refine ⟨h.1,h.2.s λ_ g ⟨r,he,a,c⟩=>⟨r,he,⟨a.size,λx d e=>a.aX x d λh=>e h.1,a.os,a.tape,a.out,a.dr⟩,a.aX b u (λh=>h.2 rfl),c⟩⟩
theorem Ó.jQ {V:ut}{b:Nat}{a:Addr}{v:un}(h:(V.bare b).at a v)(u:a.block≠b):V.at a v:=⟨λc=>h.1 ⟨c,u⟩,h.2⟩
def JC (V:Ó)(b:Nat):Prop:=∃(cs:Array Value)(ty:TypeId)(m:Nat×Nat),V.w.heap[b]?=some (.cells cs ty m)/\∀v∈cs,∀k z,v≠.int k z
theorem JC.ne {V:ut}{b:Nat}(h:JC V b){a:Addr}{k:IntKind}{z:Int}(u:(V.bare b).at a (Ô k z)):a.block≠b:=by obtain ⟨cs,ty,m,d,g⟩:=h;intro e;have c:=u.2;unfold World.cell? at c;rw [e] at c;have f:(V.bare b).w.heap[b]?=some (.cells cs ty m):=d;grind
end Go.Eng
namespace Go.Proofs.Tryz
open Go.Eng Go.Big
variable{V:Ó}{b cc cn n:Nat}{cp p:OA}{S c ls:List L3}{v:Value}{l:L3}{vs:List Value}
theorem RD.jQ (u:JC V b){c:Nat}{ds:zA Nat}(h:RD (V.bare b) p n c ds):RD V p n c ds:=by refine ⟨h.len,h.cap,λi v a=>?_,h.gT,h.KS⟩;have ⟨f,e,g⟩:=h.sl i v a;have:∃d:Int,v=Ô .u32 d:=by{unfold aO at a;grind};grind [Ó.jQ,u.ne]
theorem RL.jQ (u:JC V b){x y z:Int}(h:RL (V.bare b) v x y z):RL V v x y z:=by obtain ⟨_,_,_,_,_,_,_,_,_,e,a,c,d⟩:=h;exact ⟨_,_,_,_,_,_,_,_,_,e,RD.jQ u a,RD.jQ u c,RD.jQ u d⟩
theorem FW (a:Addr)(i:Nat):(a.add i).block=a.block:=by unfold Addr.add;split<;>rfl
theorem AT.jQ (M:JC V b){root:Int}{l:zA Nd}(h:AT (V.bare b) v root l)(N:∀x∈l,cq x.ln=true):AT V v root l:=by obtain ⟨q,n,c,rfl,f⟩:=h;refine ⟨q,n,c,rfl,f.len,f.cap,?_,f.KS⟩;obtain ⟨D,a,k⟩:=f.row;(cases l with|nil=>{exact ⟨[],λi v h=>by simp at h,λi d h=>by simp at h⟩}|cons d l=>{have E:∀g,q=some g->g.block≠b:=by{intro g e;obtain ⟨m,o,p,r,s,t,u,w,y,z,A,B,j,-⟩:=k 0 d rfl;have ⟨F,J,G⟩:=a _ _ (j 6 _ rfl);grind [M.ne,FW]};refine ⟨D,λi v H=>?_,λi x C=>?_⟩;{have ⟨g,e,G⟩:=a i v H;grind [Ó.jQ,FW]};have ⟨m,o,p,r,s,t,u,w,y,z,A,B,j,I⟩:=k i x C;exact ⟨m,o,p,r,s,t,u,w,y,z,A,B,j,.inl (RL.jQ M (I.ok (N x (Qb7 C))))⟩})
theorem VQ:∀{t:Tr} {k:Nat},t.dU kh->∀x∈wr k t,cq x.ln=true
 | .leaf _,_,_,x,h=>by cases h
 | .node l a b,k,⟨u,y,z⟩,x,h=>by
  rcases í.1 h with rfl|h
  ·exact u.1
  ·rcases ü.1 h with h|h
   ·exact VQ y x h
   ·exact VQ z x h
theorem uM {V:ut}{u:Nat}{i:md}{b1:md}{D:OA}{E c1:Nat}{F:md}{M:OA}{N O:Nat}{Z:md}{p3:OA}{n3 c3:Nat}{pl pr:OA}{ln:L3}{x y:Tr}(hw:V.w.heap[u]?=some (.cells #[gF false,gF i,gF b1,yD D E c1,gF F,yD M N O,gF Z,yD p3 n3 c3,Õ pl,Õ pr] 73 (0,0)))(hl:RL V (dB #[gF b1,yD D E c1,gF F,yD M N O,gF Z,yD p3 n3 c3]) ln.1 ln.2.1 ln.2.2)(hx:RW V pl x)(hy:RW V pr y)(ha:(Tr.node ln x y).dU kh)(hs:(Tr.node ln x y).size<=1000000):À 11 #[Õ (some ⟨u,0,none⟩)] V λr W=>W.w.heap[u]?=some (.cells #[gF false,gF i,gF b1,yD D E c1,gF F,yD M N O,gF Z,yD p3 n3 c3,Õ pl,Õ pr] 73 (0,0))/\AT W r (rt 0 (.node ln x y)) (wr 0 (.node ln x y)):=by have a:=(Qr3.1 hw).1;have b:=V.WD u;refine (aa.bare a (ui (V:=V.bare u) (p:=some ⟨u,0,none⟩) (t:=.node ln x y) ⟨u,i,b1,D,E,c1,F,M,N,O,Z,p3,n3,c3,pl,pr,rfl,⟨λh=>h.2 rfl,hw⟩,hl.le b,hx.le b,hy.le b⟩ ha hs)).s ?_;rintro r V' g ⟨c,d⟩;rw [hw] at c;refine ⟨c,AT.jQ ⟨_,_,_,c,?_⟩ d (VQ ha)⟩;intro v f k z e;subst e;simp at f
theorem th {a b:Rat}:ç a b<0↔a<b:=by grind [fI.1,HO.1,HP.1]
theorem Bu:Sz 10 ((1:Int):Rat):=E3 (z:=1)
theorem sz_v (h:Bd l){k:Nat}{p:Rat×Rat}(s1:Sz k p.1)(s2:Sz k p.2):Sz (2*k+3010) (aG l p.1 p.2):=by have:=h.eO;exact (((this.1.mul s1).add (this.2.1.mul s2)).add this.2.2).s ω
theorem UC {p v:Rat×Rat}{i:Nat}(h:i<ls.length)(s:Rat):(ls.take (i+1)).foldl (ax.Ii p v) s=ax.Ii p v ((ls.take i).foldl (ax.Ii p v) s) ls[i]:=by grind [List.take_append_getElem]
theorem Pj {a b:Rat}:ç a b>0↔b<a:=by grind [cE]
abbrev S16:=Bool×OA×Nat×Nat×OA×Nat×Nat×Bool×OA×Nat×Nat×OA×Nat×Nat×Bool×Bool
def agS (z:S16):Value:=.agg #[.bool z.1,.slice z.2.1 z.2.2.1 z.2.2.2.1,.slice z.2.2.2.2.1 z.2.2.2.2.2.1 z.2.2.2.2.2.2.1,.bool z.2.2.2.2.2.2.2.1,.slice z.2.2.2.2.2.2.2.2.1 z.2.2.2.2.2.2.2.2.2.1 z.2.2.2.2.2.2.2.2.2.2.1,.slice z.2.2.2.2.2.2.2.2.2.2.2.1 z.2.2.2.2.2.2.2.2.2.2.2.2.1 z.2.2.2.2.2.2.2.2.2.2.2.2.2.1,.bool z.2.2.2.2.2.2.2.2.2.2.2.2.2.2.1,.bool z.2.2.2.2.2.2.2.2.2.2.2.2.2.2.2]
theorem rsS {u:md}{y:OA}{z xc:Nat}{D:OA}{E F:Nat}{M:md}{N:OA}{O Z:Nat}{yq:OA}{ym ye:Nat}{xa ya:md}{s:Sp}(h:oO V (dB #[gF u,yD y z xc,yD D E F,gF M,yD N O Z,yD yq ym ye,gF xa,gF ya]) s):xa=s.a/\ya=s.b/\RQ V (dB #[gF u,yD y z xc,yD D E F]) s.lo/\RQ V (dB #[gF M,yD N O Z,yD yq ym ye]) s.hi:=by obtain ⟨_,_,_,_,_,_,_,_,_,_,_,_,_,_,e,c,d⟩:=h;grind
theorem rsS' {u:md}{y:OA}{z xc:Nat}{D:OA}{E F:Nat}{M:md}{N:OA}{O Z:Nat}{yq:OA}{ym ye:Nat}{xa ya:md}{s:Sp}(ea:xa=s.a)(eb:ya=s.b)(h1:RQ V (dB #[gF u,yD y z xc,yD D E F]) s.lo)(h2:RQ V (dB #[gF M,yD N O Z,yD yq ym ye]) s.hi):oO V (dB #[gF u,yD y z xc,yD D E F,gF M,yD N O Z,yD yq ym ye,gF xa,gF ya]) s:=by subst ea eb;exact qxW ⟨rfl,h1,h2⟩
def rL (l m:L3)(s:Sp):Sp:=if 0<(Û m l).num.sign then (if s.a=true\/s.lo<pN l m then ⟨pN l m,s.hi,false,s.b⟩ else s) else (if s.b=true\/pN l m<s.hi then ⟨s.lo,pN l m,s.a,false⟩ else s)
theorem Gr {m:L3}{s:Sp}(u:Ý l m≠0):wq l m s=if (rL l m s).a=false/\(rL l m s).b=false/\(rL l m s).hi<=(rL l m s).lo then none else some (rL l m s):=by unfold wq;rw [Ã u];rfl
theorem QV {m:L3}{s:Sp}(u:Ý l m=0):wq l m s=if (aG m (cu l 0) (cw l 0)).num.sign<=0 then none else some s:=by unfold wq;rw [Ä u]
theorem Qk {m:L3}(u:Nz l)(y:Bd l)(z:Bd m)(D:Ý l m≠0):Sz 100000 (pN l m):=by rw [C9 u D];exact (kW y.eO z.eO).s ω
theorem mid_sz {m:L3}{s:Sp}(y:Nz l)(z:Bd l)(D:Bd m)(E:Ý l m≠0)(u:s.sz 100000):(rL l m s).sz 100000:=by
 have:=Qk y z D E;unfold rL;split<;>split<;>first|exact u|exact ⟨this,u.2⟩|exact ⟨u.1,this⟩
theorem TC {m:L3}{s w:Sp}(z:Nz l)(u:Bd l)(y:Bd m)(D:s.good)(E:s.sz 100000)(e:wq l m s=some w):w.good/\w.sz 100000:=by grind [Cj,lN,Bs,u.eO,y.eO]
theorem PX {L:L3}(h:RL V v L.1 L.2.1 L.2.2)(u:Nz L)(y:Bd L):À 88 #[v] V λr W=>RP W r (cu L 0) (cw L 0):=by have sl:=y.eO;refine (vS h (N9 u) sl.1 sl.2.1 sl.2.2).s λr V' _ g=>?_;have a:cu L 0=_:=rfl;unfold cu cw;unfold fK;grind
theorem IW {L:L3}(u:Bd L):Sz 30000 (cu L 0)/\Sz 30000 (cw L 0):=by have sl:=u.eO;exact ⟨Sz.s (nI sl (DF 1000)) ω,Sz.s (nJ sl (DF 1000)) ω⟩
theorem vX {i:Nat}(h:aZ 6 bW V cp cn ls)(hb:∀l∈ls,Bd l)(hk:∀l∈ls,cq l=true)(hl:ls.length<=1000)(hi:i<ls.length):À 193 #[yD cp cn cc,Ô .i64 i] V λr W=>∃u s,r=ê #[u,gF (fh ls[i] ls æ).isSome]/\oO W u s/\s.sz 100000/\∀w,fh ls[i] ls æ=some w->s=w:=by
 have hn:=h.len;subst hn;have ⟨is,b1,p1,n1,c1,b2,p2,n2,c2,b3,p3,n3,c3,a,Z,a0,a1,a2,a3,a4,a5,n⟩:=Bm h hi;have t:=hb _ (ò hi);have ok:=hk _ (ò hi);generalize el:ls[i]=L at *;have sl:=t.eO;have nz:=eI ok;have hd:=pU t;refine FK V _ ⟨is,Ź,b1,p1,n1,c1,b2,p2,n2,c2,b3,p3,n3,c3,a,(by rw [ß];exact Z),a0,a1,a2,a3,a4,a5,λV1 l1=>vV.s ?_⟩;rintro r V2 l2 gf;obtain ⟨_,_,_,_,_,_,_,_,_,_,_,_,_,_,rfl⟩:=rW gf;refine ⟨_,_,_,_,_,_,_,_,_,_,_,_,_,_,_,_,rfl,λz V'=>∃(j:Nat)(s:Sp),z.1=(j:Int)/\j<=ls.length/\oO V' (agS z.2) s/\s.good/\s.sz 100000/\fh L ls æ=fh L (ls.drop j) s,λz=>(ls.length-z.1).toNat,⟨(0,_,_,_,_,_,_,_,_,_,_,_,_,_,_,_,_),Ÿ,0,æ,rfl,å _,gf,iE,Xg,by rw [Wq1]⟩,?_⟩;rintro ⟨z,B,C,D,E,F,G,H,I,J,N,O,P,Q,S,T,U⟩ V3 l3 ⟨j,s,ez,hj,gs,sg,v,d⟩;dsimp only at ez gs ⊢;subst ez;obtain ⟨rfl,rfl,X,Y⟩:=rsS gs;have b0:=(l1.m l2).m l3;refine ⟨θ,λf=>?_,λf b4 EU=>?_⟩;rotate_left
 ·have e:j=ls.length:=by{have:=Â f;omega};subst e;rw [Qr7] at d;exact ⟨_,s,by rw [d];rfl,gs.le EU,v,λw e=>by rw [d] at e;exact ś e⟩
 have f:j<ls.length:=by have:=Á f;omega
 have w1:i64.wrap ((j:Int)+1)=((j+1:Nat):Int):=by rw [aq ω];rfl
 rw [w1,ß];refine ldL (R:=bW) br ra f λB1 P1 N1 C1 B2 P2 N2 C2 B3 P3 N3 C3 o=>?_;have x:=hb _ (ò f);have sm:=x.eO;have Nv:=pU x;have ej:j=i->ls[j]=L:=λe=>by subst e;exact el
 rw [(ī f)] at d;generalize ls[j]=M at *;have a6:fh L (M::ls.drop (j+1)) s=if M=L then fh L (ls.drop (j+1)) s else match wq L M s with|some s'=>fh L (ls.drop (j+1)) s'|none=>none:=rfl
 rw [a6] at d;have next:∀{W:ut} {B:md} {C:OA} {D E:Nat} {F:OA} {G H:Nat} {I:md} {J:OA} {N O:Nat} {P:OA} {Q S:Nat} {T U:md} {s':Sp},oO W (dB #[gF B,yD C D E,yD F G H,gF I,yD J N O,yD P Q S,gF T,gF U]) s'->s'.good->s'.sz 100000->fh L ls æ=fh L (ls.drop (j+1)) s'->∃(j':Nat)(s:Sp),((j+1:Nat):Int)=(j':Int)/\j'<=ls.length/\oO W (dB #[gF B,yD C D E,yD F G H,gF I,yD J N O,yD P Q S,gF T,gF U]) s/\s.good/\s.sz 100000/\fh L ls æ=fh L (ls.drop j') s:=λg1 g2 g3 e=>⟨j+1,_,rfl,f,g1,g2,g3,e⟩;refine ⟨λz _=>z=decide (M=L),⟨λc=>⟨true,σ,?_⟩,λc V4 l4=>(fS (n.le au) (o.le l4) sl sm).s ?_⟩,?_⟩
 ·exact (Ç (ej (by have:=Á c;omega))).symm
 ·rintro r V5 l5 rfl;exact ⟨_,rfl,(iQ L M==(0:Int)),σ,by rw [Ka];exact É.2 eq_comm⟩
 rintro z V6 l6 rfl;refine ⟨θ,λc=>?_,λc V7 l7=>(IA (n.le au) (o.le au) sl sm).s ?_⟩
 ·rw [Ä (Á c)] at d;exact ⟨(((j+1:Nat):Int),_,_,_,_,_,_,_,_,_,_,_,_,_,_,_,_),ω,σ,next (gs.le l6) sg v d⟩
 rw [Ã (Â c)] at d;rintro r V8 l8 ⟨u,rfl,q0,q1⟩;have ⟨s1,s2⟩:=Bt sl sm;have Px:=l6.m (l7.m l8);by_cases p:Ý L M=0
 ·have qz:=q0 p;unfold JD at qz;subst qz;rw [QV p] at d;refine wwQ ⟨rfl,λ_ V9 l9=>(PX (n.le au) nz t).s ?_,λh=>by simp [p] at h⟩;rintro r eV a7 gB;obtain ⟨_,_,_,_,_,_,_,_,_,_,_,_,rfl,-⟩:=id gB;have y:=Px.m (l9.m a7);refine qxW ⟨rfl,λeW cU=>(yO (o.le au) (gB.le cU) (sm.up (K:=30000) ω) (IW t).1 (IW t).2).s ?_⟩;rintro r gC dI rfl;have A:=y.m (cU.m dI);refine ⟨_,rfl,λc iI dS=>?_,λc=>?_⟩;{rw [Ä (Á c)] at d;exact ⟨_,s,by rw [d];rfl,gs.le au,v,λw e=>by rw [d] at e;cases e⟩};rw [Ã (Â c)] at d;exact ⟨(((j+1:Nat):Int),_,_,_,_,_,_,_,_,_,_,_,_,_,_,_,_),ω,σ,next (gs.le A) sg v d⟩
 have hp:=q1 p;obtain ⟨_,_,_,_,_,_,_,_,_,_,_,_,rfl,-⟩:=id hp;refine wwQ ⟨rfl,λh=>by simp [p] at h,λ_ kK fH=>(pQ (n.le au) (hp.le fH) nz (sl.up (K:=30000) ω) (s1.s ω) (s2.s ω)).s ?_⟩;rintro r ke fB gt;obtain ⟨_,_,_,_,_,_,rfl⟩:=gt.shape;have st:=Qk nz t x p;have XL:=Px.m (fH.m fB);refine qxQ ⟨rfl,λkf e_=>(dZ (o.le au) sm.1 sm.2.1 sm.2.2 ω).s ?_⟩;rintro r lu gX gm;obtain ⟨_,_,_,_,_,_,_,_,_,_,_,_,rfl,-⟩:=id gm;have XM:=XL.m au;refine qxW ⟨rfl,λmD gj=>(dZ (n.le au) sl.1 sl.2.1 sl.2.2 ω).s λr nf je gl=>RP.ex gl λ_ _ gl _ _=>λkg il=>(hU (k:=1000) (gm.le au) (gl.le il) Nv.1 Nv.2 hd.1 hd.2).s ?_⟩;rintro r qC nQ gc
 have b5:RQ qC r (Û M L):=by have e:=(Tt M L).symm;rw [e];exact gc
 obtain ⟨_,_,_,_,_,_,rfl⟩:=gc.shape;refine qxQ ⟨rfl,λqN lZ=>(lL ra).s ?_⟩;rintro r qD l_ rfl;have a9:=((XM.m au).m au).m au;have a8:=(e_.m gX).m ((gj.m je).m ((il.m nQ).m au));refine ⟨_,rfl,λz W=>oO W (agS z) (rL L M s),⟨λq=>?_,λq=>?_⟩,?_⟩
 ·have q:=Á q;refine ⟨λz _=>z=decide (s.a=true\/s.lo<pN L M),⟨λm=>⟨true,σ,?_⟩,λm Aa nt=>(dR (gt.le au) (X.le au) st v.1).s ?_⟩,?_⟩;{exact (Ç (.inl m)).symm};{rintro r A8 uV rfl;refine ⟨_,rfl,decide (ç (pN L M) s.lo>(0:Int)),σ,?_⟩;rw [m];exact É.2 ⟨λh=>.inr (Pj.1 h),λh=>h.elim π Pj.2⟩};rintro z MD Bj rfl;refine ⟨θ,λc=>⟨(_,_,_,_,_,_,_,_,_,_,_,_,_,_,_,_),σ,?_⟩,λc=>⟨(_,_,_,_,_,_,_,_,_,_,_,_,_,_,_,_),σ,?_⟩⟩;{have e:rL L M s=⟨pN L M,s.hi,false,s.b⟩:=by{unfold rL;rw [Ä q,Ä (Á c)]};rw [e];exact rsS' rfl rfl (gt.le au) (Y.le au)};have e:rL L M s=s:=by{unfold rL;rw [Ä q,Ã (Â c)]};rw [e];exact ra
 ·have q:=Â q;refine ⟨λz _=>z=decide (s.b=true\/pN L M<s.hi),⟨λm=>⟨true,σ,?_⟩,λm Aa nt=>(dR (gt.le au) (Y.le au) st v.2).s ?_⟩,?_⟩;{exact (Ç (.inl m)).symm};{rintro r A8 uV rfl;refine ⟨_,rfl,decide (ç (pN L M) s.hi<(0:Int)),σ,?_⟩;rw [m];exact É.2 ⟨λh=>.inr (th.1 h),λh=>h.elim π th.2⟩};rintro z MD Bj rfl;refine ⟨θ,λc=>⟨(_,_,_,_,_,_,_,_,_,_,_,_,_,_,_,_),σ,?_⟩,λc=>⟨(_,_,_,_,_,_,_,_,_,_,_,_,_,_,_,_),σ,?_⟩⟩;{have e:rL L M s=⟨s.lo,pN L M,s.a,false⟩:=by{unfold rL;rw [Ã q,Ä (Á c)]};rw [e];exact rsS' rfl rfl (X.le au) (gt.le au)};have e:rL L M s=s:=by{unfold rL;rw [Ã q,Ã (Â c)]};rw [e];exact ra
 rw [Gr p] at d;have kk:=λw=>TC (w:=w) nz t x sg v;rw [Gr p] at kk;have sz:=mid_sz nz t x p v;generalize rL L M s=s' at *;clear gs X Y;rintro ⟨B,C,D,E,F,G,H,I,J,N,O,P,Q,S,T,U⟩ SH MJ gs;dsimp only at gs ⊢;obtain ⟨rfl,rfl,X,Y⟩:=rsS gs;refine ⟨θ,λz _=>z=decide (s'.a=false/\s'.b=false/\s'.hi<=s'.lo),⟨λm=>⟨λhb Z_ H6=>(dR ra ra sz.1 sz.2).s ?_,λhb=>⟨false,σ,?_⟩⟩,λm=>⟨false,σ,?_⟩⟩,?_⟩
 ·rintro r b6 H7 rfl;rw [ŋ] at m hb;refine ⟨_,rfl,decide (ç s'.lo s'.hi≥(0:Int)),σ,É.2 ⟨λh=>⟨m,hb,?_⟩,λh=>?_⟩⟩;{refine Rat.not_lt.1 λg=>?_;have:=th.2 g;omega};refine Ww7.1 λg=>?_;have:=th.1 g;have:=h.2.2;grind
 ·rw [Qm5] at hb;exact (È λh=>by rw [hb] at h;cases h.2.1).symm
 ·rw [Qm5] at m;exact (È λh=>by rw [m] at h;cases h.1).symm
 rintro z V_ CG rfl;refine ⟨θ,λc b7 MK=>?_,λc=>?_⟩
 ·rw [Ä (Á c)] at d;exact ⟨_,s',by rw [d];rfl,gs.le au,sz,λw e=>by rw [d] at e;cases e⟩
 ·rw [Ã (Â c)] at d kk;have ⟨k1,k2⟩:=kk _ rfl;exact ⟨(((j+1:Nat):Int),_,_,_,_,_,_,_,_,_,_,_,_,_,_,_,_),ω,σ,next (gs.le CG) k1 k2 d⟩
theorem Pr (x:L3):∀(O:zA L3)(j:Nat),j<=O.length->(∀(y:Nat)(h:y<O.length),y<j->ax.fg (ax.bj O[y]) (ax.bj x)<0)->(∀h:j<O.length,¬ax.fg (ax.bj O[j]) (ax.bj x)<0) ->rF x O=if ∃h:j<O.length,O[j]=x then O else O.take j++x::O.drop j
 | [],j,D,_,_=>by
  rw [Ã (λ⟨h,_⟩=>Å h (Œ _))];simp [rF]
 | u::r,0,_,_,hge=>by
  have z:¬ax.fg (ax.bj u) (ax.bj x)<0:=hge (Ww2 _);unfold rF;rw [Ã z];by_cases e:u=x
  ·rw [Ä e,Ä ⟨Ww2 _,e⟩]
  ·rw [Ã e,Ã (λ⟨_,h⟩=>e h)];rfl
 | u::r,j+1,D,hlt,hge=>by
  have z:ax.fg (ax.bj u) (ax.bj x)<0:=hlt 0 (Ww2 _) (Ww2 _);unfold rF;rw [Ä z,Pr x r j (by simpa using D) (λy h a=>hlt (y+1) (by simpa using h) ω) (λh=>hge (by simpa using h))];by_cases c:∃h:j<r.length,r[j]=x
  ·obtain ⟨h,e⟩:=c;rw [Ä ⟨h,e⟩,Ä ⟨by simpa using h,e⟩]
  ·rw [Ã c,Ã (λ⟨h,e⟩=>c ⟨by simpa using h,e⟩)];rfl
theorem EJ {c:Nat}(h:aZ 6 bW V p n ls)(hb:∀l∈ls,Bd l)(hk:∀l∈ls,cq l=true)(hl:ls.length<=1000):À 132 #[yD p n c] V λr W=>∃q m e,r=ê #[yD q m e,gF (decide (ls=[]\/rR ls ls []≠[]))]/\aZ 6 bW W q m (rR ls ls []):=by
 obtain rfl:=h.len
 refine Ee V _ ⟨λz V'=>∃(i:Nat)(O:zA L3),z.2.2.2=(i:Int)/\i<=ls.length/\O.length<=i/\(∀q∈O,q∈ls)/\rR ls ls []=rR ls (ls.drop i) O/\GR 6 bW V' z.1 z.2.1 z.2.2.1 O,λz=>ls.length-z.2.2.2.toNat,
  ⟨(0,0,[],0),σ,0,[],rfl,å _,å _,(λq F=>by cases F),by rw [Wq1],GR.nil⟩,?_⟩
 rintro ⟨N,K,us,z4⟩ V1 l1 ⟨i,O,e4,NF,a6,L,o,E⟩;dsimp only at e4 E;subst e4;have M:=E.len;have A:=E.le;have P:=E.cap;have B:=E.row;refine ⟨rfl,λd=>?_,λd=>?_⟩;rotate_left
 ·have d:¬(i:Int)<ls.length:=Â d;obtain rfl:i=ls.length:=ω;rw [Qr7] at o;have o:rR ls ls []=O:=o;rw [o];subst M;refine ⟨λC kf Q bk hb=>?_,λC kf Q bk hb=>?_⟩;{have C:((ls.length:Nat):Int)=0:=by{simpa using C};refine ⟨_,_,K,?_,aZ.bo hb (B.le λ_ _ g=>bW.le g Q) φ A⟩;rw [Ç (.inl (Ĥ.1 ω))]};have C:¬((ls.length:Nat):Int)=0:=by{simpa using C};refine ⟨_,_,K,?_,aZ.bo hb (B.le λ_ _ g=>bW.le g Q) φ A⟩;congr 5;refine É.2 ⟨λh=>.inr λe=>by rw [e] at h;simp at h,λh=>?_⟩;rcases h with h|h;{rw [h] at C;exact Å rfl C};{have:=Qh6.2 h;omega}
 have d:(i:Int)<ls.length:=Á d;have v:i<ls.length:=ω
 have w:i64.wrap ((i:Int)+1)=((i+1:Nat):Int):=by rw [aq ω];rfl
 dsimp only;rw [ß,w];refine ldL br (h.le l1) v λeb ep en ec fb fp fn fe gb gp gn gc hf=>?_;have R:rR ls (ls[i]::ls.drop (i+1)) O=rR ls (ls.drop (i+1)) (if (fh ls[i] ls æ).isSome=true then rF ls[i] O else O):=rfl;rw [(ī v),R] at o;have D:=hb _ (ò v);have S:=ò v;have Rf:∀q∈O,Bd q:=λq F=>hb q (L q F);clear E;refine λV2 l2=>(vX ra hb hk hl v).s ?_;generalize ls[i]=x at *;rintro r V3 l3 ⟨u,s,rfl,gs,-,-⟩;obtain ⟨_,_,_,_,_,_,_,_,_,_,_,_,_,_,rfl⟩:=rW gs;refine ⟨_,_,_,_,_,_,_,_,_,_,_,_,_,_,_,_,_,rfl,λk=>?_,λk=>?_⟩
 ·rw [ŋ] at k;rw [k,Ã φ] at o;exact ⟨(N,K,us,((i+1:Nat):Int)),ω,σ,i+1,O,rfl,v,ω,L,o,M,A,P,B.le λ_ _ g=>bW.le g au⟩
 rw [Qm5] at k;rw [k,Ä rfl] at o;have G:=hf;refine ⟨λz _=>∃j:Nat,z=(j:Int)/\j<=O.length/\∀(y:Nat)(h:y<O.length),y<j->ax.fg (ax.bj O[y]) (ax.bj x)<0,λz=>O.length-z.toNat,⟨0,σ,0,rfl,å _,λy _ h=>Å h (Œ y)⟩,?_⟩;rintro z V4 l4 ⟨j,rfl,pH,jl⟩;have wj:i64.wrap ((j:Int)+1)=((j+1:Nat):Int):=by rw [aq ω];rfl
 rw [ß,wj];have T:=D.eO;have dx:=pU D;refine ⟨rfl,λz _=>z=true↔∃h:j<O.length,ax.fg (ax.bj O[j]) (ax.bj x)<0,⟨λd=>?_,λd=>⟨false,σ,?_⟩⟩,?_⟩
 ·have d:=Á d;have t:j<O.length:=ω;have H:=Rf _ (ò t);have U:=H.eO;have dj:=pU H;have ⟨W,X,Y,Z,b2,p2,n2,c2,b3,p3,n3,c3,fw,Ah,hr⟩:=vd B t;refine ⟨Ź,A,W,X,Y,Z,b2,p2,n2,c2,b3,p3,n3,c3,⟨fw,Ah⟩,λV5 l5=>(dZ (hr.le au) U.1 U.2.1 U.2.2 ω).s λr V6 l6 Xk=>RP.ex Xk λ_ _ Xk _ _=>λV7 l7=>(dZ (RL.le G au) T.1 T.2.1 T.2.2 ω).s λr V8 l8 Pn=>RP.ex Pn λ_ _ Pn _ _=>λV9 l9=>(t_ (a:=ax.bj O[j]) (b:=ax.bj x) (Xk.le au) (Pn.le l9) dj.1 dj.2 dx.1 dx.2).s λr eV a0 rfl=>⟨_,rfl,decide (ax.fg (ax.bj O[j]) (ax.bj x)<0),σ,by dsimp only;rw [Ñ];exact ⟨λh=>⟨t,h⟩,λ⟨_,h⟩=>h⟩⟩⟩
 ·have d:=Â d;exact ⟨π,λ⟨h,_⟩=>Å h ω⟩
 rintro z V7 l7 Ky;refine ⟨rfl,λk=>?_,λk=>?_⟩
 ·have ⟨t,a1⟩:=Ky.1 k;refine ⟨((j+1:Nat):Int),ω,σ,j+1,rfl,t,λy h a7=>?_⟩;by_cases e:y=j;{subst e;exact a1};exact jl y h ω
 have a2:∀h:j<O.length,¬ax.fg (ax.bj O[j]) (ax.bj x)<0:=λh h'=>by have:=Ky.2 ⟨h,h'⟩;rw [k] at this;cases this
 have f:=Pr x O j pH jl a2;have a3:∀q∈rF x O,q∈ls:=λq F=>(wF.1 F).elim (λe=>e▸S) (L q);refine ⟨λz _=>z=true↔∃h:j<O.length,O[j]=x,⟨λd=>?_,λd=>⟨false,σ,?_⟩⟩,?_⟩
 ·have d:=Á d;have t:j<O.length:=ω;have ⟨W,X,Y,Z,b2,p2,n2,c2,b3,p3,n3,c3,fw,Ah,hr⟩:=vd B t;refine ⟨Ź,A,W,X,Y,Z,b2,p2,n2,c2,b3,p3,n3,c3,⟨fw,Ah⟩,λV8 l8=>(fS (hr.le au) (RL.le G au) (Rf _ (ò t)).eO D.eO).s λr V9 l9 rfl=>⟨_,rfl,(iQ O[j] x==(0:Int)),σ,by dsimp only;rw [Ka,Ñ];exact ⟨λh=>⟨t,h⟩,λ⟨_,h⟩=>h⟩⟩⟩
 ·have d:=Â d;exact ⟨π,λ⟨h,_⟩=>Å h ω⟩
 rintro z eV a0 rE;refine ⟨rfl,λk=>?_,λk eW cU bk hb J=>?_⟩
 ·have hex:=rE.1 k;rw [Ä hex] at f;rw [f] at o;exact ⟨(N,K,us,((i+1:Nat):Int)),ω,σ,i+1,O,rfl,v,ω,L,o,M,A,P,B.le λ_ _ g=>bW.le g au⟩
 ·have a4:¬∃h:j<O.length,O[j]=x:=λh=>by{have:=rE.2 h;rw [k] at this;cases this};rw [Ã a4] at f;obtain ⟨xs,ys,x1,x2,x3,y1,y2,y3,r1,r2,r3,r4,r5⟩:=tz (V:=eW) (GR.s ⟨M,A,P,B⟩ λ_ _ g=>bW.le g au) φ (λ_ _=>tK) hb (es:=[_,_,_,_,_,_]) rfl ra (j:=j);refine ⟨Ź,Ź,Ź,xs,x1,x2,ω,Ú _,Ú 6,x2,x3,λa8 J2 sp c' h1 h2=>?_⟩;show ∃_,_;rw [r1,r2];(refine ⟨ys,y1,y2,Ú _,y3,ω,ω,r3,r4,λa5 I h3 h4=>⟨(j+(1+(N-j)),I,_,((i+1:Nat):Int)),ω,Ÿ,i+1,rF x O,rfl,v,?_,a3,o,?_⟩⟩);{rw [f,ï,ì,Ĉ,į];omega};show GR 6 bW _ _ _ _ (rF x O);rw [f];exact r5 a5 I h3 h4
theorem EE {K:Nat}{lp:OA}{ln lc:Nat}{pv vv:un}{p v:Rat×Rat}(h:aZ 6 bW V lp ln ls)(hb:∀l∈ls,Bd l)(hl:ls.length<=1000)(hp:RP V pv p.1 p.2)(hv:RP V vv v.1 v.2)(s1:Sz K p.1)(s2:Sz K p.2)(s3:Sz 6000 v.1)(s4:Sz 6000 v.2)(hK:1000<=K/\K<=300000000:=by omega):À 194 #[yD lp ln lc,pv,vv] V λr W=>RP W r (p.1+ls.foldl (ax.Ii p v) 1*v.1) (p.2+ls.foldl (ax.Ii p v) 1*v.2)/\Sz (7*K+40000) (p.1+ls.foldl (ax.Ii p v) 1*v.1)/\Sz (7*K+40000) (p.2+ls.foldl (ax.Ii p v) 1*v.2):=by have hn:=h.len;subst hn;have o:=hp;have a0:=hv;obtain ⟨_,_,_,_,_,_,_,_,_,_,_,_,rfl,-⟩:=hp;obtain ⟨_,_,_,_,_,_,_,_,_,_,_,_,rfl,-⟩:=hv;(refine Fy V _ λV1 l1=>(dM 1 ω).s λr V2 l2 B=>RQ.ex B λ_ B=>⟨λz V'=>∃i:Nat,z.1=(i:Int)/\i<=ls.length/\RQ V' (dB #[gF z.2.1,yD z.2.2.1 z.2.2.2.1 z.2.2.2.2.1,yD z.2.2.2.2.2.1 z.2.2.2.2.2.2.1 z.2.2.2.2.2.2.2]) ((ls.take i).foldl (ax.Ii p v) 1)/\Sz (6*K+30000) ((ls.take i).foldl (ax.Ii p v) 1),λz=>(ls.length-z.1).toNat,⟨(0,_,_,_,_,_,_,_),Ÿ,0,rfl,å _,B,Bu.s ω⟩,?_⟩;rintro ⟨z,zb,zp,zn,t,zq,zm,ze⟩ V3 l3 ⟨i,e,hi,gs,d⟩;dsimp only at e gs ⊢;subst e;have a1:=(l1.m l2).m l3;refine ⟨θ,λa=>?_,λa a2 H7=>?_⟩);{have a:i<ls.length:=by{have:=Á a;omega};have w1:i64.wrap ((i:Int)+1)=((i+1:Nat):Int):=by{rw [aq ω];rfl};rw [w1,ß];refine ldL (R:=bW) br ra a λb1 p1 n1 c1 b2 p2 n2 c2 b3 p3 n3 c3 f=>?_;have C:=hb _ (ò a);have sl:=C.eO;have H:=UC (p:=p) (v:=v) a 1;generalize ls[i]=A at *;generalize (ls.take i).foldl (ax.Ii p v) 1=s at *;have next:∀{W:ut} {b:md} {q1 q2:OA} {m1 d1 m2 d2:Nat} {s':Rat},RQ W (dB #[gF b,yD q1 m1 d1,yD q2 m2 d2]) s'->Sz (6*K+30000) s'->ax.Ii p v s A=s'->∃i':Nat,((i+1:Nat):Int)=(i':Int)/\i'<=ls.length/\RQ W (dB #[gF b,yD q1 m1 d1,yD q2 m2 d2]) ((ls.take i').foldl (ax.Ii p v) 1)/\Sz (6*K+30000) ((ls.take i').foldl (ax.Ii p v) 1):=λj c e=>⟨i+1,rfl,a,by rw [H,e];exact j,by rw [H,e];exact c⟩;have t1:Sz (K+7000) (p.1+((1:Int):Rat)*v.1):=(s1.add (Bu.mul s3)).s ω;have t2:Sz (K+7000) (p.2+((1:Int):Rat)*v.2):=(s2.add (Bu.mul s4)).s ω;refine λV4 l4=>(dM 1 ω).s ?_;rintro r V5 l5 g;obtain ⟨_,_,_,_,_,_,rfl⟩:=g.shape;have EU:=l4.m l5;refine qxQ ⟨rfl,λV6 l6=>(fR ra ra ra s1 s2 (Bu.s ω) s3 s4 ω).s ?_⟩;rintro r V7 l7 u;obtain ⟨_,_,_,_,_,_,_,_,_,_,_,_,rfl,-⟩:=id u;have Ro:=EU.m (l6.m l7);refine qxW ⟨rfl,λV8 l8=>(jK (k:=K+7000) (f.le au) (u.le l8) (sl.1.s ω) (sl.2.1.s ω) (sl.2.2.s ω) t1 t2).s ?_⟩;rintro r V9 l9 I;have a3:RQ V9 r (aG A (p.1+((1:Int):Rat)*v.1) (p.2+((1:Int):Rat)*v.2)):=I;obtain ⟨_,_,_,_,_,_,rfl⟩:=I.shape;have Wm:=Ro.m au;refine qxQ ⟨rfl,λeV a4=>(jK (k:=K+7000) (f.le au) (o.le au) (sl.1.s ω) (sl.2.1.s ω) (sl.2.2.s ω) (s1.s ω) (s2.s ω)).s ?_⟩;rintro r eW cU J;have a5:RQ eW r (aG A p.1 p.2):=J;obtain ⟨_,_,_,_,_,_,rfl⟩:=J.shape;have L:=sz_v C (p:=((p.1+((1:Int):Rat)*v.1),(p.2+((1:Int):Rat)*v.2))) t1 t2;have w:=sz_v C s1 s2;refine qxQ ⟨rfl,λgC dI=>(iB ra ra L w).s ?_⟩;rintro r iI dS gc;have ec:aG A (p.1+((1:Int):Rat)*v.1) (p.2+((1:Int):Rat)*v.2)-aG A p.1 p.2=ax.nv A v:=by{have:=ax.pX A p v 1;have e1:((1:Int):Rat)=1:=rfl;rw [e1,this];grind};have t:=L.sub w;dsimp only at t;rw [ec] at gc t;obtain ⟨_,_,_,_,_,_,rfl⟩:=gc.shape;refine qxQ ⟨rfl,λkK M=>(lL ra).s ?_⟩;rintro r ke N rfl;have O:=((Wm.m au).m au).m (M.m N);(refine ⟨_,rfl,λq=>⟨(((i+1:Nat):Int),_,_,_,_,_,_,_),ω,Ÿ,next (gs.le O) d ?_⟩,λq kf P=>(yO (x:=p.1) (y:=p.2) (f.le au) (o.le au) ⟨sl.1.s (Ā ω (Ú K)),sl.2.1.s ω,sl.2.2.s ω⟩ s1 s2).s ?_⟩);{unfold ax.Ii;rw [Ä (.inl (ax.jS.1 (Ë.1 q)))]};have q:ax.nv A v≠0:=λe=>by{rw [ax.jS.2 e] at q;cases q};rintro r lu gX rfl;have Q:=O.m (P.m gX);(refine ⟨_,rfl,λv0=>⟨(((i+1:Nat):Int),_,_,_,_,_,_,_),ω,Ÿ,next (gs.le Q) d ?_⟩,λv0 mD gj=>(jK (k:=K+7000) (f.le au) (o.le au) (sl.1.s ω) (sl.2.1.s ω) (sl.2.2.s ω) (s1.s ω) (s2.s ω)).s ?_⟩);{unfold ax.Ii;rw [Ä (.inr (ax.jS.1 (Ë.1 v0)))]};have v0:aG A p.1 p.2≠0:=λe=>by{rw [ax.jS.2 e] at v0;cases v0};have D:¬(ax.nv A v=0\/aG A p.1 p.2=0):=λh=>h.elim q v0;rintro r nf je S;have E:RQ nf r (aG A p.1 p.2):=S;obtain ⟨_,_,_,_,_,_,rfl⟩:=S.shape;refine qxQ ⟨rfl,λkg il=>(jo (E.le il) (gc.le (M.m (N.m (P.m au)))) (λe=>q (ş.1 e)) w t ω).s ?_⟩;rintro r qC nQ gt;obtain ⟨_,_,_,_,_,_,rfl⟩:=gt.shape;have F:=(w.mul (iA t)).neg;refine qxQ ⟨rfl,λqN lZ=>(BZ ra).s λr qD l_ m=>RQ.ex m λ_ m=>λAa G=>(lL ra).s ?_⟩;rintro r A8 T rfl;have n:=(Q.m au).m (G.m T);have U:-(aG A p.1 p.2*(ax.nv A v)⁻¹)*((2:Int):Rat)⁻¹=-(aG A p.1 p.2*(ax.nv A v)⁻¹)*(1/2):=by{rw [show (((2:Int):Rat))⁻¹=1/2 by decide +kernel]};have X:Sz (6*K+30000) (-(aG A p.1 p.2*(ax.nv A v)⁻¹)*((2:Int):Rat)⁻¹):=(F.mul (iA (E3 (z:=2)))).s ω;(refine ⟨_,rfl,λj MD Bj=>(uK (m.le (G.m au)) F).s ?_,λj=>⟨(((i+1:Nat):Int),_,_,_,_,_,_,_),ω,Ÿ,next (gs.le n) d ?_⟩⟩);{have j:=ax.qp.1 (Á j);rintro r MQ yF gh;obtain ⟨_,_,_,_,_,_,rfl⟩:=gh.shape;have Y:=n.m au;refine qxQ ⟨rfl,λWx KI=>(dR ra ra X d).s ?_⟩;rintro r YV H5 rfl;(refine ⟨_,rfl,λc SH MJ=>(uK (m.le (G.m (T.m au))) F).s ?_,λc=>⟨(((i+1:Nat):Int),_,_,_,_,_,_,_),ω,Ÿ,next (gs.le au) d ?_⟩⟩);{have c:=th.1 (Á c);rintro r Z_ H6 Z;obtain ⟨_,_,_,_,_,_,rfl⟩:=Z.shape;(refine qxQ ⟨rfl,(((i+1:Nat):Int),_,_,_,_,_,_,_),ω,Ÿ,next Z X ?_⟩;rw [U] at c ⊢;unfold ax.Ii;rw [Ã D,Ä ⟨j,c⟩])};have c:¬_:=λh=>Â c (th.2 h);rw [U] at c;unfold ax.Ii;rw [Ã D,Ã λh=>c h.2]};have j:¬_:=λh=>Â j (ax.qp.2 h);unfold ax.Ii;rw [Ã D,Ã λh=>j h.1]};have a:i=ls.length:=by{have:=Â a;omega};subst a;rw [Ė] at gs d;generalize ls.foldl (ax.Ii p v) 1=s at *;refine (fR ra ra ra s1 s2 d (s3.s ω) (s4.s ω) ω).s λr V_ CG u=>RP.ex u λ_ _ u _ _=>λa6 MK=>⟨ra,(s1.add (d.mul s3)).s ω,(s2.add (d.mul s4)).s ω⟩
theorem wV (h:é 6 bW V vs ls)(u:vs.length=ls.length*6):∀v∈vs,v.oneCell'=true:=by intro v a;have ⟨m,hm,e⟩:=Qb8.1 a;exact fy h φ (λ_ _=>tK) (m:=m) ω (by rw [<-e];exact ô hm)
def ET (ls:List L3):Bool:=decide (ls=[]\/∃l∈ls,(fh l ls æ).isSome=true)
theorem P7 (V:ut):RP V (dB #[gF false,yD none 0 0,yD none 0 0,gF false,yD none 0 0,yD none 0 0]) 0 0:=qxJ ⟨rfl,rq0 _,rq0 _⟩
theorem ue (h:aZ 6 bW V cp cn ls)(hb:∀l∈ls,Bd l)(hk:∀l∈ls,cq l=true)(hl:ls.length<=1000:=by omega):À 131 #[yD cp cn cc] V λr W=>∃u p,r=ê #[u,gF (ET ls)]/\RP W u (Prod.fst p) (Prod.snd p)/\Sz 500000000 (Prod.fst p)/\Sz 500000000 (Prod.snd p):=by have N:=h.len;subst N;refine Ef V _ ⟨λb O l1=>?_,λb=>⟨λz _=>∃i:Nat,z=(i:Int)/\i<=ls.length/\∀(k:Nat)(g:k<ls.length),k<i->(fh ls[k] ls æ).isSome=false,λz=>(ls.length-z).toNat,⟨0,σ,0,rfl,å _,λk _ g=>Å g (Œ k)⟩,?_⟩⟩;{have e:ls=[]:=Ĥ.1 (by have:=Á b;omega);refine ⟨_,(0,0),?_,P7 O,DF _,DF _⟩;rw [show ET ls=true from Ç (.inl e)]};have b:ls.length≠0:=λe=>by{rw [e] at b;cases b};rintro z V2 y ⟨i,rfl,hi,A⟩;refine ⟨θ,λa=>?_,λa P e_=>?_⟩;rotate_left;{have e:i=ls.length:=by{have:=Â a;omega};subst e;refine ⟨_,(0,0),?_,P7 P,DF _,DF _⟩;rw [show ET ls=false from È ?_];rintro (g|⟨l,Q,B⟩);{rw [g] at b;exact b rfl};obtain ⟨k,C,rfl⟩:=Qb8.1 Q;rw [A k C C] at B;cases B};have a:i<ls.length:=by{have:=Á a;omega};have R:i64.wrap ((i:Int)+1)=((i+1:Nat):Int):=by{rw [aq ω];rfl};rw [R,ß];have f:∀{W:ut},V.Le W->aZ 6 bW W cp ls.length ls:=λg=>h.le g;refine ldL br (f y) a λb1 p1 n1 c1 b2 p2 n2 c2 b3 p3 n3 c3 c=>?_;have D:=hb _ (ò a);have hm:=ò a;have sl:=D.eO;have nz:=eI (hk _ (ò a));have j:=pU D;have m:(fh ls[i] ls æ).isSome=false->∀(k:Nat)(g:k<ls.length),k<i+1->(fh ls[k] ls æ).isSome=false:=λe k g S=>by{by_cases T:k=i;{subst T;exact e};exact A k g ω};refine λV3 U=>(vX (f au) hb hk hl a).s ?_;generalize ls[i]=L at *;rintro r V4 X ⟨u,s,rfl,gs,E,-⟩;obtain ⟨_,_,_,_,_,_,_,_,_,_,_,_,_,_,rfl⟩:=rW gs;have Y:=U.m X;refine ⟨_,_,_,_,_,_,_,_,_,_,_,_,_,_,_,_,_,rfl,λn V5 l5=>(dZ (c.le au) sl.1 sl.2.1 sl.2.2 ω).s ?_,λn=>⟨((i+1:Nat):Int),ω,σ,i+1,rfl,a,m n⟩⟩;rintro r V6 l6 Z;obtain ⟨_,_,_,_,_,_,_,_,_,_,_,_,rfl,Et,o⟩:=id Z;refine qxW ⟨rfl,λV7 F=>(B6 ra E).s ?_⟩;rintro r V8 G H;obtain ⟨_,_,_,_,_,_,rfl⟩:=H.shape;have q:=YF E;have KI:=(Y.m au).m au;refine qxQ ⟨rfl,λV9 t=>(N8 (c.le au) (H.le t) nz (sl.up (K:=200010) ω) q).s λr eV d I=>RP.ex I λ_ _ I _ _=>λeW J=>(lK (o.le ((F.m G).m ((t.m d).m J))) j.2 ω).s λr gC dI go=>RQ.ex go λ_ go=>λiI M=>(EE (p:=(cu L s.rX,cw L s.rX)) (v:=(-(-((L.1:Int):Rat)),((L.2.1:Int):Rat))) (f (y.m (((KI.m au).m au).m M))) hb hl ra ⟨_,_,_,_,_,_,_,_,_,_,_,_,rfl,ra,Et.le ((F.m G).m ((t.m d).m ((J.m dI).m M)))⟩ ((nI (sl.up (K:=200010) ω) q).s (show _<=60000000 by omega)) ((nJ (sl.up (K:=200010) ω) q).s (show _<=60000000 by omega)) (Sz.s j.2.neg ω) (Sz.s j.1 ω)).s ?_⟩;rintro r kK fH ⟨gp,w,x⟩;obtain ⟨_,_,_,_,_,_,_,_,_,_,_,_,rfl,-⟩:=id gp;refine qxW ⟨rfl,λke fB=>⟨_,(_,_),?_,ra,w.s ω,x.s ω⟩⟩;rw [show ET ls=true from Ç (.inr ⟨L,hm,n⟩)]
def Da (ls:List L3)(m:L3):Int:=if ET (ls++[m])=true/\ET (ls++[Ö m])=true then 0 else if ET (ls++[m])=true then 1 else -1
theorem zv {V:ut}{c:Nat}(hw:V.w.heap[b]?=some (.cells vs.toArray 69 (0,0)))(y:é 6 bW V vs ls)(z:ls.length<=c)(D:ls≠[])(E:∀l∈ls,Bd l)(F:∀l∈ls,cq l=true)(M:ls.length<=1000):À 131 #[yD (some ⟨b,0,none⟩) ls.length c] (V.ao [b]) λr W=>∃b1 p N c1 O Z c2 b2 q n3 c3 q' n4 c4,r=ê #[dB #[gF b1,yD p N c1,yD O Z c2,gF b2,yD q n3 c3,yD q' n4 c4],gF (ET ls)]/\W.w.heap[b]?=some (.cells vs.toArray 69 (0,0)):=by have d:=(Qr3.1 hw).1;have f:=Qh6.2 D;have j:V.Le ((V.ao [b]).bare b):=λa v h=>⟨λk=>h.1 k.1,h.2⟩;have i:=aZ.bo (V:=(V.ao [b]).bare b) (λ_=>⟨λh=>h.2 rfl,hw⟩) (y.le λ_ _ g=>bW.le g j) φ z;have e:mA b c=some ⟨b,0,none⟩:=by{unfold mA;rw [Ã ω]};rw [e] at i;refine (aa.bare (V:=V.ao [b]) d (ue i E F M)).s ?_;rintro r V' _ ⟨m,u,p,rfl,n,-⟩;obtain ⟨_,_,_,_,_,_,_,_,_,_,_,_,rfl,-⟩:=n;exact qxW ⟨rfl,m.m hw⟩
theorem rU {V:ut}{xs ys sp sp':zA un}{m:L3}(u:n=ls.length)(h:é 6 bW V xs ls)(z:xs.length=n*6)(y:ys.length=6)(hm:bW V (.agg ys.toArray) m):é 6 bW V ((([]:zA un).take (0*6)++xs++sp).take ((0+n)*6)++ys++sp') (ls++[m]):=by subst u;have e:([]:zA un).take (0*6)++xs++sp=xs++sp:=ψ;rw [e,č];have a:é 6 bW V (xs++sp) ls:=by{have:=eM (V:=V) (vs:=[]) (ls:=[]) (sp:=sp) (é.nil) h φ;simpa using this};exact eM a (row_one y hm) φ
theorem uf (h:aZ 6 bW V cp cn ls)(hb:∀l∈ls,Bd l)(hk:∀l∈ls,cq l=true)(hl:ls.length<=999){lv:un}{m:L3}(hm:bW V lv m)(bm:Bd m)(om:cq m=true):À 62 #[yD cp cn cc,lv] V λr W=>r=Ô .i64 (Da ls m):=by have F:=h.len;subst F;have j:=hm;obtain ⟨_,_,_,_,_,_,_,_,_,_,_,_,rfl⟩:=br hm;have ⟨xs,G,f,s⟩:=cQ h φ;have one:∀{W:ut} {xs:zA un},é 6 bW W xs ls->xs.length=ls.length*6->∀v∈xs,v.oneCell'=true:=λk t=>wV k t;have H:∀l∈ls++[m],Bd l:=λl h=>(ü.1 h).elim (hb l) λh=>by{rw [ú.1 h];exact bm};have I:∀l∈ls++[m],cq l=true:=λl h=>(ü.1 h).elim (hk l) λh=>by{rw [ú.1 h];exact om};have J:∀l∈ls++[Ö m],Bd l:=λl h=>(ü.1 h).elim (hb l) λh=>by{rw [ú.1 h];exact bm.rev};have K:∀l∈ls++[Ö m],cq l=true:=λl h=>(ü.1 h).elim (hk l) λh=>by{rw [ú.1 h];exact yL om};have c:∀x:L3,(ls++[x]).length=(0+ls.length)+1:=λx=>by{rw [ï];simp};refine Eg V _ ⟨xs,G,f,ω,Ú _,ψ,f,one s f,λSn J5 n c3 k t=>⟨ω,k,by simp;omega,rfl,RG,λQz J9 p c7 L g4=>λu w WE M h1=>?_⟩⟩;have y:=zv (V:=u) M (rU (V:=u) (ys:=[_,_,_,_,_,_]) (sp:=n) (sp':=p) rfl (s.le λ_ _ g=>bW.le g w) f rfl ra) (by rw [c];exact L) ψ H I (by rw [c];omega);rw [c] at y;refine y.s ?_;rintro r V2 N ⟨_,_,_,_,_,_,_,_,_,_,_,_,_,_,rfl,O⟩;have P:V.Le V2.shut:=λb o g=>N b o (w b o g);obtain ⟨ys,Q,i,z⟩:=cQ (h.le P) φ;refine wwQ ⟨rfl,_,O,ys,Q,i,ω,Ú _,ψ,i,one z i,λA R d S T g6 V3 l3=>(iC (bW.le j au)).s ?_⟩;rintro r U l4 X;have Y:bW U r (Ö m):=X;obtain ⟨_,_,_,_,_,_,_,_,_,_,_,_,rfl⟩:=br Y;refine qxJ ⟨rfl,ω,T,by simp;omega,rfl,RG,λB Z e a0 g7 g8 C l5 D e5 h5=>?_⟩;have E:=zv (V:=C) e5 (rU (V:=C) (ys:=[_,_,_,_,_,_]) (sp:=d) (sp':=e) rfl (z.le λ_ _ g=>bW.le g au) i rfl ra) (by rw [c];exact g7) ψ J K (by rw [c];omega);rw [c] at E;refine E.s ?_;rintro r V6 l6 ⟨_,_,_,_,_,_,_,_,_,_,_,_,_,_,rfl,w6⟩;refine wwQ ⟨rfl,_,w6,λa=>⟨λq V7 l7=>?_,λq=>⟨λ_ V8 l8=>?_,(λh=>by rw [a] at h;cases h)⟩⟩,λa=>⟨(λh=>by rw [a] at h;cases h),λ_ eW cU=>?_⟩⟩;{unfold Da;rw [Ä ⟨a,q⟩]};{unfold Da;rw [Ã (λh=>by rw [q] at h;cases h.2),Ä a]};unfold Da;rw [Ã (λh=>by rw [a] at h;cases h.1),Ã (λh=>by rw [a] at h;cases h)]
theorem IC (c:zA L3):∀(r o:zA L3),(rR c r o).length<=r.length+o.length
 | [],o=>by unfold rR;simp
 | l::r,o=>by
  unfold rR;split
  ·have:=IC c r (rF l o)
   have a:∀o:zA L3,(rF l o).length<=o.length+1:=λo=>by
    induction o with
    | nil=>simp [rF]
    | cons x r u=>unfold rF;split<;>(try split)<;>simp<;>omega
   have:=a o;simp only [Ĉ];omega
  ·have:=IC c r o;simp only [Ĉ];omega
theorem ID (c:zA L3):∀(r o:zA L3),∀x∈rR c r o,x∈r\/x∈o
 | [],o,x,h=>.inr h
 | l::r,o,x,h=>by
  unfold rR at h;rcases ID c r _ x h with g|g
  ·exact .inl (ā _ g)
  ·split at g
   ·rcases wF.1 g with rfl|g
    ·exact .inl (ď ..)
    ·exact .inr g
   ·exact .inr g
theorem P9 {x y:Tr}(h:RW V p (.node l x y)):∃(b1:md)(u:OA)(z c1:Nat)(D:md)(E:OA)(F M:Nat)(N:md)(O:OA)(Z c3:Nat)(pl pr:OA)(a:Addr),p.isSome=true/\ae p 2=some a/\∀W:ut,V.Le W ->(∃a,ae p 0=some a/\W.at a (gF false))/\(W.at (a.add 0) (gF b1)/\W.at (a.add 1) (yD u z c1)/\W.at (a.add 2) (gF D)/\W.at (a.add 3) (yD E F M)/\W.at (a.add 4) (gF N)/\W.at (a.add 5) (yD O Z c3))/\(∃a,ae p 8=some a/\W.at a (Õ pl))/\(∃a,ae p 9=some a/\W.at a (Õ pr))/\bW W (dB #[gF b1,yD u z c1,gF D,yD E F M,gF N,yD O Z c3]) l/\RW W pl x/\RW W pr y:=by obtain ⟨e,f,b1,u,z,c1,D,E,F,M,N,O,Z,c3,pl,pr,rfl,c,k,m,d⟩:=h;refine ⟨b1,u,z,c1,D,E,F,M,N,O,Z,c3,pl,pr,(⟨e,0,none⟩:Addr).add 2,rfl,rfl,λW g=>?_⟩;have b:∀(i j:Nat) v,i+j<10->([gF false,gF f,gF b1,yD u z c1,gF D,yD E F M,gF N,yD O Z c3,Õ pl,Õ pr]:zA un)[i+j]?=some v->W.at (((⟨e,0,none⟩:Addr).add i).add j) v:=by{intro i j v _ n;rw [BE,add_zero'];exact dK (xs:=[_,_,_,_,_,_,_,_,_,_]) (g _ _ c) n};exact ⟨Ao (g _ _ c) 0 rfl,⟨b 2 0 _ ω rfl,b 2 1 _ ω rfl,b 2 2 _ ω rfl,b 2 3 _ ω rfl,b 2 4 _ ω rfl,b 2 5 _ ω rfl⟩,Ao (g _ _ c) 8 rfl,Ao (g _ _ c) 9 rfl,k.le g,m.le g,d.le g⟩
theorem P8 {u:Nat}{i b1:md}{z:OA}{D c1:Nat}{E:md}{F:OA}{M N:Nat}{O:md}{Z:OA}{n3 c3:Nat}{pl pr:OA}{x y:Tr}(h:V.aX u (.cells #[gF false,gF i,gF b1,yD z D c1,gF E,yD F M N,gF O,yD Z n3 c3,Õ pl,Õ pr] 73 (0,0)))(hl:bW V (dB #[gF b1,yD z D c1,gF E,yD F M N,gF O,yD Z n3 c3]) l)(hx:RW V pl x)(hy:RW V pr y):RW V (some ⟨u,0,none⟩) (.node l x y):=
 ⟨u,i,b1,z,D,c1,E,F,M,N,O,Z,n3,c3,pl,pr,rfl,h,hl,hx,hy⟩
def Rn (l:L3):Tr->Tr->Tr
 | .leaf i,.leaf j=>if i=j then .leaf i else .node l (.leaf i) (.leaf j)
 | x,y=>.node l x y
theorem KF {x y:Tr}(h:x.rI=false\/y.rI=false):Rn l x y=.node l x y:=by
 cases x with
 | leaf i=>cases y with
  | leaf j=>rcases h with h|h<;>cases h
  | node=>rfl
 | node=>rfl
theorem vZ {q:OA}{x y:Tr}(hl:bW V v l)(Z:RW V p x)(hy:RW V q y):À 63 #[v,Õ p,Õ q] V λr W=>∃o,r=Õ o/\RW W o (Rn l x y):=by
 obtain ⟨m,n,t,u,w,z,A,B,C,D,E,F,rfl⟩:=br hl
 have c:∀{W:ut} {b:Nat},V.Le W->W.aX b (.cells #[gF false,gF false,gF m,yD n t u,gF w,yD z A B,gF C,yD D E F,Õ p,Õ q] 73 (0,0))->(x.rI=false\/y.rI=false\/∃i j,x=.leaf i/\y=.leaf j/\i≠j)->∃o,Value.pointer (some ⟨b,0,none⟩)=Õ o/\RW W o (Rn l x y):=λg h k=>by refine ⟨_,rfl,?_⟩;have e:Rn l x y=.node l x y:=by{rcases k with k|k|⟨i,j,rfl,rfl,k⟩;{exact KF (.inl k)};{exact KF (.inr k)};show (if i=j then _ else _)=_;rw [Ã k]};rw [e];exact P8 h (bW.le hl g) (Z.le g) (hy.le g)
 have rd:∀{p:OA} {x:Tr},RW V p x->p.isSome=true/\∃a,ae p 0=some a/\V.at a (gF x.rI):=λ{p x} h=>by (cases x with|leaf i=>{obtain ⟨s,G,-⟩:=kV h;exact ⟨s,G⟩}|node l x y=>{obtain ⟨_,_,_,_,_,_,_,_,_,_,_,_,_,_,_,s,-,H⟩:=P9 h;exact ⟨s,(H V (Ó.Le.refl V)).1⟩})
 have ⟨s1,I⟩:=rd Z;have ⟨s2,J⟩:=rd hy;refine FP V _ ⟨s1,s1,_,I,λd=>⟨s2,s2,_,J,λf=>?_,λf U K b L=>c K L (.inr (.inl f))⟩,λd X M b N=>c M N (.inl d)⟩
 obtain ⟨i,rfl⟩:∃i,x=.leaf i:=by cases x with
  | leaf i=>exact ⟨i,rfl⟩
  | node=>cases d
 obtain ⟨j,rfl⟩:∃j,y=.leaf j:=by cases y with
  | leaf j=>exact ⟨j,rfl⟩
  | node=>cases f
 obtain ⟨-,-,O⟩:=kV Z;obtain ⟨-,-,P⟩:=kV hy;refine ⟨s1,s1,i,O,s2,s2,j,P,λh Q R=>⟨p,rfl,?_⟩,λh V2 S b T=>c S T (.inr (.inr ⟨i,j,rfl,rfl,by simpa using h⟩))⟩;have e:i=j:=by simpa using h
 show RW Q p (if i=j then _ else _);rw [Ä e];exact Z.le R
def Ig:Tr->Tr
 | .leaf i=>.leaf (!i)
 | .node l x y=>.node l (Ig x) (Ig y)
theorem mN:∀(t:Tr) {V:ut} {p:OA},RW V p t->À 22 #[Õ p] V λr W=>∃q,r=Õ q/\RW W q (Ig t)
 | .leaf i,V,p,h=>by
  have ⟨s,e0,e1⟩:=kV h;refine xG V _ ⟨s,s,_,e0,λ_=>⟨s,s,i,e1,λM N=>(cT (!i)).s ?_⟩,π⟩;rintro r V2 O ⟨q,rfl,g⟩;exact ⟨q,rfl,λP f=>⟨q,rfl,g.le f⟩⟩
 | .node l x y,V,p,h=>by
  obtain ⟨Q,R,S,T,U,W,X,Y,Z,p3,n3,c3,pl,j,a,s,k,H⟩:=P9 h;obtain ⟨z,⟨m,n,o,u,v,w⟩,A,B,-,-,-⟩:=H V (Ó.Le.refl V);refine xG V _ ⟨s,s,_,z,π,λ_=>⟨s,s,_,_,_,_,_,_,_,_,_,_,_,_,a,k,m,n,o,u,v,w,s,s,pl,A,s,s,j,B,λC b=>(mN x (H C b).2.2.2.2.2.1).s ?_⟩⟩;rintro r V5 c ⟨D,rfl,E⟩;refine ⟨D,rfl,λF d=>(mN y (H F (b.m (c.m d))).2.2.2.2.2.2).s ?_⟩;rintro r V7 G ⟨I,rfl,J⟩;refine ⟨I,rfl,λK e bk L=>⟨_,rfl,P8 L (H K (b.m (c.m (d.m (G.m e))))).2.2.2.2.1 (E.le au) (J.le e)⟩⟩
def xL (c:List L3)(l:L3):List L3:=rR (c++[l]) (c++[l]) []
theorem Bx (u:∀m∈c,kh m)(y:kh l):(∀m∈xL c l,kh m)/\(xL c l).length<=c.length+1:=by refine ⟨λm hm=>?_,?_⟩;{rcases ID _ _ _ m hm with g|g;{rcases ü.1 g with g|g;{exact u m g};rw [ú.1 g];exact y};cases g};{have:=IC (c++[l]) (c++[l]) [];simp at this;unfold xL;omega}
theorem kN (M:aZ 6 bW V cp cn c)(N:∀m∈c,kh m)(hn:c.length<=990)(O:bW V v l)(Z:kh l):À 64 #[yD cp cn cc,v] V λr W=>∃q n d,r=yD q n d/\aZ 6 bW W q n (xL c l):=by obtain rfl:=M.len;obtain ⟨_,_,_,_,_,_,_,_,_,_,_,_,rfl⟩:=br O;have ⟨xs,o,a,f⟩:=cQ M φ;have i:∀m∈c++[l],kh m:=λm h=>(ü.1 h).elim (N m) λh=>by{rw [ú.1 h];exact Z};have j:(c++[l]).length=(0+c.length)+1:=by{rw [ï];simp};refine FQ V _ ⟨xs,o,a,ω,Ú _,ψ,a,wV f a,λx y b z p A=>⟨ω,p,by simp;omega,rfl,RG,λB C e D E F s t G u=>?_⟩⟩;have k:=aZ.eY u (rU (V:=s) (ys:=[_,_,_,_,_,_]) (sp:=b) (sp':=e) rfl (f.le λ_ _ g=>bW.le g t) a rfl ra);rw [j] at k;refine (EJ k (λm h=>(i m h).2) (λm h=>(i m h).1) (by rw [j];omega)).s ?_;rintro r V2 H ⟨q,n,d,rfl,g⟩;exact ⟨q,n,d,_,rfl,λJ I w=>⟨q,n,d,rfl,g.le w⟩⟩
def vg:Tr->List L3->Tr
 | .leaf i,_=>.leaf i
 | .node l x y,c=>if Da c l=1 then vg x c else if Da c l=-1 then vg y c else Rn l (vg x (xL c l)) (vg y (xL c (Ö l)))
theorem mU (h:kh l):kh (Ö l):=⟨yL h.1,h.2.rev⟩
theorem dH:∀(t:Tr) {V:ut} {p cp:OA} {cn cc:Nat} {c:zA L3},RW V p t->t.dU kh->aZ 6 bW V cp cn c->(∀m∈c,kh m)->c.length+t.depth<=990 ->À 61 #[Õ p,yD cp cn cc] V λr W=>∃q,r=Õ q/\RW W q (vg t c)
 | .leaf i,V,p,cp,cn,cc,c,h,_,_,_,_=>by
  obtain ⟨s,e0,-⟩:=kV h;exact mZ V _ ⟨s,s,_,e0,λ_ V1 R=>⟨p,rfl,h.le R⟩,π⟩
 | .node l x y,V,p,cp,cn,cc,c,h,ha,hc,kc,hd=>by
  obtain ⟨e,J,K⟩:=ha;simp only [Tr.depth] at hd;have ⟨b1,p1,n1,c1,b2,p2,n2,c2,b3,p3,n3,c3,pl,L,a,s,w,H⟩:=P9 h;obtain ⟨z,⟨f,j,k,n,o,u⟩,A,B,-,-,-⟩:=H V (Ó.Le.refl V);have v:∀{W:ut},V.Le W->aZ 6 bW W cp cn c:=λg=>hc.le g;refine mZ V _ ⟨s,s,_,z,π,λ_=>⟨s,s,_,_,_,_,_,_,_,_,_,_,_,_,a,w,f,j,k,n,o,u,λV2 C=>(uf (v C) (λm h=>(kc m h).2) (λm h=>(kc m h).1) ω (H V2 C).2.2.2.2.1 e.2 e.1).s ?_⟩⟩;rintro r S T rfl;have L3:=C.m T;obtain ⟨-,⟨f,j,k,n,o,u⟩,A,B,-,-,-⟩:=H S L3;refine ⟨_,rfl,λb=>⟨s,s,pl,A,λU l4=>(dH x (H U au).2.2.2.2.2.1 J (v au) kc ω).s ?_⟩,λb=>⟨λd=>⟨s,s,L,B,λX l7=>(dH y (H X au).2.2.2.2.2.2 K (v au) kc ω).s ?_⟩,λd=>?_⟩⟩
  ·have b:Da c l=1:=by simpa using b
   rintro r Y Z ⟨q,rfl,g⟩;exact ⟨q,rfl,λV6 D=>⟨q,rfl,by unfold vg;rw [Ä b];exact g.le D⟩⟩
  ·have b:¬Da c l=1:=by simpa using b
   have d:Da c l=-1:=by simpa using d
   rintro r Y Z ⟨q,rfl,g⟩;exact ⟨q,rfl,λV6 D=>⟨q,rfl,by unfold vg;rw [Ã b,Ä d];exact g.le D⟩⟩
  ·have b:¬Da c l=1:=by simpa using b
   have d:¬Da c l=-1:=by simpa using d
   have ⟨w1,w2⟩:=Bx kc e;have ⟨w3,w4⟩:=Bx kc (mU e);refine ⟨s,s,_,_,_,_,_,_,_,_,_,_,_,_,a,w,f,j,k,n,o,u,s,s,pl,A,s,s,_,_,_,_,_,_,_,_,_,_,_,_,a,w,f,j,k,n,o,u,s,s,L,B,s,s,_,_,_,_,_,_,_,_,_,_,_,_,a,w,f,j,k,n,o,u,λeV E=>(kN (v au) kc ω (H eV au).2.2.2.2.1 e).s ?_⟩;rintro r eW cU ⟨q1,m1,d1,rfl,h1⟩;refine ⟨q1,m1,d1,rfl,λgC dI=>(dH x (H gC au).2.2.2.2.2.1 J ra w1 ω).s ?_⟩;rintro r iI dS ⟨o1,rfl,t1⟩;have F:=L3.m (E.m (cU.m (dI.m dS)));refine ⟨o1,rfl,λkK M=>(iC (H kK au).2.2.2.2.1).s ?_⟩;rintro r ke N gr;have Jt:bW ke r (Ö l):=gr;obtain ⟨_,_,_,_,_,_,_,_,_,_,_,_,rfl⟩:=br Jt;have G:=F.m (M.m N);refine qxJ ⟨rfl,λkf O=>(kN (v au) kc ω ra (mU e)).s ?_⟩;rintro r lu gX ⟨q2,m2,d2,rfl,h2⟩;have I:=G.m (O.m gX);refine ⟨q2,m2,d2,rfl,λmD gj=>(dH y (H mD au).2.2.2.2.2.2 K ra w3 ω).s ?_⟩;rintro r nf je ⟨o2,rfl,t2⟩;refine ⟨o2,rfl,λkg P=>(vZ (H kg ((I.m au).m P)).2.2.2.2.1 (t1.le (M.m (N.m (O.m au))) ) (t2.le P)).s ?_⟩;rintro r qC nQ ⟨Q,rfl,t3⟩;exact ⟨Q,rfl,λqN lZ=>⟨Q,rfl,by unfold vg;rw [Ã b,Ã d];exact t3.le lZ⟩⟩
theorem lM (t:Tr)(h:RW V p t)(u:t.dU kh)(y:t.depth<=990:=by omega):À 18 #[Õ p] V λr W=>∃q,r=Õ q/\RW W q (vg t []):=by refine AU V _ λc a=>(dH t (h.le a) u (aZ.nil (p:=none)) (λm h=>by cases h) (by simpa using y)).s ?_;rintro r V2 d ⟨q,rfl,g⟩;exact ⟨q,rfl,λe b=>⟨q,rfl,g.le b⟩⟩
def SA (C:Rat×Rat->Prop):Prop:=∀p q,C p->C q->∀s:Rat,0<s->s<1->C (p.1+s*(q.1-p.1),p.2+s*(q.2-p.2))
def Dm (C:Rat×Rat->Prop)(l:L3)(x:Rat×Rat):Prop:=C x/\0<aG l x.1 x.2
theorem SA.sd {C:Rat×Rat->Prop}(h:SA C)(l:L3):SA (Dm C l):=λp q ⟨d,f⟩ ⟨g,i⟩ s c s1=>by
 refine ⟨h p q d g s c s1,?_⟩;have e:aG l (p.1+s*(q.1-p.1)) (p.2+s*(q.2-p.2))=(1-s)*aG l p.1 p.2+s*aG l q.1 q.2:=by unfold aG;grind
 have a:=ı (show 0<1-s by grind) f;have b:=ı c i;rw [e];grind
def MB:(Rat×Rat->Prop)->Tr->Prop
 | _,.leaf _=>True
 | C,.node l x y=>(∃q,Dm C l q)/\(∃q,Dm C (Ö l) q)/\MB (Dm C l) x/\MB (Dm C (Ö l)) y
def NO (l:L3):Tr->Nat
 | .leaf _=>0
 | .node m x y=>(if m=l\/m=Ö l then 1 else 0)+(NO l x+NO l y)
theorem betw {u y p:Rat}(h:u<p/\p<y\/y<p/\p<u):∃s:Rat,0<s/\s<1/\p=u+s*(y-u):=by have c:y-u≠0:=χ;have e:=Ŭ _ c;refine ⟨(p-u)*(y-u)⁻¹,?_,?_,χ⟩<;>{rcases h with ⟨d,f⟩|⟨d,f⟩;{have i:=Qt9.2 (show 0<y-u by grind);have a:=ı (show 0<p-u by grind) i;have b:=ı (show 0<y-p by grind) i;grind};have g:=Ŭ _ (show u-y≠0 by grind);have i:=Qt9.2 (show 0<u-y by grind);have a:=ı (show 0<u-p by grind) i;have b:=ı (show 0<p-y by grind) i;have:(y-u)⁻¹=-(u-y)⁻¹:=χ;rw [this];grind}
theorem SA.line {C:Rat×Rat->Prop}(h:SA C){u y p:Rat}(z:C (cu l u,cw l u))(D:C (cu l y,cw l y))(E:u<p/\p<y\/y<p/\p<u):C (cu l p,cw l p):=by obtain ⟨s,a,s1,rfl⟩:=betw E;have:=h _ _ z D s a s1;have b:cu l u+s*(cu l y-cu l u)=cu l (u+s*(y-u)):=by{unfold cu;grind};have c:cw l u+s*(cw l y-cw l u)=cw l (u+s*(y-u)):=by{unfold cw;grind};grind
theorem Ip (h:Nz l){x y:Rat}(u:aG l x y=0):cu l (er l x y)=x/\cw l (er l x y)=y:=by have a:=Ŭ _ h.norm;unfold aG at u;unfold cu cw er;unfold fK at *;constructor<;>grind
theorem SA.meets {C:Rat×Rat->Prop}(h:SA C)(ol:cq l=true){p q:Rat×Rat}(u:Dm C l p)(y:Dm C (Ö l) q):∃z,C (cu l z,cw l z):=by obtain ⟨a,v1⟩:=u;obtain ⟨d,v2⟩:=y;rw [val_rev] at v2;have f:aG l p.1 p.2-aG l q.1 q.2≠0:=χ;have e:=Ŭ _ f;have i:=Qt9.2 (show 0<aG l p.1 p.2-aG l q.1 q.2 by grind);have b:=ı v2 i;have c:=h p q a d (aG l p.1 p.2*(aG l p.1 p.2-aG l q.1 q.2)⁻¹) (ı v1 i) χ;generalize D:aG l p.1 p.2*(aG l p.1 p.2-aG l q.1 q.2)⁻¹=s at *;have v0:aG l (p.1+s*(q.1-p.1)) (p.2+s*(q.2-p.2))=0:=by{have g:aG l (p.1+s*(q.1-p.1)) (p.2+s*(q.2-p.2))=aG l p.1 p.2-s*(aG l p.1 p.2-aG l q.1 q.2):=by{unfold aG;grind};rw [g,<-D];grind};refine ⟨er l (p.1+s*(q.1-p.1)) (p.2+s*(q.2-p.2)),?_⟩<;>grind [Ip,eI]
theorem KX (ol:cq l=true):∀{t:Tr} {C:Rat×Rat->Prop},MB C t->SA C->t.dU (λm=>cq m=true)->NO l t≠0->∃z,C (cu l z,cw l z)
 | .leaf _,C,_,_,_,h=>Å rfl h
 | .node m x y,C,⟨⟨M,g1⟩,⟨N,g2⟩,E,F⟩,u,⟨O,ox,oy⟩,h=>by
  unfold NO at h;split at h
  ·grind [u.meets,rev_rev]
  ·by_cases k:NO l x=0
   ·have ⟨z,D⟩:=KX ol F (u.sd _) oy ω;exact ⟨z,D.1⟩
   ·have ⟨z,D⟩:=KX ol E (u.sd _) ox k;exact ⟨z,D.1⟩
open Classical in
theorem NT (ol:cq l=true){P:zA Rat}:∀{t:Tr} {C:Rat×Rat->Prop},MB C t->SA C->t.dU (λm=>cq m=true)->ZX l P t->NO l t<=1+P.countP λp=>decide (C (cu l p,cw l p))
 | .leaf _,C,_,_,_,_=>å _
 | .node m x y,C,⟨⟨q1,g1⟩,⟨q2,g2⟩,Z,hy⟩,O,⟨om,ox,oy⟩,⟨cm,cx,cy⟩=>by
  unfold NO;have ne:∀{z:Rat},aG l (cu l z) (cw l z)=0:=λ{z}=>(uE (eI ol) z).1
  have sub:∀k:L3,P.countP (λp=>decide (Dm C k (cu l p,cw l p)))<=P.countP λp=>decide (C (cu l p,cw l p)):=λk=>List.countP_mono_left λp _ h=>by
   simp only [Ñ] at h ⊢;exact h.1
  split
  ·rename_i e
   have zero:∀{k:L3} {t:Tr},(k=l\/k=Ö l)->MB (Dm C k) t->t.dU (λm=>cq m=true)->NO l t=0:=λ{k t} u h o=>by
    by_cases z:NO l t=0
    ·exact z
    ·obtain ⟨w,-,hw⟩:=KX ol h (O.sd _) o z;rcases u with rfl|rfl
     ·rw [ne] at hw;exact Å hw φ
     ·rw [val_rev,ne] at hw;exact Å hw φ
   rw [zero e Z ox,zero (by rcases e with rfl|rfl;exact .inr rfl;exact .inl (rev_rev _)) hy oy];omega
  ·have A:=NT ol Z (O.sd _) ox cx;have B:=NT ol hy (O.sd _) oy cy;have s1:=sub m;have s2:=sub (Ö m);by_cases v:NO l x=0
   ·omega
   ·by_cases D:NO l y=0
    ·omega
    ·have ⟨d,E,n⟩:=KX ol Z (O.sd _) ox v;have ⟨i,F,j⟩:=KX ol hy (O.sd _) oy D;rw [val_rev] at j;rw [jE] at n j;have q:Û m l≠0:=λh=>by rw [h] at n j;grind
     have G:Û m l*Ø m l=-jW m l:=by
      unfold Ø;grind
     have I:d<Ø m l/\Ø m l<i\/i<Ø m l/\Ø m l<d:=by rcases b_ (Û m l) with ⟨g,_⟩|⟨g,_⟩|⟨g,_⟩;{exact Å g q};{right;have t1:Û m l*(d-Ø m l)>0:=χ;have t2:Û m l*(Ø m l-i)>0:=χ;exact ⟨by have:=(Qp7 g).1 t2;grind,by have:=(Qp7 g).1 t1;grind⟩};left;have M:-Û m l>0:=χ;have t1:-Û m l*(Ø m l-d)>0:=χ;have t2:-Û m l*(i-Ø m l)>0:=χ;grind [Rat.mul_pos_iff_of_pos_left]
     have N:aG m (cu l (Ø m l)) (cw l (Ø m l))=0:=by rw [jE,G];grind
     have r:0<P.countP λc=>decide (c=Ø m l):=Qs1.2 ⟨_,cm q,ψ⟩
     have H:=cnt3 (f:=λp=>decide (Dm C m (cu l p,cw l p))) (g:=λp=>decide (Dm C (Ö m) (cu l p,cw l p))) (h:=λc=>decide (c=Ø m l)) (k:=λp=>decide (C (cu l p,cw l p))) (λc=>by
      by_cases e:c=Ø m l
      ·subst e;have J:¬Dm C m (cu l (Ø m l),cw l (Ø m l)):=λh=>by{have:=h.2;dsimp only at this;grind};have K:¬Dm C (Ö m) (cu l (Ø m l),cw l (Ø m l)):=λh=>by{have:=h.2;dsimp only at this;rw [val_rev] at this;grind};simp [J,K,(O.line E F I)]
      ·by_cases a:Dm C m (cu l c,cw l c)
       ·have b:¬Dm C (Ö m) (cu l c,cw l c):=λh=>by{have s:=h.2;have L:=a.2;dsimp only at s L;rw [val_rev] at s;grind};simp [a,b,e,a.1]
       ·by_cases b:Dm C (Ö m) (cu l c,cw l c)
        ·simp [a,b,e,b.1]
        ·simp [a,b,e]) P
     omega
theorem VC {α:Type}{f g:α->Nat}:∀{S:zA α},(∀x∈S,f x<=g x)->(S.map f).sum<=(S.map g).sum
 | [],_=>Ú _
 | x::S,h=>by
  have:=h x (ď ..);have:=VC (S:=S) λy a=>h y (ā _ a);grind
theorem sum_add {α:Type}{f g:α->Nat}:∀S:zA α,(S.map λx=>f x+g x).sum=(S.map f).sum+(S.map g).sum
 | []=>rfl
 | x::S=>by simp only [Ł,Wk2,sum_add S];omega
theorem He {α:Type}{k:Nat}:∀S:zA α,(S.map λ_=>k).sum=S.length*k
 | []=>ψ
 | x::S=>by simp only [Ł,Wk2,He S,Ĉ,ĕ];omega
theorem Dr:∀{t:Tr},t.dU (·∈ S)->t.size<=(S.map λl=>NO l t).sum
 | .leaf _,_=>å _
 | .node m x y,⟨hm,u,z⟩=>by
  have A:=Dr u;have B:=Dr z
  have e:(S.map λl=>NO l (.node m x y)).sum=(S.map λl=>if m=l\/m=Ö l then 1 else 0).sum+((S.map λl=>NO l x).sum+(S.map λl=>NO l y).sum):=by
   rw [<-sum_add,<-sum_add];rfl
  have one:1<=(S.map λl=>if m=l\/m=Ö l then 1 else 0).sum:=by
   clear A B e u z
   induction S<;>grind
  grind [Tr.size]
theorem Nl {t:Tr}(h:t.dU (·∈ S)):ZX l (S.map λm=>Ø m l) t:=h.imp λm hm _=>ÿ.2 ⟨m,hm,rfl⟩
theorem Vq {t:Tr}{C:Rat×Rat->Prop}(h:MB C t)(z:SA C)(u:t.dU (·∈ S))(y:∀l∈S,cq l=true):t.size<=S.length*(1+S.length):=by refine Ā (Dr u) ?_;rw [<-He (k:=1+S.length) S];exact VC λl a=>Ā (NT (y l a) h z (u.imp λm hm=>y m hm) (Nl u)) (Nat.add_le_add_left (Ā (List.countP_le_length ..) (by rw [Č];exact Ú _)) 1)
theorem MB.jn {C:Rat×Rat->Prop}{x y:Tr}(h:MB C (.node l x y)):MB C (Rn l x y):=by unfold Rn;split;{split;{trivial};exact h};exact h
theorem dU.jn {q:L3->Prop}{x y:Tr}(h:(Tr.node l x y).dU q):(Rn l x y).dU q:=by unfold Rn;split;{split;{trivial};exact h};exact h
theorem dep_jn {x y:Tr}:(Rn l x y).depth<=(Tr.node l x y).depth:=by unfold Rn;split;{split;{exact å _};exact Ú _};exact Ú _
theorem W_ (c:zA L3):SA (ax.pos c):=by
 induction c with
 | nil=>exact λp q _ _ s _ _ m hm=>nomatch hm
 | cons l c u=>
  have e:ax.pos (l::c)=Dm (ax.pos c) l:=by funext q;refine propext ⟨λh=>⟨λm hm=>h m (ā _ hm),h l (ď ..)⟩,λh m hm=>?_⟩;rcases í.1 hm with rfl|hm;{exact h.2};exact h.1 m hm
  rw [e];exact u.sd l
theorem Iq {q:Rat×Rat}:ax.pos (c++[l]) q↔Dm (ax.pos c) l q:=
 ⟨λh=>⟨λm hm=>h m (Ń _ hm),h l ψ⟩,λh m hm=>(ü.1 hm).elim (h.1 m) λg=>by rw [ú.1 g];exact h.2⟩
theorem Di:∀(r out:zA L3)(x:L3),x∈rR c r out↔x∈out\/x∈r/\(fh x c æ).isSome=true
 | [],out,x=>by simp [rR]
 | l::r,out,x=>by
  unfold rR;rw [Di];split<;>grind [wF]
theorem PU (u:∀m∈c,cq m=true)(y:cq l=true)(h:∃q,Dm (ax.pos c) l q):ax.pos (xL c l)=Dm (ax.pos c) l:=by have b:∀m∈c++[l],cq m=true:=χ;obtain ⟨q,a⟩:=h;have a:=Iq.2 a;funext x;refine propext (Iff.trans ⟨λg=>ax.ess (dif_of b a) a λm hm e=>g m ((Di _ _ _).2 (.inr ⟨hm,(Pl (eI (b m hm))).2 e⟩)),λg m hm=>?_⟩ Iq);rcases (Di _ _ _).1 hm with h|⟨h,-⟩;{cases h};exact g m h
theorem XC (u:∀m∈ls,cq m=true)(h:ET ls=true):∃q,ax.pos ls q:=by rcases Á h with rfl|⟨l,a,b⟩;{exact ⟨(0,0),λm hm=>nomatch hm⟩};obtain ⟨p,c,d⟩:=(Pl (eI (u l a))).1 b;obtain ⟨q,e,-⟩:=ax.es_pos (nz_d (u l a)) c d [] (λm hm=>nomatch hm);exact ⟨q,e⟩
theorem Ye (z:∀m∈c,cq m=true)(u:cq l=true)(ne:∃q,ax.pos c q)(y:Da c l≠1)(D:Da c l≠-1):(∃q,Dm (ax.pos c) l q)/\∃q,Dm (ax.pos c) (Ö l) q:=by have add:∀{m:L3},cq m=true->(ET (c++[m])=true->∃q,Dm (ax.pos c) m q):=λ{m} hm h=>by{have ⟨q,a⟩:=XC (λx b=>(ü.1 b).elim (z x) λh=>by rw [ú.1 h];exact hm) h;exact ⟨q,Iq.1 a⟩};unfold Da at y D;split at y;{rename_i g;exact ⟨add u g.1,add (yL u) g.2⟩};grind
structure MC (q:L3->Prop) (d:Nat) (C:Rat×Rat->Prop) (t:Tr):Prop where
 prp:MB C t
 all:t.dU q
 dep:t.depth<=d
theorem MC.node {q:L3->Prop}{d:Nat}{x y:Tr}(D:∀m∈c,cq m=true)(E:cq l=true)(F:q l)(ne:∃q,ax.pos c q)(M:Da c l≠1)(N:Da c l≠-1)(u:(∃q,ax.pos (xL c l) q)->MC q d (ax.pos (xL c l)) x)(z:(∃q,ax.pos (xL c (Ö l)) q)->MC q d (ax.pos (xL c (Ö l))) y):MC q (d+1) (ax.pos c) (Rn l x y):=by have ⟨a,b⟩:=Ye D E ne M N;rw [PU D E a] at u;rw [PU D (yL E) b] at z;have u:=u a;have z:=z b;refine ⟨MB.jn ⟨a,b,u.prp,z.prp⟩,dU.jn ⟨F,u.all,z.all⟩,Ā dep_jn ?_⟩<;>grind [u.dep,z.dep,Tr.depth]
theorem Bz (u:∀m∈c,cq m=true)(y:cq l=true):∀m∈xL c l,cq m=true:=λm hm=>by rcases ID _ _ _ m hm with g|g<;>grind
theorem MC.s {q:L3->Prop}{d e:Nat}{C:Rat×Rat->Prop}{t:Tr}(h:MC q d C t)(u:d<=e):MC q e C t:=⟨h.prp,h.all,Ā h.dep u⟩
theorem vh {q:L3->Prop}(u:∀l,q l->cq l=true):∀{t:Tr} {c:zA L3},t.dU q->(∀m∈c,cq m=true)->(∃x,ax.pos c x)->MC q t.depth (ax.pos c) (vg t c)
 | .leaf i,c,_,_,_=>⟨trivial,trivial,Ú _⟩
 | .node l x y,c,⟨ql,qx,qy⟩,z,ne=>by
  have D:=u l ql;unfold vg;simp only [Tr.depth];split
  ·exact (vh u qx z ne).s ω
  ·split
   ·exact (vh u qy z ne).s ω
   ·rename_i a b;refine (MC.node (d:=max x.depth y.depth) z D ql ne a b (λg=>(vh u qx (Bz z D) g).s ω) (λg=>(vh u qy (Bz z (yL D)) g).s ω)).s ω
theorem MB.not:∀{t:Tr} {C:Rat×Rat->Prop},MB C t->MB C (Ig t)
 | .leaf _,_,_=>trivial
 | .node _ _ _,_,⟨a,b,c,d⟩=>⟨a,b,MB.not c,MB.not d⟩
theorem dU.not {q:L3->Prop}:∀{t:Tr},t.dU q->(Ig t).dU q
 | .leaf _,_=>trivial
 | .node _ _ _,⟨a,b,c⟩=>⟨a,dU.not b,dU.not c⟩
theorem HQ:∀t:Tr,(Ig t).depth=t.depth
 | .leaf _=>rfl
 | .node _ x y=>by simp only [Ig,Tr.depth,HQ x,HQ y]
theorem MC.not {q:L3->Prop}{d:Nat}{C:Rat×Rat->Prop}{t:Tr}(h:MC q d C t):MC q d C (Ig t):=⟨h.prp.not,dU.not h.all,by rw [HQ];exact h.dep⟩
def rN (op:Int):Tr->Tr->List L3->Tr
 | .leaf i,b,c=>if op=1/\i=true then .leaf true else if (op=2\/op=3)/\i=false then .leaf false else if (op=3\/op=4)/\i=true then Ig (vg b c) else vg b c
 | .node l x y,b,c=>if Da c l=1 then rN op x b c else if Da c l=-1 then rN op y b c else Rn l (rN op x b (xL c l)) (rN op y b (xL c (Ö l)))
theorem CW {q:L3->Prop}(z:∀l,q l->cq l=true){op:Int}{b:Tr}(D:b.dU q):∀{a:Tr} {c:zA L3},a.dU q->(∀m∈c,cq m=true)->(∃x,ax.pos c x)->MC q (a.depth+b.depth) (ax.pos c) (rN op a b c)
 | .leaf i,c,_,u,ne=>by
  have R:MC q ((Tr.leaf i).depth+b.depth) (ax.pos c) (vg b c):=(vh z D u ne).s ω;unfold rN;split
  ·exact ⟨trivial,trivial,å _⟩
  ·split
   ·exact ⟨trivial,trivial,å _⟩
   grind [R.not]
 | .node l x y,c,⟨ql,qx,qy⟩,u,ne=>by
  have e:=z l ql;unfold rN;simp only [Tr.depth];split
  ·exact (CW z D qx u ne).s ω
  ·split
   ·exact (CW z D qy u ne).s ω
   ·rename_i f h;refine (MC.node (d:=max x.depth y.depth+b.depth) u e ql ne f h (λg=>(CW z D qx (Bz u e) g).s ω) (λg=>(CW z D qy (Bz u (yL e)) g).s ω)).s ω
theorem Hn:∀t:Tr,t.dU (·∈ t.cJ)
 | .leaf _=>trivial
 | .node l x y=>⟨ď ..,(Hn x).imp λ_ h=>ā _ (Ń _ h),(Hn y).imp λ_ h=>ā _ (ŝ _ h)⟩
def qB (V:Ó)(v:Value)(x:L3×Sp):Prop:=z_ V v x.1 x.2
theorem Lr {V:ut}{xs:zA un}{x:L3×Sp}(h:qB V (.agg xs.toArray) x):∀v∈xs,v.oneCell'=true:=by obtain ⟨_,_,_,_,_,_,_,_,_,_,_,_,_,_,_,ex,-,-⟩:=h;have ex:=Æ Array.toList (Value.agg.inj ex);subst ex;intro v a;simp only [í,Ğ,Ì] at a;rcases a with rfl|rfl|rfl|rfl|rfl|rfl|rfl|rfl|rfl|rfl|rfl|rfl|rfl|rfl|rfl|rfl|rfl<;>rfl
def gJ:L3×Sp:=((0,0,0),⟨0,0,false,false⟩)
def uG (a b:L3×Sp):Int:=iQ a.1 b.1
theorem UQ:Ř uG:=⟨λa b h=>UR.asy a.1 b.1 h,λa b d h c=>UR.tr a.1 b.1 d.1 h c⟩
def Sk (V:Ó)(v:Value)(c:L3×Sp):Prop:=z_ V v c.1 c.2/\iL 10000 c.1
theorem Sk.le {V V':ut}{c:L3×Sp}(h:Sk V v c)(l:V.Le V'):Sk V' v c:=⟨h.1.le l,h.2⟩
theorem Sk.shape {c:L3×Sp}(h:Sk V v c):∃(x y:Int)(p:OA)(u z:Int)(D:OA)(xc E:Int)(F:OA)(M N:Int)(pd:OA)(O Z:Int)(pe:OA)(fa fb:md),v=dB #[Ô .i64 x,Ô .i64 y,Õ p,Ô .i64 u,Ô .i64 z,Õ D,Ô .i64 xc,Ô .i64 E,Õ F,Ô .i64 M,Ô .i64 N,Õ pd,Ô .i64 O,Ô .i64 Z,Õ pe,gF fa,gF fb]:=by obtain ⟨⟨_,_,_,_,_,_,_,_,_,_,_,_,_,_,_,e,-⟩,-⟩:=h;exact ⟨_,_,_,_,_,_,_,_,_,_,_,_,_,_,_,_,_,e⟩
theorem oS {w:un}{a b:L3×Sp}(h:Sk V v a)(u:Sk V w b):À 161 #[v,w] V λr W=>r=Ô .i64 (uG a b):=by obtain ⟨⟨_,_,_,_,_,_,_,_,_,_,_,_,_,_,_,rfl,f,-⟩,c⟩:=h;obtain ⟨⟨_,_,_,_,_,_,_,_,_,_,_,_,_,_,_,rfl,g,-⟩,d⟩:=u;refine yV V _ λi e=>(xZ (f.le e) (g.le e) c.1 c.2.1 c.2.2 d.1 d.2.1 d.2.2).s ?_;rintro r V2 j rfl;rw [K1];exact ⟨_,rfl,λk l=>rfl⟩
structure vH (V:Ó) (n:Nat) (vs:List Value) (l:List (L3×Sp)):Prop where
 row:é 17 Sk V vs l
 len:n=l.length
 kS:l.length<10000
theorem vH.le {V V':ut}{l:zA (L3×Sp)}(h:vH V n vs l)(e:V.Le V'):vH V' n vs l:=⟨h.row.le λ_ _ g=>Sk.le g e,h.len,h.kS⟩
theorem vH.get {l:zA (L3×Sp)}(h:vH V n vs l){k:Nat}(hk:k<l.length):∃(x y:Int)(p:OA)(u z:Int)(D:OA)(xc E:Int)(F:OA)(M N:Int)(pd:OA)(O Z:Int)(pe:OA)(fa fb:md),((0+k*17)+17<=vs.length/\(vs.drop (0+k*17)).take 17=[Ô .i64 x,Ô .i64 y,Õ p,Ô .i64 u,Ô .i64 z,Õ D,Ô .i64 xc,Ô .i64 E,Õ F,Ô .i64 M,Ô .i64 N,Õ pd,Ô .i64 O,Ô .i64 Z,Õ pe,gF fa,gF fb])/\Sk V (dB #[Ô .i64 x,Ô .i64 y,Õ p,Ô .i64 u,Ô .i64 z,Õ D,Ô .i64 xc,Ô .i64 E,Õ F,Ô .i64 M,Ô .i64 N,Õ pd,Ô .i64 O,Ô .i64 Z,Õ pe,gF fa,gF fb]) (l.getD k gJ):=by obtain ⟨xs,-,a,b,c⟩:=h.row.get (d:=gJ) hk φ;obtain ⟨x,y,p,u,z,D,xc,E,F,M,N,pd,O,Z,pe,fa,fb,e⟩:=a.shape;have e:=Æ Array.toList (Value.agg.inj e);dsimp only at e;subst e;rw [č];exact ⟨x,y,p,u,z,D,xc,E,F,M,N,pd,O,Z,pe,fa,fb,⟨b,c⟩,a⟩
theorem vH.swap {l:zA (L3×Sp)}(h:vH V n vs l){i j:Nat}(hi:i<l.length)(hj:j<l.length){x y:Int}{xb yb:Int}{pb:OA}{xc yc:Int}{pc:OA}{xd yd:Int}{pd:OA}{xe ye:Int}{pe:OA}{fa fb:md}{x' y':Int}{p':OA}{u z:Int}{D:OA}{YN E:Int}{F:OA}{M N:Int}{O:OA}{Z ye':Int}{pe':OA}{fa' fb':md}(h1:Sk V (dB #[Ô .i64 x,Ô .i64 y,Õ p,Ô .i64 xb,Ô .i64 yb,Õ pb,Ô .i64 xc,Ô .i64 yc,Õ pc,Ô .i64 xd,Ô .i64 yd,Õ pd,Ô .i64 xe,Ô .i64 ye,Õ pe,gF fa,gF fb]) (l.getD i gJ))(h2:Sk V (dB #[Ô .i64 x',Ô .i64 y',Õ p',Ô .i64 u,Ô .i64 z,Õ D,Ô .i64 YN,Ô .i64 E,Õ F,Ô .i64 M,Ô .i64 N,Õ O,Ô .i64 Z,Ô .i64 ye',Õ pe',gF fa',gF fb']) (l.getD j gJ)):(0+i*17)+17<=vs.length/\(0+j*17)+17<=(bG vs (0+i*17) [Ô .i64 x',Ô .i64 y',Õ p',Ô .i64 u,Ô .i64 z,Õ D,Ô .i64 YN,Ô .i64 E,Õ F,Ô .i64 M,Ô .i64 N,Õ O,Ô .i64 Z,Ô .i64 ye',Õ pe',gF fa',gF fb']).length/\vH V n (bG (bG vs (0+i*17) [Ô .i64 x',Ô .i64 y',Õ p',Ô .i64 u,Ô .i64 z,Õ D,Ô .i64 YN,Ô .i64 E,Õ F,Ô .i64 M,Ô .i64 N,Õ O,Ô .i64 Z,Ô .i64 ye',Õ pe',gF fa',gF fb']) (0+j*17) [Ô .i64 x,Ô .i64 y,Õ p,Ô .i64 xb,Ô .i64 yb,Õ pb,Ô .i64 xc,Ô .i64 yc,Õ pc,Ô .i64 xd,Ô .i64 yd,Õ pd,Ô .i64 xe,Ô .i64 ye,Õ pe,gF fa,gF fb]) (IU gJ l i j):=by obtain ⟨-,-,-,a,-⟩:=h.row.get (d:=gJ) hi φ;obtain ⟨-,-,-,b,-⟩:=h.row.get (d:=gJ) hj φ;rw [č,č];refine ⟨a,by rw [rY (by exact a)];exact b,h.row.swap hi hj φ rfl rfl h1 h2,by rw [IV];exact h.len,by rw [IV];exact h.kS⟩
def MP (lb n:Nat)(l:List (L3×Sp))(a b:Nat)(V':Ó)(Q:List (L3×Sp)->Prop):Prop:=∃u l',V'.w.heap[lb]?=some (.cells u.toArray 109 (0,0))/\vH V' n u l'/\uC gJ l l' a b/\Q l'
theorem nX {V:ut}{lb c:Nat}{l:zA (L3×Sp)}(hw:V.w.heap[lb]?=some (.cells vs.toArray 109 (0,0)))(hx:V.X lb)(h:vH V n vs l){a:Nat}(hab:a<=b)(hb:b<=l.length:=by omega):À 272 #[yD (some ⟨lb,0,none⟩) n c,Ô .i64 a,Ô .i64 b,.func (.func 161) #[] #[]] V λr W=>r=ê #[]/\MP lb n l a b W λl'=>p_ uG gJ l' a b:=by
 have kS:=h.kS;have len:=h.len;have wa:i64.wrap ((a:Int)+1)=((a+1:Nat):Int):=by rw [aq ω];omega
 refine jd lb n c vs a b V _ hw hx ⟨λz V'=>∃(i:Nat)(m:zA (L3×Sp)),z.1=(i:Int)/\a<i/\(i<=b\/i=a+1)/\vH V' n z.2 m/\uC gJ l m a b/\p_ uG gJ m a i,λz=>(b-z.1).toNat,
  ⟨(_,vs),σ,a+1,l,wa,ω,.inr rfl,h,.refl _ _ _,.short ω⟩,?_⟩
 rintro ⟨z,us⟩ V1 l1 ⟨i,m,e,a0,q,g,d,o⟩;dsimp only at e g;subst e;dsimp only;have ml:=d.len;refine ⟨rfl,λf=>?_,λf V6 l6 S=>⟨rfl,us,m,S,ra,d,?_⟩⟩
 ·have f:=Á f;have w2:i64.wrap ((i:Int)+1)=((i+1:Nat):Int):=by rw [aq ω];omega
  rw [w2];refine ⟨λz V'=>∃(j:Nat)(k:zA (L3×Sp)),z.1=(j:Int)/\a<=j/\j<=i/\vH V' n z.2 k/\uC gJ l k a b/\YQ uG gJ k a i j,λz=>z.1.toNat,⟨((i:Int),us),σ,i,m,rfl,ω,Ú _,g,d,.start o⟩,?_⟩;rintro ⟨z,ws⟩ V2 l2 ⟨j,k,e,a1,Q,g,d,p⟩;dsimp only at e g;subst e;dsimp only;have kl:=d.len;refine ⟨rfl,λz V'=>V2.Le V'/\(z=true->a<j/\uG (k.getD j gJ) (k.getD (j-1) gJ)<0)/\(z=false->j<=a\/¬uG (k.getD j gJ) (k.getD (j-1) gJ)<0),⟨λs=>?_,λs=>?_⟩,?_⟩
  ·have s:=Á s;have T:i64.wrap ((j:Int)-1)=((j-1:Nat):Int):=by{rw [aq ω];omega};rw [T,ß,ß];obtain ⟨U,W,Y,Z,MA,K8,Ws,Wt,u,v,x,y,A,B,C,D,E,g1,r1⟩:=g.get (k:=j) ω;have ⟨x2,y2,p2,VS,VU,U1,F,G,H,I,J,K,L,M,N,O,P,g2,r2⟩:=g.get (k:=j-1) ω;refine ⟨Ź,U,W,Y,Z,MA,K8,Ws,Wt,u,v,x,y,A,B,C,D,E,g1,Ź,x2,y2,p2,VS,VU,U1,F,G,H,I,J,K,L,M,N,O,P,g2,λV3 l3=>(oS ra ra).s λr V4 l4 rfl=>⟨_,rfl,_,σ,l3.m l4,λh=>⟨ω,Á h⟩,λh=>.inr (Â h)⟩⟩
  ·have s:=Â s;exact ⟨false,σ,Ó.Le.refl _,π,λ_=>.inl ω⟩
  ·rintro t V5 l5 ⟨lv,t1,t2⟩;refine ⟨rfl,λht=>?_,λht=>⟨(((i+1:Nat):Int),ws),ω,σ,i+1,k,rfl,ω,.inl ω,ra,d,p.done UQ Q (t2 ht)⟩⟩;have ⟨s,R⟩:=t1 ht;have T:i64.wrap ((j:Int)-1)=((j-1:Nat):Int):=by rw [aq ω];omega
   rw [T,ß,ß];obtain ⟨U,W,Y,Z,MA,K8,Ws,Wt,u,v,x,y,A,B,C,D,E,g1,r1⟩:=(g.le l5).get (k:=j) ω;obtain ⟨x2,y2,p2,VS,VU,U1,F,G,H,I,J,K,L,M,N,O,P,g2,r2⟩:=(g.le l5).get (k:=j-1) ω;obtain ⟨s1,s2,s3⟩:=(g.le l5).swap (i:=j) (j:=j-1) ω ω r1 r2
   exact ⟨Ź,x2,y2,p2,VS,VU,U1,F,G,H,I,J,K,L,M,N,O,P,g2,Ź,U,W,Y,Z,MA,K8,Ws,Wt,u,v,x,y,A,B,C,D,E,g1,Ź,s1,Ź,s2,(((j-1:Nat):Int),_),ω,σ,j-1,_,rfl,ω,ω,s3,
    d.m (uC.IU ω ω ω ω),p.move UQ s Q ω R⟩
 ·have f:=Â f;rcases q with q|q;{rw [show b=i by omega];exact o};exact .short ω
end Go.Proofs.Tryz
namespace Go.Proofs.Tryz
section
variable{α:Type}{c:α->α->Int}{d:α}
structure Ep (d:α) (l l':List α) (s m e:Nat):Prop where
 qK:uC d l l' s e
 lo:∀k,s<=k->k+m<s+e->l'.getD k d=l.getD (k+m-s) d
 hi:∀k,s+e<=k+m->k<e->l'.getD k d=l.getD (k+m-e) d
theorem Ep.nil1 {l:zA α}{m e:Nat}:Ep d l l m m e:=⟨.refl _ _ _,λk _ _=>by rw [Qc9],λk h a=>ω⟩
theorem Ep.nil2 {l:zA α}{s m:Nat}:Ep d l l s m m:=⟨.refl _ _ _,λk h a=>ω,λk _ _=>by rw [Qc9]⟩
structure Wb (d:α) (l l':List α) (a b n:Nat):Prop where
 qK:uC d l l' a (b+n)
 e1:∀k,k<n->l'.getD (a+k) d=l.getD (b+k) d
 e2:∀k,k<n->l'.getD (b+k) d=l.getD (a+k) d
 out:∀k,¬(a<=k/\k<a+n)->¬(b<=k/\k<b+n)->l'.getD k d=l.getD k d
theorem Wb.nil {l:zA α}{a b:Nat}:Wb d l l a b 0:=⟨.refl _ _ _,λk h=>ω,λk h=>ω,λ_ _ _=>rfl⟩
theorem Wb.snoc {l m:zA α}{a b n:Nat}(h:Wb d l m a b n)(u:a+n<b)(y:b+n<l.length):Wb d l (IU d m (a+n) (b+n)) a b (n+1):=by have len:=h.qK.len;have e:=λk=>yR (d:=d) (l:=m) (i:=a+n) (j:=b+n) (k:=k) ω;refine ⟨(h.qK.wide (Ú _) ω).m (uC.IU ω ω ω ω),λk f=>?_,λk f=>?_,λk g o=>?_⟩;{rw [e,Ã ω];by_cases c:k=n;{subst c;rw [Ä rfl];exact h.out _ ω ω};rw [Ã ω];exact h.e1 k ω};{rw [e];by_cases c:k=n;{subst c;rw [Ä rfl];exact h.out _ ω ω};rw [Ã ω,Ã ω];exact h.e2 k ω};rw [e,Ã ω,Ã ω];exact h.out _ ω ω
theorem rot_eq {l l':zA α}{m i:Nat}(hi:i<=m)(h:Wb d l l' (m-i) m i):Ep d l l' (m-i) m (m+i):=by refine ⟨h.qK,λk a b=>?_,λk a b=>?_⟩;{have:=h.e1 (k-(m-i)) ω;rwa [show m-i+(k-(m-i))=k by omega,show m+(k-(m-i))=k+m-(m-i) by omega] at this};{have:=h.e2 (k-m) ω;rwa [show m+(k-m)=k by omega,show m-i+(k-m)=k+m-(m+i) by omega] at this}
theorem rot_gt {l n l':zA α}{m i j:Nat}(hi:i<=m)(u:j<i)(h:Wb d l n (m-i) m j)(g:Ep d n l' (m-(i-j)) m (m+j)):Ep d l l' (m-i) m (m+j):=by refine ⟨h.qK.m (g.qK.wide ω ω),λk b a=>?_,λk b a=>?_⟩;{have:=h.e1 (k-(m-i)) ω;rw [show m-i+(k-(m-i))=k by omega,show m+(k-(m-i))=k+m-(m-i) by omega] at this;rw [<-this];exact g.qK.out k ω};by_cases c:k+m<m-(i-j)+(m+j);{rw [g.lo k ω c];have:=h.e2 (k+m-(m-(i-j))-m) ω;rw [show m+(k+m-(m-(i-j))-m)=k+m-(m-(i-j)) by omega] at this;rw [this];congr 1;omega};rw [g.hi k ω a];exact h.out _ ω ω
theorem rot_lt {l n l':zA α}{m i j:Nat}(hi:i<=m)(u:i<j)(h:Wb d l n (m-i) (m+j-i) i)(g:Ep d n l' (m-i) m (m+(j-i))):Ep d l l' (m-i) m (m+j):=by have s:=h.qK;rw [show m+j-i+i=m+j by omega] at s;refine ⟨s.m (g.qK.wide ω ω),λk a b=>?_,λk a b=>?_⟩;{by_cases c:k+m<m-i+(m+(j-i));{rw [g.lo k a c];exact h.out _ ω ω};by_cases e:k<m+(j-i);{rw [g.hi k ω e];have:=h.e1 (k+m-(m+(j-i))-(m-i)) ω;rw [show m-i+(k+m-(m+(j-i))-(m-i))=k+m-(m+(j-i)) by omega] at this;rw [this];congr 1;omega};exfalso;omega};rw [g.qK.out k ω];have:=h.e2 (k-(m+j-i)) ω;rw [show m+j-i+(k-(m+j-i))=k by omega] at this;rw [this];congr 1;omega
theorem Hu {l l':zA α}{a s m e b:Nat}(E:a<=s)(F:s<=m)(M:m<=e)(N:e<=b)(r:Ep d l l' s m e)(u:p_ c d l a m)(v:p_ c d l m b)(z:∀x y,a<=x->x<s->e<=y->y<b->¬c (l.getD y d) (l.getD x d)<0)(D:∀x y,s<=x->x<m->m<=y->y<e->¬c (l.getD x d) (l.getD y d)<0):(∀p q,a<=p->p+m<s+e->s+e<=q+m->q<b->¬c (l'.getD q d) (l'.getD p d)<0)/\p_ c d l' a s/\(∀p q,s<=p->p<q->q+m<s+e->¬c (l'.getD q d) (l'.getD p d)<0)/\(∀p q,s+e<=p+m->p<q->q<e->¬c (l'.getD q d) (l'.getD p d)<0)/\p_ c d l' e b:=by have o:=λk (h:¬(s<=k/\k<e))=>r.qK.out k h;refine ⟨λp q f g n t=>?_,λp q f g i=>?_,λp q f g i=>?_,λp q f g i=>?_,λp q f g i=>?_⟩;{by_cases w:p<s;{rw [o p ω];by_cases j:q<e;{rw [r.hi q n j];exact u _ _ f ω ω};rw [o q ω];exact z _ _ f w ω t};rw [r.lo p ω g];by_cases j:q<e;{rw [r.hi q n j];exact D _ _ ω ω ω ω};rw [o q ω];exact v _ _ ω ω t};{rw [o p ω,o q ω];exact u _ _ f g ω};{rw [r.lo p f ω,r.lo q ω i];exact v _ _ ω ω ω};{rw [r.hi p f ω,r.hi q ω i];exact u _ _ ω ω ω};rw [o p ω,o q ω];exact v _ _ ω g i
theorem asc_up {l l':zA α}{a e b:Nat}(z:a+1<=e)(D:e<=b)(r:Ep d l l' a (a+1) e)(v:p_ c d l (a+1) b)(E:∀y,a+1<=y->y<e->c (l.getD y d) (l.getD a d)<0)(F:∀y,e<=y->y<b->¬c (l.getD y d) (l.getD a d)<0)(M:Ř c):p_ c d l' a b:=by obtain ⟨t1,-,t2,t3,t4⟩:=Hu (a:=a) (Ú _) (Ww8 _) z D r (.short (Ú _)) v (λx y h o=>ω) λx y s t k m=>by{obtain rfl:x=a:=ω;exact M.asy _ _ (E y k m)};intro p q g i f;by_cases u:p+1<e;{by_cases j:q+1<e;{exact t2 p q g i ω};exact t1 p q g ω ω f};by_cases j:p<e;{have n:=r.hi p ω j;rw [n,show p+(a+1)-e=a by omega,r.qK.out q ω];exact F q ω f};exact t4 p q ω i f
theorem SN {l l':zA α}{a s m:Nat}(z:a<=s)(D:s<=m)(r:Ep d l l' s m (m+1))(u:p_ c d l a m)(E:∀x,s<=x->x<m->c (l.getD m d) (l.getD x d)<0)(F:∀x,a<=x->x<s->¬c (l.getD m d) (l.getD x d)<0)(M:Ř c):p_ c d l' a (m+1):=by obtain ⟨t1,t2,-,t4,-⟩:=Hu (b:=m+1) z D (Ww8 _) (Ú _) r u (.short (Ú _)) (λx y _ _ h t=>ω) λx y j k v w=>by{obtain rfl:y=m:=ω;exact M.asy _ _ (E x j k)};intro p q e f g;by_cases n:p<s;{by_cases i:q<s;{exact t2 p q e f i};by_cases o:q=s;{subst o;rw [r.lo q (Ú _) ω,r.qK.out p ω,show q+m-q=m by omega];exact F p e n};exact t1 p q e ω ω g};by_cases i:p=s;{exact t1 p q e ω ω g};exact t4 p q ω f ω
theorem O3 {l y z:zA α}{a m b:Nat}(h:∀p q,a<=p->p<m->m<=q->q<b->¬c (l.getD q d) (l.getD p d)<0)(s1:uC d l y a m)(u:p_ c d y a m)(s2:uC d y z m b)(v:p_ c d z m b):p_ c d z a b:=by intro p q f g j;by_cases n:q<m;{rw [s2.out p ω,s2.out q ω];exact u p q f g n};by_cases o:p<m;{have ⟨k,r,s,e⟩:=s2.mem q ω j;have ⟨i,i1,i2,t⟩:=s1.mem p f o;rw [e,s1.out k ω,s2.out p ω,t];exact h i k i1 i2 r s};exact v p q ω g j
theorem p_.qK {l m:zA α}{a b x y:Nat}(h:p_ c d l x y)(s:uC d l m a b)(o:y<=a\/b<=x):p_ c d m x y:=λp q e f g=>by
 rw [s.out p ω,s.out q ω];exact h p q e f g
theorem p_.sub {l:zA α}{a b x y:Nat}(h:p_ c d l a b)(u:a<=x)(z:y<=b):p_ c d l x y:=λp q f e g=>h p q ω e ω
theorem rot_up {l g:zA α}{a k:Nat}(h:Ep d l g a (a+1) (k+1))(hak:a<=k)(u:k+1<l.length:=by omega):Ep d l (IU d g k (k+1)) a (a+1) (k+2):=by have len:=h.qK.len;have e:=λi=>yR (d:=d) (l:=g) (i:=k) (j:=k+1) (k:=i) ω;refine ⟨(h.qK.wide (Ú _) ω).m (uC.IU ω ω ω ω),λi b f=>?_,λi b f=>?_⟩;{rw [e,Ã ω];by_cases c:i=k;{rw [Ä c,h.qK.out _ ω];congr 1;omega};rw [Ã c];exact h.lo i b ω};rw [e,Ä ω,h.hi k ω ω];congr 1;omega
theorem Vf {l g:zA α}{k m:Nat}(h:Ep d l g k m (m+1))(u:0<k)(y:k<=m)(hm:m<l.length:=by omega):Ep d l (IU d g k (k-1)) (k-1) m (m+1):=by have len:=h.qK.len;have e:=λi=>yR (d:=d) (l:=g) (i:=k) (j:=k-1) (k:=i) ω;refine ⟨(h.qK.wide ω (Ú _)).m (uC.IU ω ω ω ω),λi c a=>?_,λi c a=>?_⟩;{rw [e,Ä ω,h.lo k ω ω];congr 1;omega};rw [e,Ã ω];by_cases b:i=k;{rw [Ä b,h.qK.out _ ω];congr 1;omega};rw [Ã b];exact h.hi i ω a
theorem p_.le {l:zA α}{a b:Nat}(h:p_ c d l a b)(u:Ř c){x y:Nat}(z:a<=x)(E:x<=y)(D:y<b):¬c (l.getD y d) (l.getD x d)<0:=by by_cases e:x=y;{subst e;exact u.refl _};exact h x y z ω D
def VX (c:α->α->Int)(d:α)(l:List α)(B q:Nat):Prop:=∀p,p<q->p_ c d l (p*B) ((p+1)*B)
def Blk (c:α->α->Int)(d:α)(l:List α)(B n:Nat):Prop:=∀p,p_ c d l (p*B) (min ((p+1)*B) n)
theorem VX.qK {l m:zA α}{B q e:Nat}(h:VX c d l B q)(s:uC d l m (q*B) e):VX c d m B q:=λp a=>(h p a).qK s (.inl (ć B a))
theorem VX.snoc {l m:zA α}{B q e:Nat}(h:VX c d l B q)(s:uC d l m (q*B) e)(a:p_ c d m (q*B) (q*B+B)):VX c d m B (q+1):=λp b=>by
 by_cases e:p=q
 ·subst e;rw [ĕ,ŗ];exact a
 ·exact h.qK s p ω
theorem VX.aX {l m:zA α}{B q n:Nat}(h:VX c d l B q)(s:uC d l m (q*B) n)(a:p_ c d m (q*B) n)(u:n<=q*B+B):Blk c d m B n:=λp=>by
 rcases Nat.lt_trichotomy p q with g|rfl|g
 ·exact (h.qK s p g).sub (Ú _) (Wj5 _ _)
 ·exact a.sub (Ú _) (Nat.min_le_right _ _)
 ·have:=ć B g;rw [Ŧ] at this;exact .short ω
end
end Go.Proofs.Tryz
