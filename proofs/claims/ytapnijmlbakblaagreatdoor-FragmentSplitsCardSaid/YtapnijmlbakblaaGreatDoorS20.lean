import Derived.Test.YtapnijmlbakblaaGreatDoorS19
import Derived.Test.YtapnijmlbakblaaGreatDoorS18
import Derived.Test.YtapnijmlbakblaaGreatDoorS16
import Derived.Test.YtapnijmlbakblaaGreatDoorS17
import Derived.Test.YtapnijmlbakblaaGreatDoorS6
import Derived.Test.YtapnijmlbakblaaGreatDoorS15
import Derived.Test.YtapnijmlbakblaaGreatDoorS10
set_option linter.unusedVariables false
open Go.IntKind (i64 u64 u32)
namespace Go.Proofs.Tryz
open Go.Eng Go.Big
structure Nj (V:View) (n:Nat) (vs:List Value) (l:List (L3×Sp)):Prop where
 row:Row 17 La V vs l
 len:n=l.length
 x_:l.length<50
theorem Nj.le {V V':View}{n:Nat}{vs:List Value}{l:List (L3×Sp)}(h:Nj V n vs l)(e:V.Le V'):Nj V' n vs l:=⟨h.row.le fun _ _ g=>La.le g e,h.len,h.x_⟩
theorem Nj.get {V:View}{n:Nat}{vs:List Value}{l:List (L3×Sp)}(h:Nj V n vs l){k:Nat}(hk:k<l.length):∃(x y:Int)(p:OA)(xb yb:Int)(pb:OA)(xc yc:Int)(pc:OA)(xd yd:Int)(pd:OA)(xe ye:Int)(pe:OA)(fa fb:Bool),
  ((0+k*17)+17<=vs.length/\(vs.drop (0+k*17)).take 17=[.int .i64 x,.int .i64 y,.pointer p,.int .i64 xb,.int .i64 yb,.pointer pb,.int .i64 xc,.int .i64 yc,.pointer pc,.int .i64 xd,.int .i64 yd,.pointer pd,.int .i64 xe,.int .i64 ye,.pointer pe,.bool fa,.bool fb])/\La V (.agg #[.int .i64 x,.int .i64 y,.pointer p,.int .i64 xb,.int .i64 yb,.pointer pb,.int .i64 xc,.int .i64 yc,.pointer pc,.int .i64 xd,.int .i64 yd,.pointer pd,.int .i64 xe,.int .i64 ye,.pointer pe,.bool fa,.bool fb]) (l.getD k ON):=by
 obtain ⟨xs,-,b,c,f⟩:=h.row.get (d:=ON) hk (by decide);have a:=b;obtain ⟨x,y,p,xb,yb,pb,xc,yc,pc,xd,yd,pd,xe,ye,pe,fa,fb,e⟩:=b.shape;have e:=congrArg Array.toList (Value.agg.inj e);dsimp only at e;subst e;rw [Nat.zero_add];exact ⟨x,y,p,xb,yb,pb,xc,yc,pc,xd,yd,pd,xe,ye,pe,fa,fb,⟨c,f⟩,a⟩
theorem Nj.swap {V:View}{n:Nat}{vs:List Value}{l:List (L3×Sp)}(h:Nj V n vs l){i j:Nat}(hi:i<l.length)(hj:j<l.length){x y:Int}{p:OA}{xb yb:Int}{pb:OA}{xc yc:Int}{pc:OA}{xd yd:Int}{pd:OA}{xe ye:Int}{pe:OA}{fa fb:Bool}{x' y':Int}{p':OA}{K4 K6:Int}{pb':OA}{Il P0:Int}{pc':OA}{W3 yd':Int}{V_:OA}{W4 W5:Int}{Wa:OA}{Uz UA:Bool}
  (h1:La V (.agg #[.int .i64 x,.int .i64 y,.pointer p,.int .i64 xb,.int .i64 yb,.pointer pb,.int .i64 xc,.int .i64 yc,.pointer pc,.int .i64 xd,.int .i64 yd,.pointer pd,.int .i64 xe,.int .i64 ye,.pointer pe,.bool fa,.bool fb]) (l.getD i ON))(h2:La V (.agg #[.int .i64 x',.int .i64 y',.pointer p',.int .i64 K4,.int .i64 K6,.pointer pb',.int .i64 Il,.int .i64 P0,.pointer pc',.int .i64 W3,.int .i64 yd',.pointer V_,.int .i64 W4,.int .i64 W5,.pointer Wa,.bool Uz,.bool UA]) (l.getD j ON)) :
  (0+i*17)+17<=vs.length/\(0+j*17)+17<=(aU vs (0+i*17) [.int .i64 x',.int .i64 y',.pointer p',.int .i64 K4,.int .i64 K6,.pointer pb',.int .i64 Il,.int .i64 P0,.pointer pc',.int .i64 W3,.int .i64 yd',.pointer V_,.int .i64 W4,.int .i64 W5,.pointer Wa,.bool Uz,.bool UA]).length /\
  Nj V n (aU (aU vs (0+i*17) [.int .i64 x',.int .i64 y',.pointer p',.int .i64 K4,.int .i64 K6,.pointer pb',.int .i64 Il,.int .i64 P0,.pointer pc',.int .i64 W3,.int .i64 yd',.pointer V_,.int .i64 W4,.int .i64 W5,.pointer Wa,.bool Uz,.bool UA]) (0+j*17) [.int .i64 x,.int .i64 y,.pointer p,.int .i64 xb,.int .i64 yb,.pointer pb,.int .i64 xc,.int .i64 yc,.pointer pc,.int .i64 xd,.int .i64 yd,.pointer pd,.int .i64 xe,.int .i64 ye,.pointer pe,.bool fa,.bool fb]) (pr ON l i j):=by
 obtain ⟨-,-,-,a,-⟩:=h.row.get (d:=ON) hi (by decide);obtain ⟨-,-,-,b,-⟩:=h.row.get (d:=ON) hj (by decide);rw [Nat.zero_add,Nat.zero_add];refine ⟨a,by rw [fN (by exact a)];exact b,h.row.swap hi hj (by decide) rfl rfl h1 h2,by rw [f_];exact h.len,by rw [f_];exact h.x_⟩
abbrev G7:=Rat×Int×Int
def QW (s:Sp):Sp:=⟨s.lo,0,s.a,true⟩
def WG (was:Bool)(last:Sp)(out:List Sp):List Sp:=out++if was then [QW last] else []
def Ud (acc:Bool->Bool->Bool)(A B:List Sp)(t:Rat):Bool:=acc (inB A t) (inB B t)
structure SwI (acc:Bool->Bool->Bool) (A B:List Sp) (cs:List G7) (i:Nat) (was:Bool) (last:Sp) (out:List Sp):Prop where
 rg:xz (WG was last out)
 lo:∀s∈WG was last out,∀h:i<cs.length,s.a=false->s.lo<cs[i].1
 hi:∀s∈out,s.b=false/\∀h:i<cs.length,s.hi<cs[i].1
 inn:∀t,(∀s∈A++B,¬s.mr t)->(∀h:i<cs.length,t<cs[i].1)->inB (WG was last out) t=Ud acc A B t
 fr:was=true->last.hi=0/\last.b=false
section
variable {acc:Bool->Bool->Bool} {A B:List Sp} {cs:List G7} {i:Nat} {was:Bool} {last:Sp} {out:List Sp}
end
end Go.Proofs.Tryz
namespace Go.Proofs.Tryz
open Go.Eng
set_option maxRecDepth 100000
end Go.Proofs.Tryz
namespace Go.Proofs.Tryz
open Go.Eng Go.Big
def dC:G7:=(0,0,0)
def RC (V:View)(v:Value)(c:G7):Prop:=∃(x y:Int)(p:OA),v=.agg #[.int .i64 x,.int .i64 y,.pointer p,.int .i64 c.2.1,.int .i64 c.2.2]/\RR V (.agg #[.int .i64 x,.int .i64 y,.pointer p]) c.1/\Sz 1000000 c.1
theorem RC.le {V V':View}{v:Value}{c:G7}(h:RC V v c)(l:V.Le V'):RC V' v c:=by
 obtain ⟨x,y,p,e,a,b⟩:=h;exact ⟨x,y,p,e,a.le l,b⟩
theorem RC.shape {V:View}{v:Value}{c:G7}(h:RC V v c):∃(x y:Int)(p:OA)(a b:Int),v=.agg #[.int .i64 x,.int .i64 y,.pointer p,.int .i64 a,.int .i64 b]:=by
 obtain ⟨x,y,p,e,-⟩:=h;exact ⟨x,y,p,_,_,e⟩
structure SR (V:View) (n:Nat) (vs:List Value) (l:List G7):Prop where
 row:Row 5 RC V vs l
 len:n=l.length
 x_:l.length<50
theorem SR.le {V V':View}{n:Nat}{vs:List Value}{l:List G7}(h:SR V n vs l)(e:V.Le V'):SR V' n vs l:=⟨h.row.le fun _ _ g=>RC.le g e,h.len,h.x_⟩
theorem SR.get {V:View}{n:Nat}{vs:List Value}{l:List G7}(h:SR V n vs l){k:Nat}(hk:k<l.length):∃(x y:Int)(p:OA)(a b:Int),
  ((0+k*5)+5<=vs.length/\(vs.drop (0+k*5)).take 5=[.int .i64 x,.int .i64 y,.pointer p,.int .i64 a,.int .i64 b])/\RC V (.agg #[.int .i64 x,.int .i64 y,.pointer p,.int .i64 a,.int .i64 b]) (l.getD k dC):=by
 obtain ⟨xs,-,f,g,i⟩:=h.row.get (d:=dC) hk (by decide);have c:=f;obtain ⟨x,y,p,a,b,e⟩:=f.shape;have e:=congrArg Array.toList (Value.agg.inj e);dsimp only at e;subst e;rw [Nat.zero_add];exact ⟨x,y,p,a,b,⟨g,i⟩,c⟩
theorem SR.swap {V:View}{n:Nat}{vs:List Value}{l:List G7}(h:SR V n vs l){i j:Nat}(hi:i<l.length)(hj:j<l.length){x y:Int}{p:OA}{a b x' y':Int}{p':OA}{a' b':Int}
  (h1:RC V (.agg #[.int .i64 x,.int .i64 y,.pointer p,.int .i64 a,.int .i64 b]) (l.getD i dC))(h2:RC V (.agg #[.int .i64 x',.int .i64 y',.pointer p',.int .i64 a',.int .i64 b']) (l.getD j dC)) :
  (0+i*5)+5<=vs.length/\(0+j*5)+5<=(aU vs (0+i*5) [.int .i64 x',.int .i64 y',.pointer p',.int .i64 a',.int .i64 b']).length /\
  SR V n (aU (aU vs (0+i*5) [.int .i64 x',.int .i64 y',.pointer p',.int .i64 a',.int .i64 b']) (0+j*5) [.int .i64 x,.int .i64 y,.pointer p,.int .i64 a,.int .i64 b]) (pr dC l i j):=by
 obtain ⟨-,-,-,c,-⟩:=h.row.get (d:=dC) hi (by decide);obtain ⟨-,-,-,e,-⟩:=h.row.get (d:=dC) hj (by decide);rw [Nat.zero_add,Nat.zero_add];refine ⟨c,by rw [fN (by exact c)];exact e,h.row.swap hi hj (by decide) rfl rfl h1 h2,by rw [f_];exact h.len,by rw [f_];exact h.x_⟩
def int (a b:List Sp):List Sp:=combL 2 a b
end Go.Proofs.Tryz
namespace Go.Proofs.Tryz
open Go.Eng
set_option maxRecDepth 100000
end Go.Proofs.Tryz
namespace Go.Proofs.Tryz
open Go.Eng Go.Big
structure CR (V:View) (n c:Nat) (vs:List Value) (l:List G7):Prop where
 len:n=l.length
 le:n<=c
 cap:c*5<=vs.length
 row:Row 5 RC V vs l
 ne:vs≠[]->l≠[]
theorem CR.mono {V V':View}{n c:Nat}{vs:List Value}{l:List G7}(h:CR V n c vs l)(e:V.Le V'):CR V' n c vs l:=⟨h.len,h.le,h.cap,h.row.le fun _ _ g=>RC.le g e,h.ne⟩
theorem CR.snoc {V:View}{n c:Nat}{vs:List Value}{l:List G7}(h:CR V n c vs l){x y:Int}{p:OA}{q:Rat}(hr:RR V (.agg #[.int .i64 x,.int .i64 y,.pointer p]) q)(hs:Sz 1000000 q)(k d:Int){sp:List Value}{c':Nat}(h1:n+1<=c')(h2:c'*5<=(n+1)*5+sp.length) :
  CR V (n+1) c' (vs.take (n*5)++([.int .i64 x,.int .i64 y,.pointer p,.int .i64 k,.int .i64 d]:List Value)++sp) (l++[(q,k,d)]):=by
 have b:=h.len;have f:=h.cap;have g:=h.le;refine ⟨by rw [List.length_append,b];rfl,h1,?_,?_,fun _=>by simp⟩
 ·have e:(vs.take (n*5)).length=n*5:=by rw [List.length_take];omega
  rw [List.length_append,List.length_append,e];simp only [List.length_cons,List.length_nil];omega
 ·have:=h.row.snoc (sp:=sp) (xs:=[.int .i64 x,.int .i64 y,.pointer p,.int .i64 k,.int .i64 d]) (a:=(q,k,d)) rfl ⟨x,y,p,rfl,hr,hs⟩ (by decide);rw [←b] at this;exact this
structure IR (V:View) (n c:Nat) (vs:List Value) (l:List Sp):Prop where
 len:n=l.length
 le:n<=c
 cap:c*8<=vs.length
 row:Row 8 At V vs l
theorem IR.mono {V V':View}{n c:Nat}{vs:List Value}{l:List Sp}(h:IR V n c vs l)(e:V.Le V'):IR V' n c vs l:=⟨h.len,h.le,h.cap,h.row.le fun _ _ g=>At.le g e⟩
theorem IR.nil {V:View}:IR V 0 0 [] []:=⟨rfl,Nat.le_refl _,Nat.le_refl _,Row.nil⟩
theorem IR.snoc {V:View}{n c:Nat}{vs:List Value}{l:List Sp}(h:IR V n c vs l){x1 x2:Int}{p:OA}{y1 y2:Int}{q:OA}{s:Sp}(hr:RR V (.agg #[.int .i64 x1,.int .i64 x2,.pointer p]) s.lo)(hr':RR V (.agg #[.int .i64 y1,.int .i64 y2,.pointer q]) s.hi){sp:List Value}{c':Nat}(h1:n+1<=c')(h2:c'*8<=(n+1)*8+sp.length) :
  IR V (n+1) c' (vs.take (n*8)++([.int .i64 x1,.int .i64 x2,.pointer p,.int .i64 y1,.int .i64 y2,.pointer q,.bool s.a,.bool s.b]:List Value)++sp) (l++[s]):=by
 have d:=h.len;have f:=h.cap;have g:=h.le;refine ⟨by rw [List.length_append,d];rfl,h1,?_,?_⟩
 ·have e:(vs.take (n*8)).length=n*8:=by rw [List.length_take];omega
  rw [List.length_append,List.length_append,e];simp only [List.length_cons,List.length_nil];omega
 ·have:=h.row.snoc (sp:=sp) (xs:=[.int .i64 x1,.int .i64 x2,.pointer p,.int .i64 y1,.int .i64 y2,.pointer q,.bool s.a,.bool s.b]) (a:=s) rfl ⟨_,_,_,_,_,_,rfl,hr,hr'⟩ (by decide);rw [←d] at this;exact this
end Go.Proofs.Tryz
namespace Go.Proofs.Tryz
open Go.Eng
set_option maxRecDepth 100000
end Go.Proofs.Tryz
namespace Go.Proofs.Tryz
open Go.Eng Go.Big
theorem MI {V:View}{p:OA}{n:Nat}{fs:List (L3×Sp)}(h:dR 17 Lq V p n fs):kJ V p n fs:=⟨h.len,fun i a=>by
 obtain ⟨b,c,xs,-,d,e⟩:=h.at_ i a;exact ⟨b,c,xs,d,e⟩⟩
theorem Lt.le {V V':View}{v:Value}{c:Rat×Rat}(h:Lt V v c)(l:V.Le V'):Lt V' v c:=jY.le h l
theorem ML {V:View}{xs:List Value}{x:Rat×Rat}(h:Lt V (.agg xs.toArray) x):∀v∈xs,v.oneCell'=true:=by
 obtain ⟨_,_,_,_,_,_,ex,-,-⟩:=h;have ex:=congrArg Array.toList (Value.agg.inj ex);dsimp only at ex;subst ex;intro v a;simp only [List.mem_cons,List.not_mem_nil,or_false] at a;rcases a with rfl|rfl|rfl|rfl|rfl|rfl<;>rfl
theorem AV {k:Nat}:∀{l:List Rat} {s:Sp},s.sz k->(∀t∈l,Sz k t)->∀u∈chop s l,u.sz k
 | [],s,hs,_,u,hu=>by rw [List.mem_singleton.1 hu];exact hs
 | t::r,s,hs,ht,u,hu=>by
  have h0:=ht t (List.mem_cons_self ..);rcases List.mem_cons.1 hu with rfl|hu
  ·exact ⟨hs.1,h0⟩
  ·exact AV (s:=⟨t,s.hi,false,s.b⟩) ⟨h0,hs.2⟩ (fun x a=>ht x (List.mem_cons_of_mem _ a)) u hu
theorem vh {L:L3}{s:Sp}{ps:List (Rat×Rat)}{k:Nat}(sl:eG k L)(sp:∀q∈ps,Sz k q.1/\Sz k q.2):∀t∈ascL (cutsG L s ps),Sz (8*k+7) t:=fun t a=>by
 obtain ⟨q,b,rfl⟩:=List.mem_map.1 (((ascL_spec _).2 t).1 a);obtain ⟨s1,s2⟩:=sp q (List.mem_filter.1 b).1;exact lD sl s1 s2
theorem Cd (l:List Rat):(ascL l).length<=l.length:=by
 have:∀(l o:List Rat),(l.foldl (fun o x=>cB x o) o).length<=o.length+l.length:=by
  intro l
  induction l with
  | nil=>exact fun o=>Nat.le_refl _
  | cons y r ih=>intro o;have a:=ih (cB y o);have b:=@vD y o;rw [List.foldl_cons,List.length_cons];omega
 have:=this l [];simpa [ascL] using this
theorem EB {V:View}{v:Value}{p:OA}{n c:Nat}{l:L3}{s:Sp}{ps:List (Rat×Rat)}(h:xD V v l s)(hp:dR 6 pv V p n ps)(ho:Lp l s){k:Nat}(sl:eG k l)(ss:s.sz k)(sp:∀q∈ps,Sz k q.1/\Sz k q.2)(hn:ps.length<=12)(hk:8*k+7<=1000000) :
  ae prog 19 #[v,.slice p n c] V fun r V'=>∃q m e,r=.tuple #[.slice q m e,.nilIface]/\uA V' q m ((chop s (ascL (cutsG l s ps))).map fun t=>(l,t)):=by
 obtain rfl:=hp.len;have I:=h;obtain ⟨_,_,_,_,_,_,_,_,_,_,_,_,_,_,_,_,_,_,_,_,_,_,_,_,_,_,rfl⟩:=eN h;refine tL _ _ _ _ _ _ _ _ _ _ _ _ _ _ _ _ _ _ _ _ _ _ _ _ _ _ _ _ p _ c V _ fun V1 y=>(mT (I.le y) ho sl ss (by omega)).mono ?_;rintro r V2 K ⟨u,rfl,g⟩;have i:=g;obtain ⟨_,_,_,_,_,_,_,_,_,_,_,_,_,_,_,rfl⟩:=G8.ex g;refine ⟨_,_,_,_,_,_,_,_,_,_,_,_,_,_,_,_,_,_,rfl,(fun h=>nomatch h),fun _=>⟨fun z V'=>∃j:Nat,z.2.2.2=(j:Int)/\j<=ps.length/\GR 6 Lt V' z.1 z.2.1 z.2.2.1 (ps.take j),fun z=>ps.length-z.2.2.2.toNat,⟨(0,0,[],0),by and_intros<;>rfl,0,rfl,Nat.zero_le _,GR.nil⟩,?_⟩⟩;have A:=y.trans K;rintro ⟨L,z2,vs,z4⟩ V4 x ⟨j,B,B2,d⟩;dsimp only at B d;subst B;have M:=d.len;rw [List.length_take] at M;refine ⟨rfl,fun b=>?_,fun b V7 C bk N=>?_⟩
 ·have b:(j:Int)<ps.length:=of_decide_eq_true b;have o:j<ps.length:=by omega
  have w:i64.wrap ((j:Int)+1)=((j+1:Nat):Int):=by rw [aw (by omega)];rfl
  dsimp only;rw [Int.toNat_natCast,w];obtain ⟨is,b1,p1,n1,c1,p2,n2,c2,b2,p3,n3,c3,p4,n4,c4,a,O,P,Q,R,S,T,U,W⟩:=Fb pv.shape (hp.le (A.trans x) fun _ _ g=>pv.le g (A.trans x)) o;obtain ⟨s1,s2⟩:=sp _ (List.getElem_mem o);refine ⟨is,⟨by omega,by omega⟩,_,_,_,_,_,_,_,_,_,_,_,_,_,_,a,O,P,Q,R,S,T,U,fun V5 D=>(gC (As.le W D) s1 s2 (by omega)).mono ?_⟩;rintro r E X F;have i:Lt E r ps[j]:=F;obtain ⟨_,_,_,_,_,_,rfl,-,-⟩:=F;refine ⟨_,_,_,_,_,_,rfl,by omega,d.le,d.cap,rfl,ML i,fun Y Z k1 k2=>⟨(L+1,Z,_,((j+1:Nat):Int)),by dsimp only;omega,by and_intros<;>rfl,j+1,rfl,o,?_⟩⟩;rw [←List.take_append_getElem o];exact (d.mono (V':=E) fun _ _ g=>Lt.le g (D.trans X)).snoc rfl i (by decide) k1 k2
 ·have b:¬(j:Int)<ps.length:=of_decide_eq_false b;obtain rfl:j=ps.length:=by omega
  rw [List.take_length] at d;have G:=dR.eh N (d.row.le fun _ _ g=>Lt.le g C) (by decide) (by rw [←d.len];exact d.le);rw [←d.len] at G;refine (I2 (i.le (x.trans C)) G sl ss sp hn hk).mono ?_;rintro r V8 l8 ⟨q,m,e,rfl,hC⟩;have cl:=chop_len s (ascL (cutsG l s ps));have al:=Cd (cutsG l s ps);have gl:=mX l s ps
  refine ⟨_,_,_,rfl,fun J V9 H=>(oC (k:=8*k+7) (MI (hC.le H fun _ _ g=>xE.le g H)) (by rw [List.length_map];omega) (fun f hf=>by
   obtain ⟨t,ht,rfl⟩:=List.mem_map.1 hf;exact ⟨⟨sl.1.mono (by omega),sl.2.1.mono (by omega),sl.2.2.mono (by omega)⟩,AV ⟨ss.1.mono (by omega),ss.2.mono (by omega)⟩ (vh sl sp) t ht⟩) (by omega)).mono ?_⟩
  rintro r gu a6 ⟨q2,m2,e2,rfl,hR⟩;exact ⟨_,_,_,rfl,fun fg bF=>⟨_,_,_,rfl,hR.le bF⟩⟩
def Ok (V:View)(v:Value)(x:L3×Sp):Prop:=xD V v x.1 x.2
theorem tA {V:View}{p:OA}{n c:Nat}{fs:List (L3×Sp)}(h:dR 14 xr V p n fs)(hn:fs.length<=1000000){k:Nat}(hs:∀f∈fs,eG k f.1/\f.2.sz k)(hk:k<=1099511627776) :
  ae prog 26 #[.slice p n c] V fun r V'=>∃q m e,r=.slice q m e/\dR 14 Ok V' q m fs:=by
 obtain rfl:=h.len;refine sd p _ c V _ ⟨fun z V'=>∃j:Nat,z.2.2.2=(j:Int)/\j<=fs.length/\GR 14 Ok V' z.1 z.2.1 z.2.2.1 (fs.take j),fun z=>fs.length-z.2.2.2.toNat,⟨(0,0,[],0),by and_intros<;>rfl,0,rfl,Nat.zero_le _,GR.nil⟩,?_⟩;rintro ⟨B,C,K,L⟩ M t ⟨j,u,N,d⟩;dsimp only at u d;subst u;have l:=d.len;refine ⟨rfl,fun b=>?_,fun b O D P E=>?_⟩;rotate_left
 ·have b:¬(j:Int)<fs.length:=of_decide_eq_false b;obtain rfl:j=fs.length:=by omega
  rw [List.take_length] at d l;subst l;exact ⟨_,_,C,rfl,dR.eh E (d.row.le fun _ _ g=>xD.le g D) (by decide) d.le⟩
 have b:(j:Int)<fs.length:=of_decide_eq_true b;have i:j<fs.length:=by omega
 have w:i64.wrap ((j:Int)+1)=((j+1:Nat):Int):=by rw [aw (by omega)];rfl
 dsimp only;rw [Int.toNat_natCast,w];obtain ⟨F,v,xs,Q,x,a⟩:=(h.le t fun _ _ g=>xr.le g t).at_ j i;have o:=x;obtain ⟨_,_,_,_,_,_,_,_,_,_,_,_,_,_,_,_,_,_,_,_,_,_,_,_,_,_,ex,-,-⟩:=x;have ex:=congrArg Array.toList (Value.agg.inj ex);dsimp only at ex;subst ex;obtain ⟨s1,s2⟩:=hs _ (List.getElem_mem i);rw [List.length_take] at l;refine ⟨aY v,⟨by omega,by omega⟩,_,_,_,_,_,_,_,_,_,_,_,_,_,_,_,_,_,_,_,_,_,_,_,_,_,_,_,_,F,v,a 0 _ rfl,a 1 _ rfl,a 2 _ rfl,a 3 _ rfl,a 4 _ rfl,a 5 _ rfl,a 6 _ rfl,a 7 _ rfl,a 8 _ rfl,a 9 _ rfl,a 10 _ rfl,a 11 _ rfl,a 12 _ rfl,a 13 _ rfl,fun V2 y=>(iS (xr.le o y) s1 s2 hk).mono ?_⟩;rintro r R G A;have s:=A;obtain ⟨_,_,_,_,_,_,_,_,_,_,_,_,_,_,_,_,_,_,_,_,_,_,_,_,_,_,rfl,-,-⟩:=A;refine ⟨_,_,_,_,_,_,_,_,_,_,_,_,_,_,_,_,_,_,_,_,_,_,_,_,_,_,_,_,rfl,by omega,d.le,d.cap,rfl,GL,fun sp H I J=>⟨(B+1,H,_,((j+1:Nat):Int)),by dsimp only;omega,by and_intros<;>rfl,j+1,rfl,i,?_⟩⟩;rw [←List.take_append_getElem i];exact (d.mono fun _ _ g=>xD.le g (y.trans G)).snoc rfl s (by decide) I J
def oF (a b:Rat×Rat):Int:=if cmpQ a.1 b.1=0 then cmpQ a.2 b.2 else cmpQ a.1 b.1
theorem LP {a b:Rat×Rat}:a=b↔oF a b=0:=by
 obtain ⟨c,d⟩:=a;obtain ⟨b1,b2⟩:=b;unfold oF;dsimp only;rw [Prod.mk.injEq];by_cases h:cmpQ c b1=0
 ·rw [if_pos h];exact ⟨fun g=>dX.1 g.2,fun g=>⟨dX.2 h,dX.2 g⟩⟩
 ·rw [if_neg h];exact ⟨fun g=>absurd (dX.1 g.1) h,fun g=>absurd g h⟩
def jo (x:Rat×Rat):List (Rat×Rat)->List (Rat×Rat)
 | []=>[x]
 | y::r=>if oF y x<0 then y::jo x r else if y=x then y::r else x::y::r
theorem Mf {x:Rat×Rat}:∀(o:List (Rat×Rat))(k:Nat),k<=o.length->(∀j (h:j<o.length),j<k->oF o[j] x<0)->(∀h:k<o.length,¬oF o[k] x<0) ->
  jo x o=if (∃h:k<o.length,o[k]=x) then o else o.take k++x::o.drop k:=by
 intro o
 induction o with
 | nil=>
  intro k f _ _;obtain rfl:k=0:=by simpa using f
  simp [jo]
 | cons y r ih=>
  intro k f a b
  cases k with
  | zero=>
   have g:¬oF y x<0:=b (by simp);unfold jo;rw [if_neg g];by_cases e:y=x
   ·rw [if_pos e,if_pos ⟨by simp,e⟩]
   ·rw [if_neg e,if_neg (by rintro ⟨_,h⟩;exact e h)];rfl
  | succ k=>
   have g:oF y x<0:=a 0 (by simp) (by omega);unfold jo;rw [if_pos g,ih k (by simpa using f) (fun j h i=>a (j+1) (by simpa using h) (by omega)) (fun h=>b (by simpa using h))];by_cases e:∃h:k<r.length,r[k]=x
   ·obtain ⟨c,d⟩:=e;rw [if_pos ⟨c,d⟩,if_pos ⟨by simpa using c,d⟩]
   ·rw [if_neg e,if_neg (by rintro ⟨c,d⟩;exact e ⟨by simpa using c,d⟩)];rfl
theorem CS (x:Rat×Rat):∀o:List (Rat×Rat),(jo x o).length<=o.length+1
 | []=>by simp [jo]
 | y::r=>by
  have:=CS x r;unfold jo;split
  ·simp;omega
  ·split<;>simp
theorem pU {x y:Rat×Rat}:∀{o:List (Rat×Rat)},y∈jo x o↔y=x\/y∈o
 | []=>by simp [jo]
 | z::r=>by
  have ih:=pU (x:=x) (y:=y) (o:=r);unfold jo;split
  ·rw [List.mem_cons,ih,List.mem_cons];exact ⟨fun h=>h.elim (fun h=>.inr (.inl h)) fun h=>h.elim .inl fun h=>.inr (.inr h),fun h=>h.elim (fun h=>.inr (.inl h)) fun h=>h.elim .inl fun h=>.inr (.inr h)⟩
  ·split
   ·rename_i e;subst e;rw [List.mem_cons];exact ⟨.inr,fun h=>h.elim .inl id⟩
   ·rw [List.mem_cons]
def fZ (l:List (Rat×Rat)):List (Rat×Rat):=l.foldl (fun o x=>jo x o) []
def Iv (a b:Rat×Rat):Prop:=oF a b<0
theorem Ba {a b:Rat×Rat}:Iv a b↔a.1<b.1\/a.1=b.1/\a.2<b.2:=by
 unfold Iv oF;by_cases h:cmpQ a.1 b.1=0
 ·rw [if_pos h,cmpQ_neg];have e:=dX.2 h;exact ⟨fun g=>.inr ⟨e,g⟩,fun g=>g.elim (fun g=>by grind) (·.2)⟩
 ·rw [if_neg h,cmpQ_neg];have e:a.1≠b.1:=fun e=>h (dX.1 e);exact ⟨.inl,fun g=>g.elim id fun g=>absurd g.1 e⟩
theorem Pv {a b:Rat×Rat}(h:¬Iv a b)(e:a≠b):Iv b a:=by
 rw [Ba] at *;obtain ⟨c,d⟩:=a;obtain ⟨b1,b2⟩:=b;dsimp only at *;have:¬(c=b1/\d=b2):=fun ⟨f,g⟩=>e (by rw [f,g]);grind
theorem Pw {a b c:Rat×Rat}(h:Iv a b)(g:Iv b c):Iv a c:=by
 rw [Ba] at *;grind
theorem CQ {x:Rat×Rat}:∀{o:List (Rat×Rat)},o.Pairwise Iv->(jo x o).Pairwise Iv
 | [],_=>List.pairwise_singleton _ _
 | z::r,h=>by
  obtain ⟨h1,h2⟩:=List.pairwise_cons.1 h;unfold jo;split
  ·rename_i b;refine List.pairwise_cons.2 ⟨fun y a=>?_,CQ h2⟩;rcases pU.1 a with rfl|a
   ·exact b
   ·exact h1 y a
  ·rename_i b;split
   ·exact h
   ·rename_i c;have d:Iv x z:=Pv b c;refine List.pairwise_cons.2 ⟨fun y a=>?_,h⟩;rcases List.mem_cons.1 a with rfl|a
    ·exact d
    ·exact Pw d (h1 y a)
theorem BA (l:List (Rat×Rat)):(fZ l).Pairwise (·≠·)/\∀x,x∈fZ l↔x∈l:=by
 have:∀(l o:List (Rat×Rat)),o.Pairwise Iv->(l.foldl (fun o x=>jo x o) o).Pairwise Iv/\∀x,x∈l.foldl (fun o x=>jo x o) o↔x∈o\/x∈l:=by
  intro l
  induction l with
  | nil=>intro o h;exact ⟨h,fun x=>by simp⟩
  | cons y r ih=>
   intro o h;obtain ⟨a,b⟩:=ih (jo y o) (CQ h);refine ⟨a,fun x=>?_⟩;rw [List.foldl_cons,b x,pU,List.mem_cons];constructor
   ·rintro ((h|h)|h)<;>simp [h]
   ·rintro (h|h|h)<;>simp [h]
 obtain ⟨a,b⟩:=this l [] List.Pairwise.nil;refine ⟨a.imp fun h e=>?_,fun x=>by rw [fZ,b x];simp⟩;subst e;rw [Ba] at h;grind
theorem JL {V:View}{p:OA}{n:Nat}{al:List (Rat×Rat)}(h:dR 6 jI V p n al){i:Nat}(hi:i<al.length) :
  p.isSome=true/\∃(b1:Bool)(p1:OA)(n1 c1:Nat)(p2:OA)(n2 c2:Nat)(b2:Bool)(p3:OA)(n3 c3:Nat)(p4:OA)(n4 c4:Nat)(a:Addr),ah p (i*6)=some a/\V.at (a.add 0) (.bool b1)/\V.at (a.add 1) (.slice p1 n1 c1)/\V.at (a.add 2) (.slice p2 n2 c2)/\V.at (a.add 3) (.bool b2)/\V.at (a.add 4) (.slice p3 n3 c3)/\V.at (a.add 5) (.slice p4 n4 c4) /\
   jI V (.agg #[.bool b1,.slice p1 n1 c1,.slice p2 n2 c2,.bool b2,.slice p3 n3 c3,.slice p4 n4 c4]) al[i]:=Fb jI.shape h hi
theorem Bu {V:View}{xs:List Value}{q:Rat×Rat}(h:jI V (.agg xs.toArray) q):∀v∈xs,v.oneCell'=true:=by
 obtain ⟨_,_,_,_,_,_,_,_,_,_,_,_,_,_,ex⟩:=jI.shape h;have ex:=congrArg Array.toList (Value.agg.inj ex);dsimp only at ex;subst ex;intro v a;simp only [List.mem_cons,List.not_mem_nil,or_false] at a;rcases a with rfl|rfl|rfl|rfl|rfl|rfl<;>rfl
theorem KB {V:View}{vs:List Value}{qs:List (Rat×Rat)}(h:Row 6 jI V vs qs){i:Nat}(hi:i<qs.length):∃b p1 n1 c1 p2 n2 c2 d p3 n3 c3 p4 n4 c4,i*6+6<=vs.length/\(vs.drop (i*6)).take 6=[.bool b,.slice p1 n1 c1,.slice p2 n2 c2,.bool d,.slice p3 n3 c3,.slice p4 n4 c4]/\jI V (.agg #[.bool b,.slice p1 n1 c1,.slice p2 n2 c2,.bool d,.slice p3 n3 c3,.slice p4 n4 c4]) qs[i]:=by
 obtain ⟨xs,-,f,a⟩:=h.at_ i hi;have c:=f;obtain ⟨b,p1,n1,c1,p2,n2,c2,d,p3,n3,c3,p4,n4,c4,e⟩:=jI.shape f;have e:=congrArg Array.toList (Value.agg.inj e);dsimp only at e;subst e;have l:=a 0 _ rfl;have m:=a 1 _ rfl;have n:=a 2 _ rfl;have o:=a 3 _ rfl;have p:=a 4 _ rfl;have g:=a 5 _ rfl;have q:=(List.getElem?_eq_some_iff.1 g).1;refine ⟨_,p1,n1,c1,p2,n2,c2,_,p3,n3,c3,p4,n4,c4,by omega,?_,c⟩;apply List.ext_getElem?;intro j;rw [List.getElem?_take];by_cases k:j<6
 ·rw [if_pos k,List.getElem?_drop];have:j=0\/j=1\/j=2\/j=3\/j=4\/j=5:=by omega
  rcases this with rfl|rfl|rfl|rfl|rfl|rfl
  ·exact l
  ·exact m
  ·exact n
  ·exact o
  ·exact p
  ·exact g
 ·rw [if_neg k,List.getElem?_eq_none (by simp;omega)]
theorem lJ {V:View}{v w:Value}{a b:Rat×Rat}(h:jI V v a)(h':jI V w b){k:Nat}(hs:Sz k a.1/\Sz k a.2)(hs':Sz k b.1/\Sz k b.2)(hk:2*k<274877906944) :
  ae prog 118 #[v,w] V fun r V'=>r=.int .i64 (oF a b):=by
 obtain ⟨p,n,c,B,C,D,q,m,e,E,F,G,rfl,z,A⟩:=h;obtain ⟨u,i,j,H,I,J,t,o,f,K,L,M,rfl,l,s⟩:=h';refine rX _ _ _ _ _ _ _ _ _ _ _ _ _ _ _ _ _ _ _ _ _ _ _ _ _ _ _ _ V _ fun N d=>(im (z.le d) (l.le d) hs.1 hs'.1 (by omega)).mono ?_;rintro r V2 x rfl;refine ⟨_,rfl,fun g O P=>?_,fun g Q y=>(im (A.le (d.trans (x.trans y))) (s.le (d.trans (x.trans y))) hs.2 hs'.2 (by omega)).mono ?_⟩
 ·have g:¬cmpQ a.1 b.1=0:=by simpa using g
  unfold oF;rw [if_neg g]
 ·have g:cmpQ a.1 b.1=0:=by simpa using g
  rintro r R S rfl;exact ⟨_,rfl,fun T U=>by unfold oF;rw [if_pos g]⟩
theorem uX {V:View}{p:OA}{n c:Nat}{ls:List (Rat×Rat)}(h:dR 6 jI V p n ls)(hl:ls.length<=2000000){k:Nat}(hs:∀q∈ls,Sz k q.1/\Sz k q.2)(hk:2*k<274877906944) :
  ae prog 58 #[.slice p n c] V fun r V'=>∃q m e,r=.slice q m e/\dR 6 jI V' q m (fZ ls):=by
 obtain rfl:=h.len
 refine tX p _ c V _ ⟨fun z V'=>∃(i:Nat)(O:List (Rat×Rat)),z.2.2.2=(i:Int)/\i<=ls.length/\O.length<=i/\(∀q∈O,Sz k q.1/\Sz k q.2)/\fZ ls=(ls.drop i).foldl (fun o x=>jo x o) O/\GR 6 jI V' z.1 z.2.1 z.2.2.1 O,fun z=>ls.length-z.2.2.2.toNat,
  ⟨(0,0,[],0),by and_intros<;>rfl,0,[],rfl,Nat.zero_le _,Nat.zero_le _,(fun q y=>by cases y),by rw [List.drop_zero];rfl,GR.nil⟩,?_⟩
 rintro ⟨v,w2,us,z4⟩ V1 l1 ⟨i,O,e4,Rv,b0,D,eR,f⟩;dsimp only at e4 f;subst e4;have g1:=f.len;have E:=f.le;refine ⟨rfl,fun a=>?_,fun a gu F bk G=>?_⟩;rotate_left
 ·have a:¬(i:Int)<ls.length:=of_decide_eq_false a;obtain rfl:i=ls.length:=by omega
  rw [List.drop_length] at eR;have eR:fZ ls=O:=eR;rw [eR];subst g1;exact ⟨_,_,w2,rfl,dR.eh G (f.row.le fun _ _ g=>jI.le g F) (by decide) E⟩
 have a:(i:Int)<ls.length:=of_decide_eq_true a;have A:i<ls.length:=by omega
 have w:i64.wrap ((i:Int)+1)=((i+1:Nat):Int):=by rw [aw (by omega)];rfl
 dsimp only;rw [Int.toNat_natCast,w];obtain ⟨is,e1,ep,en,ec,eq,em,ee,e2,fp,fn,UB,fq,fm,UC,ad,ha,a0,a1,a2,a3,a4,a5,s⟩:=JL (h.le l1 fun _ _ g=>jI.le g l1) A;have ed:ls.drop i=ls[i]::ls.drop (i+1):=List.drop_eq_getElem_cons A;rw [ed,List.foldl_cons] at eR;have H:=hs _ (List.getElem_mem A);generalize ls[i]=x at *;refine ⟨is,⟨by omega,by omega⟩,e1,ep,en,ec,eq,em,ee,e2,fp,fn,UB,fq,fm,UC,ad,ha,a0,a1,a2,a3,a4,a5,fun z _=>∃j:Nat,z=(j:Int)/\j<=O.length/\∀(l:Nat)(h:l<O.length),l<j->oF O[l] x<0,fun z=>O.length-z.toNat,⟨0,by and_intros<;>rfl,0,rfl,Nat.zero_le _,fun l _ h=>absurd h (Nat.not_lt_zero l)⟩,?_⟩;rintro z V2 I ⟨j,rfl,B2,jl⟩;have wj:i64.wrap ((j:Int)+1)=((j+1:Nat):Int):=by rw [aw (by omega)];rfl
 rw [Int.toNat_natCast,wj];refine ⟨rfl,fun z _=>z=true↔∃h:j<O.length,oF O[j] x<0,⟨fun a=>?_,fun a=>⟨false,by and_intros<;>rfl,?_⟩⟩,?_⟩
 ·have a:(j:Int)<(v:Int):=of_decide_eq_true a;have d:j<O.length:=by omega
  obtain ⟨K,L,M,rc,N,P,Q,R,sp,S,T,U,t,W,X,Y,Z⟩:=KB f.row d;refine ⟨⟨by omega,by omega⟩,E,K,L,M,rc,N,P,Q,R,sp,S,T,U,t,W,⟨X,Y⟩,fun V3 l3=>(lJ (jI.le Z (I.trans l3)) (jI.le s (I.trans l3)) (D _ (List.getElem_mem d)) H hk).mono ?_⟩;rintro r V4 l4 rfl;exact ⟨_,rfl,_,by and_intros<;>rfl,by dsimp only;rw [decide_eq_true_eq];exact ⟨fun h=>⟨d,h⟩,fun ⟨_,h⟩=>h⟩⟩
 ·have a:¬(j:Int)<(v:Int):=of_decide_eq_false a;exact ⟨(fun h=>nomatch h),fun ⟨h,_⟩=>absurd h (by omega)⟩
 rintro z V5 l5 NF;refine ⟨rfl,fun u=>?_,fun u=>?_⟩
 ·obtain ⟨d,a6⟩:=NF.1 u;refine ⟨((j+1:Nat):Int),by (try dsimp only);omega,by and_intros<;>rfl,j+1,rfl,d,fun l h b5=>?_⟩;by_cases e:l=j
  ·subst e;exact a6
  ·exact jl l h (by omega)
 have a7:∀h:j<O.length,¬oF O[j] x<0:=fun h B=>by
  have:=NF.2 ⟨h,B⟩;rw [u] at this;cases this
 have b:=Mf O j B2 jl a7;have po:=I.trans l5;refine ⟨fun z _=>z=true↔¬∃h:j<O.length,O[j]=x,⟨fun he=>⟨true,by and_intros<;>rfl,?_⟩,fun he=>?_⟩,?_⟩
 ·have he:(j:Int)=(v:Int):=by simpa using he
  exact ⟨fun _ ⟨h,_⟩=>absurd h (by omega),fun _=>rfl⟩
 ·have he:¬(j:Int)=(v:Int):=by simpa using he
  have d:j<O.length:=by omega
  obtain ⟨K,L,M,rc,N,P,Q,R,sp,S,T,U,t,W,X,Y,Z⟩:=KB f.row d;refine ⟨⟨by omega,by omega⟩,E,K,L,M,rc,N,P,Q,R,sp,S,T,U,t,W,⟨X,Y⟩,fun V6 l6=>(lJ (jI.le Z (po.trans l6)) (jI.le s (po.trans l6)) (D _ (List.getElem_mem d)) H hk).mono ?_⟩;rintro r V7 l7 rfl;exact ⟨_,rfl,_,by and_intros<;>rfl,by dsimp only;rw [bne_iff_ne,ne_eq,←LP];exact ⟨fun h ⟨_,B⟩=>h B,fun h B=>h ⟨d,B⟩⟩⟩
 rintro z V8 l8 Ju;have El:=po.trans l8;refine ⟨rfl,fun u V9 l9 bk G J=>?_,fun u=>?_⟩
 ·have a8:=Ju.1 u;rw [if_neg a8] at b;have B4:=El.trans l9;obtain ⟨xs,ys,x1,x2,x3,y1,y2,y3,r1,r2,r3,r4,r5⟩:=A4 (V:=V9) (f.mono fun _ _ g=>jI.le g B4) (by decide) (fun _ _=>Bu) G (es:=[_,_,_,_,_,_]) rfl (jI.le s B4) (j:=j) (by omega);refine ⟨⟨by omega,by omega⟩,⟨by omega,by omega⟩,⟨by omega,by omega⟩,xs,x1,x2,by omega,Nat.le_refl _,Nat.le_refl 6,x2,x3,fun b6 J2 sp c' h1 h2=>?_⟩;rw [r1,r2];refine ⟨ys,y1,y2,Nat.le_refl _,y3,by omega,by omega,r3,r4,fun a9 C h3 h4=>⟨(j+(1+(v-j)),C,_,((i+1:Nat):Int)),by dsimp only;omega,by and_intros<;>first|rfl|omega,i+1,jo x O,rfl,A,?_,?_,eR,?_⟩⟩
  ·rw [b,List.length_append,List.length_take,List.length_cons,List.length_drop];omega
  ·intro q y;rcases pU.1 y with rfl|y
   ·exact H
   ·exact D q y
  ·show GR 6 jI _ _ _ _ (jo x O);rw [b];exact r5 a9 C h3 h4
 ·have hex:∃h:j<O.length,O[j]=x:=Classical.byContradiction fun h=>by have:=Ju.2 h;rw [u] at this;cases this
  rw [if_pos hex] at b;rw [b] at eR;exact ⟨(v,w2,us,((i+1:Nat):Int)),by dsimp only;omega,by and_intros<;>rfl,i+1,O,rfl,A,by omega,D,eR,f.mono fun _ _ g=>jI.le g El⟩
theorem Jv {α:Type}{sz:Nat}{R:View->Value->α->Prop}{V:View}{w1 w2:Nat}{us:List Value}{O:List α}(hg:GR sz R V w1 w2 us O)(hs:0<sz)(one:∀xs a,R V (.agg (List.toArray xs)) a->∀v∈xs,v.oneCell'=true){bk:Nat}{ty:TypeId}{m:Nat×Nat}(hb:V.bw bk (.cells us.toArray ty m))
  {es:List Value}{x:α}(he:es.length=sz)(hx:R V (.agg es.toArray) x){j:Nat}(B2:j<=w1) :
  ∃xs ys:List Value,V.sl (kx (some ⟨bk,0,none⟩) w2 j sz) xs/\xs.length=(w1-j)*sz/\(∀v∈xs,v.oneCell'=true)/\V.sl (some ⟨bk,0,none⟩) ys/\ys.length=j*sz /\
   (∀sp:List Value,aM (es.take (1*sz)++xs++sp) 0 ((1+(w1-j))*sz)=es++xs)/\(es++xs).length / sz=1+(w1-j)/\(es++xs).length=(1+(w1-j))*sz/\(∀v∈es++xs,v.oneCell'=true) /\
   ∀(sp:List Value)(c':Nat),j+(1+(w1-j))<=c'->c'*sz<=(j+(1+(w1-j)))*sz+sp.length->GR sz R V (j+(1+(w1-j))) c' (ys++(es++xs)++sp) (O.take j++x::O.drop j):=by
 obtain ⟨xs,ys,d,b,e,f,c,-,g,k,l,n,o⟩:=A4 hg hs one (fun _=>hb) he hx B2;by_cases h:w2=0
 ·have hw:w1=0:=by have:=hg.le;omega
  have ex:xs=[]:=List.length_eq_zero_iff.1 (by rw [b,hw,Nat.zero_sub,Nat.zero_mul]);have p:ys=[]:=List.length_eq_zero_iff.1 (by rw [c,show j=0 by omega,Nat.zero_mul]);exact ⟨xs,ys,fun i v h=>by rw [ex] at h;simp at h,b,e,fun i v h=>by rw [p] at h;simp at h,c,g,k,l,n,o⟩
 ·rw [show mA bk w2=some ⟨bk,0,none⟩ by unfold mA;rw [if_neg h]] at d f;exact ⟨xs,ys,d,b,e,f,c,g,k,l,n,o⟩
theorem PG {l:L3}(h:Nz l){x y x' y':Rat}(hv:aI l x y=0)(pS:aI l x' y'=0)(hp:dz l x y=dz l x' y'):x=x'/\y=y':=by
 have a:=h.norm;unfold aI at hv pS
 have e:(l.2.1:Rat)*x-(l.1:Rat)*y=(l.2.1:Rat)*x'-(l.1:Rat)*y':=by
  unfold dz at hp;have b:=congrArg (·* cF l) hp
  rwa [Rat.mul_assoc,Rat.mul_assoc,Rat.inv_mul_cancel _ a,Rat.mul_one,Rat.mul_one] at b
 have d:(l.1:Rat)*(x-x')+(l.2.1:Rat)*(y-y')=0:=by grind
 have f:(l.2.1:Rat)*(x-x')-(l.1:Rat)*(y-y')=0:=by grind
 have c:cF l*(x-x')=0:=by unfold cF;grind
 have g:cF l*(y-y')=0:=by unfold cF;grind
 have i:x-x'=0:=(Rat.mul_eq_zero.1 c).resolve_left a;have j:y-y'=0:=(Rat.mul_eq_zero.1 g).resolve_left a;exact ⟨by grind,by grind⟩
theorem Hg (l:List Rat)(x:Rat):ascL (l++[x])=cB x (ascL l):=by unfold ascL;rw [List.foldl_append];rfl
theorem LO {s:Sp}{t:Rat}:(lQ [s] t != 2)=!(s.ins t):=by
 have h:lQ [s] t=if nJ (s.la t) (s.lb t)≠0 then nJ (s.la t) (s.lb t) else 0:=rfl;rw [h,Mg];cases s.ins t<;>cases s.has t<;>rfl
theorem GQ {V:View}{xs:List Value}{x:L3×Sp}(h:xr V (.agg xs.toArray) x):∀v∈xs,v.oneCell'=true:=by
 obtain ⟨_,_,_,_,_,_,_,_,_,_,_,_,_,_,_,_,_,_,_,_,_,_,_,_,_,_,ex⟩:=wq h;have ex:=congrArg Array.toList (Value.agg.inj ex);dsimp only at ex;subst ex;exact GL
theorem Hs {l:L3}{s:Sp}{ps qs:List (Rat×Rat)}(h:∀x,x∈ps↔x∈qs)(t:Rat):t∈cutsG l s ps↔t∈cutsG l s qs:=by
 unfold cutsG;rw [List.mem_map,List.mem_map];exact ⟨fun ⟨p,a,e⟩=>⟨p,List.mem_filter.2 ⟨(h p).1 (List.mem_filter.1 a).1,(List.mem_filter.1 a).2⟩,e⟩,fun ⟨p,a,e⟩=>⟨p,List.mem_filter.2 ⟨(h p).2 (List.mem_filter.1 a).1,(List.mem_filter.1 a).2⟩,e⟩⟩
theorem DC (l:List (Rat×Rat)):(fZ l).length<=l.length:=by
 have:∀(l o:List (Rat×Rat)),(l.foldl (fun o x=>jo x o) o).length<=o.length+l.length:=by
  intro l
  induction l with
  | nil=>exact fun o=>Nat.le_refl _
  | cons y r ih=>intro o;have a:=ih (jo y o);have b:=CS y o;rw [List.foldl_cons,List.length_cons];omega
 have:=this l [];simpa [fZ] using this
set_option maxHeartbeats 2000000 in
theorem Cr {V:View}{v:Value}{p:OA}{n c:Nat}{L:L3}{s:Sp}{ps:List (Rat×Rat)}(h:RF V v L s)(hp:dR 6 jI V p n ps)(nz:Nz L){k:Nat}(sl:eG k L)(ss:s.sz k)(sp:∀q∈ps,Sz k q.1/\Sz k q.2)(hn:ps.length<=1000)(hk:32*k+32<274877906944) :
  ae prog 23 #[v,.slice p n c] V fun r V'=>∃q m e,r=.slice q m e/\dR 14 xr V' q m ((chop s (ascL (cutsG L s ps))).map fun t=>(L,t)):=by
 obtain ⟨b1,p1,n1,c1,b2,p2,n2,Z,b3,p3,n3,c3,b4,p4,n4,c4,p5,n5,c5,b5,p6,n6,c6,p7,n7,c7,rfl,hl,hS⟩:=h;refine BX _ _ _ _ _ _ _ _ _ _ _ _ _ _ _ _ _ _ _ _ _ _ _ _ _ _ _ _ p n c V _ fun V1 l1=>(uX (hp.le l1 fun _ _ g=>jI.le g l1) (by omega) sp (by omega)).mono ?_;rintro r V2 l2 ⟨q0,n0,c0,rfl,hP⟩;obtain ⟨nd,mem⟩:=BA ps;have xw:=l1.trans l2;have hlen:(fZ ps).length<=ps.length:=DC ps;rw [LB (Hs (l:=L) (s:=s) fun x=>(mem x).symm)]
 replace sp:∀q∈fZ ps,Sz k q.1/\Sz k q.2:=fun q hq=>sp q ((mem q).1 hq)
 generalize fZ ps=P at *;obtain rfl:=hP.len;have a9:∀i j (hi:i<P.length) (F:j<P.length),i<j->P[i]≠P[j]:=fun i j hi F=>List.pairwise_iff_getElem.1 nd i j hi F;refine ⟨_,_,_,rfl,fun z V'=>∃(i:Nat)(O:List Rat),z.2.2.2.2=(i:Int)/\z.1=0/\i<=P.length/\O.length<=i/\O=ascL (cutsG L s (P.take i))/\GR 3 RQ V' z.2.1 z.2.2.1 z.2.2.2.1 O,fun z=>P.length-z.2.2.2.2.toNat,⟨(0,0,0,[],0),by and_intros<;>rfl,0,[],rfl,rfl,Nat.zero_le _,Nat.zero_le _,by rw [List.take_zero];rfl,GR.nil⟩,?_⟩;rintro ⟨z0,R,w2,us,z4⟩ V3 l3 ⟨i,O,e4,e0,Rv,c9,G,H⟩;dsimp only at e4 e0 H;subst e4 e0;have g1:=H.len;have fc:=H.le
 have hO:∀q∈O,Sz (8*k+7) q:=fun q hq=>by
  rw [G] at hq;exact vh sl (fun x hx=>sp x (List.mem_of_mem_take hx)) q hq
 refine ⟨rfl,fun d=>?_,fun d=>?_⟩
 ·have d:(i:Int)<(P.length:Nat):=of_decide_eq_true d;have hi:i<P.length:=by omega
  have w:i64.wrap ((i:Int)+1)=((i+1:Nat):Int):=by rw [aw (by omega)];rfl
  dsimp only;rw [Int.toNat_natCast,w];obtain ⟨is,e1,ep,en,ec,eq,em,ee,e2,fp,fn,UB,fq,fm,UC,ad,ha,S,T,U,W,X,Y,I⟩:=JL (hP.le l3 fun _ _ g=>jI.le g l3) hi;obtain ⟨s1,s2⟩:=sp _ (List.getElem_mem hi);have tk:P.take (i+1)=P.take i++[P[i]]:=(List.take_append_getElem hi).symm;have C:=vg L s (P.take i) P[i];rw [←tk] at C
  have new:∀x∈P.take i,x≠P[i]:=fun x hx=>by
   obtain ⟨m,hm,rfl⟩:=List.mem_iff_getElem.1 hx;rw [List.length_take] at hm;rw [List.getElem_take];exact a9 m i (by omega) hi (by omega)
  generalize P[i]=x at *;have Oi:=xw.trans l3;refine ⟨is,⟨by omega,by omega⟩,e1,ep,en,ec,eq,em,ee,e2,fp,fn,UB,fq,fm,UC,ad,ha,S,T,U,W,X,Y,fun b V'=>V3.Le V'/\b=!(decide (aI L x.1 x.2=0)&&s.ins (dz L x.1 x.2)),fun V4 K=>(Fv (hl.le (Oi.trans K)) (RP.le I K) sl s1 s2 (by omega)).mono ?_,?_⟩
  ·rintro r V5 l5 rfl;have Lo:=iz (aI L x.1 x.2);refine ⟨_,rfl,fun f=>⟨true,by and_intros<;>rfl,K.trans l5,?_⟩,fun f V6 l6=>(p_ (hl.le (Oi.trans (K.trans (l5.trans l6)))) (RP.le I (K.trans (l5.trans l6))) nz sl s1 s2 (by omega)).mono ?_⟩
   ·have f:¬aI L x.1 x.2=0:=fun e=>(bne_iff_ne.1 f) (Lo.2 e);rw [decide_eq_false f];rfl
   ·have f:aI L x.1 x.2=0:=Lo.1 (Classical.byContradiction fun h=>by rw [bne_iff_ne.2 h] at f;cases f);rintro r V7 l7 g;have g0:=g;obtain ⟨_,_,_,_,_,_,rfl⟩:=g.shape;refine ⟨_,_,_,_,_,_,_,rfl,fun V8 l8 bk A=>(nV (Bf A (hS.le (Oi.trans (K.trans (l5.trans (l6.trans (l7.trans l8))))))) (g0.le l8) (k:=8*k+7) (fun u hu=>by rw [List.mem_singleton.1 hu];exact ⟨ss.1.mono (by omega),ss.2.mono (by omega)⟩) (lD sl s1 s2) (by omega) (show 1<4611686018427387904 by omega)).mono ?_⟩;rintro r V9 l9 rfl;refine ⟨_,rfl,fun J=>⟨_,by and_intros<;>rfl,K.trans (l5.trans (l6.trans (l7.trans (l8.trans l9)))),?_⟩⟩;rw [LO,decide_eq_true f,Bool.true_and]
  rintro b gu D ⟨-,rfl⟩;refine ⟨rfl,fun A=>⟨(0,R,w2,us,((i+1:Nat):Int)),by dsimp only;omega,by and_intros<;>rfl,i+1,O,rfl,rfl,hi,by omega,?_,H.mono fun _ _ g=>g.le D⟩,fun A fg bF=>(p_ (hl.le (Oi.trans (D.trans bF))) (RP.le I (D.trans bF)) nz sl s1 s2 (by omega)).mono ?_⟩
  ·rw [C,if_neg (by rw [Bool.not_eq_true'] at A;rw [A];decide),List.append_nil];exact G
  have A:(decide (aI L x.1 x.2=0)&&s.ins (dz L x.1 x.2))=true:=by rw [Bool.not_eq_false'] at A;exact A
  rw [if_pos A] at C;have on:=of_decide_eq_true (Bool.and_eq_true_iff.1 A).1
  have fresh:dz L x.1 x.2∉O:=fun h=>by
   rw [G] at h;obtain ⟨y,hy,e⟩:=List.mem_map.1 (((ascL_spec _).2 _).1 h);obtain ⟨y1,y2⟩:=List.mem_filter.1 hy;have b0:=of_decide_eq_true (Bool.and_eq_true_iff.1 y2).1;obtain ⟨ea,eb⟩:=PG nz b0 on e;exact new y y1 (Prod.ext ea eb)
  have sx:=lD sl s1 s2;rintro r ib cu g;have g0:RQ ib r (dz L x.1 x.2):=g;obtain ⟨_,_,_,_,_,_,rfl⟩:=g.shape;clear g;generalize dz L x.1 x.2=t at *;have RK:=D.trans (bF.trans cu);refine ⟨_,_,_,_,_,_,_,rfl,fun z _=>∃j:Nat,z=(j:Int)/\j<=O.length/\∀(E:Nat)(h:E<O.length),E<j->O[E]<t,fun z=>O.length-z.toNat,⟨0,by and_intros<;>rfl,0,rfl,Nat.zero_le _,fun E _ h=>absurd h (Nat.not_lt_zero E)⟩,?_⟩;rintro z lG ck ⟨j,rfl,B2,jl⟩;have wj:i64.wrap ((j:Int)+1)=((j+1:Nat):Int):=by rw [aw (by omega)];rfl
  rw [Int.toNat_natCast,wj];refine ⟨rfl,fun z V'=>lG.Le V'/\(z=true↔∃h:j<O.length,O[j]<t),⟨fun d=>?_,fun d=>⟨false,by and_intros<;>rfl,View.Le.refl _,?_⟩⟩,?_⟩
  ·have d:(j:Int)<(R:Int):=of_decide_eq_true d;have F:j<O.length:=by omega
   obtain ⟨rb,rp,rn,rc,rq,rm,re,eT,Jg,hr⟩:=Bt H.row F;rw [Nat.zero_add];refine ⟨⟨by omega,by omega⟩,rb,rp,rn,rc,rq,rm,re,⟨eT,Jg⟩,fun j8 dF=>(im (hr.le (RK.trans (ck.trans dF))) (g0.le (ck.trans dF)) (hO _ (List.getElem_mem F)) sx (by omega)).mono ?_⟩;rintro r kK dw rfl;exact ⟨_,rfl,_,by and_intros<;>rfl,dF.trans dw,by rw [decide_eq_true_eq,cmpQ_neg];exact ⟨fun h=>⟨F,h⟩,fun ⟨_,h⟩=>h⟩⟩
  ·have d:¬(j:Int)<(R:Int):=of_decide_eq_false d;exact ⟨(fun h=>nomatch h),fun ⟨h,_⟩=>absurd h (by omega)⟩
  rintro z mS M ⟨-,NF⟩;refine ⟨rfl,fun f=>?_,fun f pk cZ bk b6 J=>?_⟩
  ·obtain ⟨F,b7⟩:=NF.1 f;refine ⟨((j+1:Nat):Int),by (try dsimp only);omega,by and_intros<;>rfl,j+1,rfl,F,fun E h d7=>?_⟩;by_cases e:E=j
   ·subst e;exact b7
   ·exact jl E h (by omega)
  have b8:∀h:j<O.length,¬O[j]<t:=fun h h'=>by
   have:=NF.2 ⟨h,h'⟩;rw [f] at this;cases this
  have B:=Gv O j B2 jl b8;rw [if_neg fun ⟨h,e⟩=>fresh (e▸List.getElem_mem h)] at B;have VJ:=RK.trans (ck.trans (M.trans cZ));obtain ⟨xs,ys,x1,x2,x3,y1,y2,r1,r2,r3,r4,r5⟩:=Jv (V:=pk) (H.mono fun _ _ g=>g.le VJ) (by decide) (fun _ _=>KC) b6 (es:=[_,_,_]) rfl (g0.le (ck.trans (M.trans cZ))) (j:=j) (by omega);refine ⟨⟨by omega,by omega⟩,⟨by omega,by omega⟩,⟨by omega,by omega⟩,xs,x1,x2,by omega,Nat.le_refl _,Nat.le_refl 3,x2,x3,fun b9 J2 d8 c' h1 h2=>?_⟩;rw [r1,r2];refine ⟨ys,y1,y2,Nat.le_refl _,(fun h=>nomatch h),by omega,by omega,r3,r4,fun c8 a7 h3 h4=>⟨(0,j+(1+(R-j)),a7,_,((i+1:Nat):Int)),by dsimp only;omega,by and_intros<;>first|rfl|omega,i+1,cB t O,rfl,rfl,hi,?_,by rw [C,Hg,←G],?_⟩⟩
  ·rw [B,List.length_append,List.length_take,List.length_cons,List.length_drop];omega
  ·show GR 3 RQ _ _ _ _ (cB t O);rw [B];exact r5 c8 a7 h3 h4
 have d:¬(i:Int)<(P.length:Nat):=of_decide_eq_false d;obtain rfl:i=P.length:=by omega
 rw [List.take_length] at G;rw [←G];clear G;have Pn:=xw.trans l3;obtain ⟨_,_,_,_,_,_,_,_,_,_,_,_,_,_,ex,h3,h4⟩:=hS.le Pn;simp only [Value.agg.injEq,Array.mk.injEq,List.cons.injEq,Value.bool.injEq,Value.slice.injEq,true_and,and_true] at ex;obtain ⟨rfl,⟨rfl,rfl,rfl⟩,⟨rfl,rfl,rfl⟩,rfl,⟨rfl,rfl,rfl⟩,rfl,rfl,rfl⟩:=ex
 refine ⟨fun (n,c,vs,i,S,T,U,W,X,Y,a6,d0,d1,d2,d3,d4,d5,d6,Ox,a8) V'=>∃(j:Nat)(o:List (L3×Sp))(r:Sp),i=(j:Int)/\j<=O.length/\GR 14 xr V' n c vs o/\o.length=j /\
   RQ V' (.agg #[.bool S,.slice T U W,.slice X Y a6]) r.lo/\RQ V' (.agg #[.bool d0,.slice d1 d2 d3,.slice d4 d5 d6]) r.hi/\Ox=r.a/\a8=r.b /\
   o++(chop r (O.drop j)).map (fun t=>(L,t))=(chop s O).map fun t=>(L,t),fun z=>O.length-z.2.2.2.1.toNat,
  ⟨(0,0,[],0,b4,p4,n4,c4,p5,n5,c5,b5,p6,n6,c6,p7,n7,c7,s.a,s.b),by and_intros<;>rfl,0,[],s,rfl,Nat.zero_le _,GR.nil,rfl,h3,h4,rfl,rfl,rfl⟩,?_⟩
 rintro ⟨n',c',os,E,S,T,U,W,X,Y,a6,d0,d1,d2,d3,d4,d5,d6,Ox,a8⟩ mS M ⟨j,o,r,e4,B2,N,ol,r2,r3,e5,e6,Q⟩;subst e4 e5 e6;have d9:=N.len;refine ⟨rfl,fun d=>?_,fun d=>?_⟩
 ·have d:(j:Int)<(R:Nat):=of_decide_eq_true d;have hi:j<O.length:=by omega
  have w:i64.wrap ((j:Int)+1)=((j+1:Nat):Int):=by rw [aw (by omega)];rfl
  dsimp only;rw [Int.toNat_natCast,w,Nat.zero_add];obtain ⟨rb,rp,rn,rc,rq,rm,re,eT,Jg,hr⟩:=Bt H.row hi;have he:RF mS (.agg #[.bool b1,.slice p1 n1 c1,.bool b2,.slice p2 n2 Z,.bool b3,.slice p3 n3 c3,.bool S,.slice T U W,.slice X Y a6,.bool rb,.slice rp rn rc,.slice rq rm re,.bool r.a,.bool false]) L ⟨r.lo,O[j],r.a,false⟩:=⟨_,_,_,_,_,_,_,_,_,_,_,_,_,_,_,_,_,_,_,_,_,_,_,_,_,_,rfl,hl.le (Pn.trans M),_,_,_,_,_,_,_,_,_,_,_,_,_,_,rfl,r2,hr.le M⟩;refine ⟨⟨by omega,d⟩,_,_,_,_,_,_,_,⟨eT,Jg⟩,by omega,N.le,N.cap,rfl,GQ (V:=mS) (x:=(L,_)) he,fun sp Z k1 k2=>⟨(n'+1,Z,_,((j+1:Nat):Int),rb,rp,rn,rc,rq,rm,re,d0,d1,d2,d3,d4,d5,d6,false,r.b),by dsimp only;omega,by and_intros<;>rfl,j+1,o++[(L,⟨r.lo,O[j],r.a,false⟩)],⟨O[j],r.hi,false,r.b⟩,rfl,hi,N.snoc (a:=(L,_)) rfl he (by decide) k1 k2,by rw [List.length_append,ol];rfl,hr.le M,r3,rfl,rfl,?_⟩⟩;rw [←Q,List.drop_eq_getElem_cons hi,List.append_assoc];rfl
 ·have d:¬(j:Int)<(R:Nat):=of_decide_eq_false d;obtain rfl:j=O.length:=by omega
  rw [List.drop_length] at Q;have he:RF mS (.agg #[.bool b1,.slice p1 n1 c1,.bool b2,.slice p2 n2 Z,.bool b3,.slice p3 n3 c3,.bool S,.slice T U W,.slice X Y a6,.bool d0,.slice d1 d2 d3,.slice d4 d5 d6,.bool r.a,.bool r.b]) L r:=⟨_,_,_,_,_,_,_,_,_,_,_,_,_,_,_,_,_,_,_,_,_,_,_,_,_,_,rfl,hl.le (Pn.trans M),_,_,_,_,_,_,_,_,_,_,_,_,_,_,rfl,r2,r3⟩;refine ⟨by omega,N.le,N.cap,rfl,GQ (V:=mS) (x:=(L,_)) he,fun sp Z k1 k2 pk cZ b9 A=>⟨_,_,_,rfl,?_⟩⟩;have g:=N.snoc (a:=(L,r)) rfl he (by decide) k1 k2;rw [show o++[(L,r)]=(chop s O).map fun t=>(L,t) from Q] at g;have:=dR.eh A (g.row.le fun _ _ g=>RF.le g cZ) (by decide) (by rw [←g.len];exact g.le);rw [←g.len] at this;exact this
theorem MH {V:View}{p:OA}{n:Nat}{fs:List (L3×Sp)}(h:dR 14 Ok V p n fs):uA V p n fs:=⟨h.len,fun i a=>by
 obtain ⟨b,c,xs,-,d,e⟩:=h.at_ i a;exact ⟨b,c,xs,d,e⟩⟩
theorem q_ {V:View}{p q:OA}{n c m e:Nat}{fs:List (L3×Sp)}(hp:uA V p n fs)(hq:dR 14 xr V q m fs){k:Nat}(hs:∀f∈fs,eG k f.1/\f.2.sz k)(hk:k<=1099511627776)(hn:fs.length<=1000000) :
  ae prog 22 #[.slice p n c,.slice q m e] V fun r V'=>r=.bool true:=by
 refine rV p n c q m e V _ fun h a=>(tA (hq.le a fun _ _ g=>xr.le g a) hn hs hk).mono ?_;rintro r V2 d ⟨u,i,j,rfl,g⟩;refine ⟨_,_,_,rfl,fun l b=>(xH (hp.le (a.trans (d.trans b))) (MH (g.le b fun _ _ g=>xD.le g b)) hs hk (by omega)).mono ?_⟩;rintro r o s rfl;exact ⟨_,rfl,fun t v=>rfl⟩
theorem Mq {l:L3}(h:jO l=true):jO (revL l)=true:=by
 unfold jO revL bM at *;simp only [Int.natAbs_neg] at *;simpa using h
set_option maxHeartbeats 2000000 in
theorem qV {V:View}{lp:OA}{ln lc:Nat}(hr:Im V lp ln)(hc:ln<=lc) :
  ae prog 3 #[.slice lp ln lc] V fun r V'=>r=.bool true:=by
 refine kE lp ln lc V _ fun V1 l1=>(Cs hc).mono ?_;rintro r V2 l2 ⟨a0,rfl,t,Y⟩;refine ⟨a0,_,_,_,_,rfl,t,Y,fun V3 l3 XG I h4=>?_⟩;have L:V1.Le V3:=JH l2 t l3;have a:min ln 400<=400:=Nat.min_le_right _ _;have hr:Im V lp (min ln 400):=fun i hi=>hr i (Nat.lt_of_lt_of_le hi (Nat.min_le_left _ _));generalize min ln 400=n at *;have Pn:V.Le V3:=l1.trans L;refine (Uv (V:=V3.aF [XG]) (hr.le fun b o h=>Pn b o h) a I ⟨by simp,h4⟩ (Int.le_refl 0)).mono ?_;rintro r V4 l4 ⟨c,l,Nq,gf,v,B,Z,t1,M⟩;have C:=gf;obtain ⟨_,_,_,_,_,_,_,_,_,_,_,_,_,_,_,_,_,_,_,_,_,_,_,_,_,_,rfl⟩:=wq gf;have Gx:V.Le V4:=fun b o h=>l4 b o (Pn b o h);have bl:Bd c:=OH B;clear Y I h4 l3 L t l2;refine ⟨_,_,_,_,_,_,_,_,_,_,_,_,_,_,_,_,_,_,_,_,_,_,_,_,_,_,_,_,rfl,_,_,_,_,M,fun V5 l5 OK N h5=>(XJ (V:=V5.aF [OK]) (hr.le fun b o h=>l5 b o (Gx b o h)) a N ⟨by simp,h5⟩ t1).mono ?_⟩;rintro r V6 l6 ⟨m0,c0,gm,VS,O,t2,P⟩;have X7:=gm;obtain ⟨_,_,_,_,_,_,_,_,_,_,_,_,rfl⟩:=fY gm;have d:V4.Le V6:=fun b o h=>l6 b o (l5 b o h);refine ⟨_,_,_,_,_,_,_,_,_,_,_,_,rfl,_,_,_,_,P,fun V7 l7 Un e7 h7=>(iM (V:=V7.aF [Un]) 6 (hr.le fun b o h=>l7 b o (d b o (Gx b o h))) a e7 ⟨by simp,h7⟩ t2 (by omega) (by omega)).mono ?_⟩;rintro r V8 l8 ⟨x,c4,rfl,-,-,t3,Q⟩;have R:V6.Le V8:=fun b o h=>l8 b o (l7 b o h);obtain ⟨S,-⟩:=Kz C
 refine ⟨_,rfl,_,_,_,_,Q,fun ⟨b1,p1,n1,c1,b2,p2,n2,c2,b3,p3,n3,c3⟩ V'=>∃m:L3,RL V' (.agg #[.bool b1,.slice p1 n1 c1,.bool b2,.slice p2 n2 c2,.bool b3,.slice p3 n3 c3]) m.1 m.2.1 m.2.2/\jO m=true/\Bd m,
  ⟨fun _=>⟨(_,_,_,_,_,_,_,_,_,_,_,_),by and_intros<;>rfl,c,S.le fun b o h=>R b o (d b o h),v.1,bl⟩,fun _=>⟨fun _ V9 l9=>(Co (S.le fun b o h=>l9 b o (R b o (d b o h)))).mono ?_,fun _=>⟨(_,_,_,_,_,_,_,_,_,_,_,_),by and_intros<;>rfl,m0,X7.le fun b o h=>R b o h,VS,O⟩⟩⟩,?_⟩
 ·rintro r gu c5 gv;have a1:=SF gv;obtain ⟨_,_,_,_,_,_,_,_,_,_,_,_,rfl⟩:=fY gv;exact ⟨_,_,_,_,_,_,_,_,_,_,_,_,rfl,(_,_,_,_,_,_,_,_,_,_,_,_),by and_intros<;>rfl,revL c,a1,Mq v.1,bl.rev⟩
 rintro ⟨_,_,_,_,_,_,_,_,_,_,_,_⟩ fg bF ⟨m,X8,VS,bm⟩;have Gy:V4.Le fg:=fun b o h=>bF b o (R b o (d b o h));have RG:V.Le fg:=fun b o h=>Gy b o (Gx b o h)
 replace C:=C.le Gy
 replace S:=S.le Gy
 clear Gy bF R d l4 l5 l6 l7 l8 Pn Gx l1 X7 gm gf M P N h5 e7 h7 O;obtain ⟨K,hK⟩:∃K:Nat,K=110000:=⟨110000,rfl⟩;have j:eG K c:=⟨B.1.mono (by omega),B.2.1.mono (by omega),B.2.2.mono (by omega)⟩;have s:l.sz K:=⟨Z.1.mono (by omega),Z.2.mono (by omega)⟩;obtain ⟨z1,z2,z3⟩:=bm.sz;have TE:eG K m:=⟨Sz.mono z1 (by omega),Sz.mono z2 (by omega),Sz.mono z3 (by omega)⟩;obtain ⟨d1,d2,d3⟩:=TE.ai (by omega);have nz:=PD v.1;have D:l.good:=v.2;refine ⟨rfl,fun ib cu=>(iS (C.le cu) j s (by omega)).mono ?_⟩;rintro r lG L G;have Qb:=G;obtain ⟨_,_,_,_,_,_,_,_,_,_,_,_,_,_,_,_,_,_,_,_,_,_,_,_,_,_,rfl⟩:=eN G;refine ⟨_,_,_,_,_,_,_,_,_,_,_,_,_,_,_,_,_,_,_,_,_,_,_,_,_,_,_,_,rfl,fun j8 dF=>(sE (X8.le (cu.trans (L.trans dF))) d1 d2 d3).mono ?_⟩;rintro r kK dw gl;have X3:=gl;obtain ⟨_,_,_,_,_,_,_,_,_,_,_,_,rfl⟩:=fY gl;refine ⟨_,_,_,_,_,_,_,_,_,_,_,_,rfl,fun mS dh=>(LL (Qb.le (dF.trans (dw.trans dh))) (X3.le dh) v VS j s TE (by omega)).mono ?_⟩;rintro r pk cZ ⟨pa,na,ca,pb,nb,cb,rfl,fa,fb⟩;have E7:=cu.trans (L.trans (dF.trans (dw.trans (dh.trans cZ))));refine ⟨_,_,_,_,_,_,_,rfl,fun uC d_=>(xT (C.le (E7.trans d_)) (X8.le (E7.trans d_)) nz bl bm v.2.1 ⟨Z.1.mono (by omega),Z.2.mono (by omega)⟩).mono ?_⟩;rintro r uD fw ⟨qa,ma,ea,qb,mb,eb,rfl,ra,rb⟩;rw [spl_side D] at ra rb;have Jy:=E7.trans (d_.trans fw);clear Qb G X3 gl Q d1 d2 d3 z1 z2 z3;have za:=qu j s TE;have zb:=qu j s TE.rev;have c6:(sideF c l m).length<=1:=by unfold sideF;split<;>simp
 have c7:(sideF c l (revL m)).length<=1:=by unfold sideF;split<;>simp
 generalize sideF c l m=A1 at *;generalize sideF c l (revL m)=B1 at *;have NI:=RG.trans Jy;have int:∀x:Int,-4<=x/\x<=4->Sz K (x:Rat):=fun x h=>oQ (Nat.lt_of_lt_of_le (show x.natAbs<2^3 by omega) (Nat.pow_le_pow_right (by decide) (by omega))) (by omega);refine ⟨_,_,_,_,_,_,rfl,fun Ei jL Up a2 a3=>(iM (V:=Ei.aF [Up]) 5 (hr.le fun b o h=>jL b o (NI b o h)) a a2 ⟨by simp,a3⟩ t3 (by omega) (by omega)).mono ?_⟩;rintro r y_ iy ⟨i0,a4,rfl,i1,i2,t4,a5⟩;obtain ⟨i0,rfl⟩:∃i:Nat,i0=i:=⟨i0.toNat,by omega⟩;have Ps:uD.Le y_:=fun b o h=>iy b o (jL b o h)
 refine ⟨_,rfl,_,_,_,_,a5,fun z V'=>∃(A:List (Rat×Rat))(i:Nat),z.2.2.2.1=(i:Int)/\i+A.length<=4/\z.2.2.2.2.1=lp/\z.2.2.2.2.2.1=n/\0<=z.2.2.2.2.2.2.2/\GR 6 jI V' z.1 z.2.1 z.2.2.1 A/\(∀q∈A,Sz K q.1/\Sz K q.2),fun z=>z.2.2.2.1.toNat,
  ⟨(0,0,[],(i0:Int),lp,n,_,a4),by and_intros<;>rfl,[],i0,rfl,by rw [List.length_nil];omega,rfl,rfl,t4,GR.nil,fun q e=>by cases e⟩,?_⟩
 rintro ⟨w1,w2,us,z4,tp,tn,tc,ta⟩ xF m_ ⟨A,i,I,hA,N,e6,ht,p,H⟩;dsimp only at I N e6 ht p;subst I N e6;have E9:uD.Le xF:=fun b o h=>m_ b o (Ps b o h);have Jx:=NI.trans E9;have E8:=Jy.trans E9;have X5:=p.len;refine ⟨rfl,fun E En jM Uq a6 a7=>(iM (V:=En.aF [Uq]) 3 (hr.le fun b o h=>jM b o (Jx b o h)) a a6 ⟨by simp,a7⟩ ht (by omega) (by omega)).mono ?_,fun E Xd HI=>(iS (C.le (E8.trans HI)) j s (by omega)).mono ?_⟩
 ·have E:(i:Int)>0:=of_decide_eq_true E;have w:i64.wrap ((i:Int)-1)=((i-1:Nat):Int):=by rw [aw (by omega)];omega
  rintro r On Ek ⟨y,c8,rfl,-,-,t5,VA⟩;have A7:xF.Le On:=fun b o h=>Ek b o (jM b o h);dsimp only;rw [w];refine ⟨_,rfl,_,_,_,_,VA,fun _ Nm po Ur a8 a9=>(Tp (V:=Nm.aF [Ur]) (hr.le fun b o h=>po b o (A7 b o (Jx b o h))) a a8 ⟨by simp,a9⟩ t5).mono ?_,fun _ Qt qN Ut b0 b5=>(XK (V:=Qt.aF [Ut]) (hr.le fun b o h=>qN b o (A7 b o (Jx b o h))) a b0 ⟨by simp,b5⟩ t5).mono ?_⟩
  ·rintro r Oo B3 ⟨x1,y1,Ue,T,b6,b7,t6,Rr⟩;have U:jI Oo r ((x1:Rat),(y1:Rat)):=T;obtain ⟨_,_,_,_,_,_,_,_,_,_,_,_,_,_,rfl⟩:=jh T
   refine ⟨_,_,_,_,_,_,_,_,_,_,_,_,_,_,rfl,_,_,_,_,Rr,by omega,p.le,p.cap,rfl,Bu U,fun sp c' k1 k2=>⟨(w1+1,c',_,((i-1:Nat):Int),tp,tn,tc,Ue),by dsimp only;omega,by and_intros<;>rfl,A++[((x1:Rat),(y1:Rat))],i-1,rfl,by rw [List.length_append,List.length_singleton];omega,rfl,rfl,t6,
    (p.mono (V':=Oo.shut) fun _ _ g=>jI.le g fun b o h=>B3 b o (po b o (A7 b o h))).snoc rfl (jI.le U fun b o h=>h) (by decide) k1 k2,fun q e=>?_⟩⟩
   rcases List.mem_append.1 e with e|e
   ·exact H q e
   ·rw [List.mem_singleton.1 e];exact ⟨int x1 b6,int y1 b7⟩
  ·rintro r Oq El ⟨q,Ue,gq,sq,t6,Rr⟩;have b8:=gq;obtain ⟨_,_,_,_,_,_,rfl⟩:=gq.shape;have JB:xF.Le Oq:=fun b o h=>El b o (qN b o (A7 b o h));have s1:Sz 1000 q:=sq.mono (by omega);refine ⟨_,_,_,_,_,_,_,rfl,_,_,_,_,Rr,fun Tk B4=>(SE (S.le fun b o h=>B4 b o (JB b o (E8 b o h))) (b8.le fun b o h=>B4 b o h) nz B s1 (by omega)).mono ?_⟩;rintro r Lw CX T;have U:jI Lw r (j_ c q,kH c q):=T;obtain ⟨_,_,_,_,_,_,_,_,_,_,_,_,_,_,rfl⟩:=jh T
   refine ⟨_,_,_,_,_,_,_,_,_,_,_,_,_,_,rfl,by omega,p.le,p.cap,rfl,Bu U,fun sp c' k1 k2=>⟨(w1+1,c',_,((i-1:Nat):Int),tp,tn,tc,Ue),by dsimp only;omega,by and_intros<;>rfl,A++[(j_ c q,kH c q)],i-1,rfl,by rw [List.length_append,List.length_singleton];omega,rfl,rfl,t6,
    (p.mono (V':=Lw) fun _ _ g=>jI.le g fun b o h=>CX b o (B4 b o (JB b o h))).snoc rfl U (by decide) k1 k2,fun q' e=>?_⟩⟩
   rcases List.mem_append.1 e with e|e
   ·exact H q' e
   ·rw [List.mem_singleton.1 e];exact ⟨(BC B s1).mono (by omega),(BD B s1).mono (by omega)⟩
 rintro r T0 NL G;have Qb:=G;obtain ⟨_,_,_,_,_,_,_,_,_,_,_,_,_,_,_,_,_,_,_,_,_,_,_,_,_,_,rfl⟩:=eN G;have E_:=HI.trans NL
 have hL:∀{Ot:View} {bk:Nat},T0.Le Ot->(us≠[]->Ot.bw bk (.cells us.toArray 64 (0,0)))->dR 6 jI Ot (mA bk w2) w1 A:=fun F Y=>by
  have:=dR.eh Y (p.row.le fun _ _ g=>jI.le g (E_.trans F)) (by decide) (by rw [←X5];exact p.le)
  rwa [←X5] at this
 refine ⟨_,_,_,_,_,_,_,_,_,_,_,_,_,_,_,_,_,_,_,_,_,_,_,_,_,_,_,_,rfl,fun Ot F bk W=>(AP (hL F W) (by omega) H (by omega)).mono ?_⟩;rintro r Zk NM ⟨qq,mm,ee,rfl,hT⟩;have b9:=hL F W;refine ⟨_,_,_,rfl,fun J Zl JD=>(EB (Qb.le (F.trans (NM.trans JD))) (hT.le JD fun _ _ g=>pv.le g JD) v j s H (by omega) (by omega)).mono ?_⟩;rintro r Zm Qi ⟨pc,nc,cc,rfl,fc⟩;refine ⟨_,_,_,_,rfl,fun Zn NN=>I6.mono ?_⟩;rintro r Zo Pt rfl;have JC:=NM.trans (JD.trans (Qi.trans (NN.trans Pt)));have X:=E9.trans (E_.trans (F.trans JC));have JA:=d_.trans (fw.trans X);refine ⟨_,rfl,fun _=>⟨zV,fun _=>⟨zV,fun _ Zp Lj=>(q_ (fa.le (JA.trans Lj)) (ra.le (X.trans Lj) fun _ _ g=>xr.le g (X.trans Lj)) za (by omega) (by omega)).mono ?_,(fun h=>nomatch h)⟩,(fun h=>nomatch h)⟩,(fun h=>nomatch h)⟩;rintro r Zq Qj rfl;have A8:=Lj.trans Qj;refine ⟨_,rfl,fun _ Zr Lk=>(q_ (fb.le (JA.trans (A8.trans Lk))) (rb.le (X.trans (A8.trans Lk)) fun _ _ g=>xr.le g (X.trans (A8.trans Lk))) zb (by omega) (by omega)).mono ?_,(fun h=>nomatch h)⟩;rintro r Zs RM rfl;have JE:=A8.trans (Lk.trans RM);have Fa:=JC.trans JE;refine ⟨_,rfl,fun _ Zt Mj=>(Cr (C.le (E8.trans (E_.trans (F.trans (Fa.trans Mj))))) (b9.le (Fa.trans Mj) fun _ _ g=>jI.le g (Fa.trans Mj)) nz j s H (by omega) (by omega)).mono ?_,(fun h=>nomatch h)⟩;rintro r Zu Tw ⟨qc,mc,ec,rfl,rc⟩;have cl:=chop_len l (ascL (cutsG c l A));have al:=Cd (cutsG c l A);have gl:=mX c l A
 refine ⟨_,_,_,rfl,fun Zv NO=>(q_ (k:=8*K+7) (fc.le (NN.trans (Pt.trans (JE.trans (Mj.trans (Tw.trans NO)))))) (rc.le NO fun _ _ g=>xr.le g NO) (fun f hf=>by
  obtain ⟨u,hu,rfl⟩:=List.mem_map.1 hf;exact ⟨⟨j.1.mono (by omega),j.2.1.mono (by omega),j.2.2.mono (by omega)⟩,AV ⟨s.1.mono (by omega),s.2.mono (by omega)⟩ (vh j H) u hu⟩) (by omega) (by rw [List.length_map];omega)).mono ?_⟩
 rintro r Tl d rfl;exact ⟨_,rfl,fun T1 Qk=>rfl⟩
end Go.Proofs.Tryz
