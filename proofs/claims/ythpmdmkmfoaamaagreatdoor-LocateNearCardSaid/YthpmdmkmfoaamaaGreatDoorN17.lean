import Derived.Test.YthpmdmkmfoaamaaGreatDoorN16
import Derived.Test.YthpmdmkmfoaamaaGreatDoorN15
import Derived.Test.YthpmdmkmfoaamaaGreatDoorN8
import Derived.Test.YthpmdmkmfoaamaaGreatDoorN14
set_option linter.unusedVariables false
open Go.IntKind (i64 u64 u32)
namespace Go.Proofs.Tryz
open Go.bL Go.fN
structure jq (V:View) (n:Nat) (vs:List Value) (l:List (Rat×Rat)):Prop where
 row:Row 6 kR V vs l
 len:n=l.length
 nC:l.length<50
theorem jq.le {V V':View}{n:Nat}{vs:List Value}{l:List (Rat×Rat)}(h:jq V n vs l)(e:V.Le V'):jq V' n vs l:=⟨h.row.le fun _ _ g=>kR.le g e,h.len,h.nC⟩
theorem jq.get {V:View}{n:Nat}{vs:List Value}{l:List (Rat×Rat)}(h:jq V n vs l){k:Nat}(hk:k<l.length):∃(x y:Int)(p:OA)(xb yb:Int)(pb:OA),
  ((0+k*6)+6<=vs.length/\(vs.drop (0+k*6)).take 6=[.int .i64 x,.int .i64 y,.pointer p,.int .i64 xb,.int .i64 yb,.pointer pb])/\kR V (.agg #[.int .i64 x,.int .i64 y,.pointer p,.int .i64 xb,.int .i64 yb,.pointer pb]) (l.getD k bq):=by
 obtain ⟨xs,-,h2,h3,h4⟩:=h.row.get (d:=bq) hk (by decide)
 have h20:=h2
 obtain ⟨x,y,p,xb,yb,pb,e⟩:=h2.shape
 have e:=congrArg Array.toList (Value.agg.inj e)
 dsimp only at e
 subst e
 rw [Nat.zero_add]
 exact ⟨x,y,p,xb,yb,pb,⟨h3,h4⟩,h20⟩
theorem jq.swap {V:View}{n:Nat}{vs:List Value}{l:List (Rat×Rat)}(h:jq V n vs l){i j:Nat}(hi:i<l.length)(hj:j<l.length){x y:Int}{p:OA}{xb yb:Int}{pb:OA}{x' y':Int}{p':OA}{Ml Mm:Int}{pb':OA}
  (h1:kR V (.agg #[.int .i64 x,.int .i64 y,.pointer p,.int .i64 xb,.int .i64 yb,.pointer pb]) (l.getD i bq))(h2:kR V (.agg #[.int .i64 x',.int .i64 y',.pointer p',.int .i64 Ml,.int .i64 Mm,.pointer pb']) (l.getD j bq)) :
  (0+i*6)+6<=vs.length/\(0+j*6)+6<=(ae vs (0+i*6) [.int .i64 x',.int .i64 y',.pointer p',.int .i64 Ml,.int .i64 Mm,.pointer pb']).length /\
  jq V n (ae (ae vs (0+i*6) [.int .i64 x',.int .i64 y',.pointer p',.int .i64 Ml,.int .i64 Mm,.pointer pb']) (0+j*6) [.int .i64 x,.int .i64 y,.pointer p,.int .i64 xb,.int .i64 yb,.pointer pb]) (jn bq l i j):=by
 obtain ⟨-,-,-,g1,-⟩:=h.row.get (d:=bq) hi (by decide)
 obtain ⟨-,-,-,g2,-⟩:=h.row.get (d:=bq) hj (by decide)
 rw [Nat.zero_add,Nat.zero_add]
 refine ⟨g1,by rw [jP (by exact g1)];exact g2,h.row.swap hi hj (by decide) rfl rfl h1 h2,by rw [nL];exact h.len,by rw [nL];exact h.nC⟩
def kS (lb n:Nat)(l:List (Rat×Rat))(a b:Nat)(V':View)(Q:List (Rat×Rat)->Prop):Prop:=∃vs' l',V'.w.heap[lb]?=some (.cells vs'.toArray 108 (0,0))/\jq V' n vs' l'/\h_ bq l l' a b/\Q l'
theorem kt {V:View}{lb n c:Nat}{vs:List Value}{l:List (Rat×Rat)}(hw:V.w.heap[lb]?=some (.cells vs.toArray 108 (0,0)))(hx:V.X lb)(h:jq V n vs l){a b:Nat}(nE:a<=b)(hb:b<=l.length) :
  ab prog 223 #[.slice (some ⟨lb,0,none⟩) n c,.int .i64 a,.int .i64 b,.func (.func 151) #[] #[]] V fun r V'=>r=.tuple #[]/\kS lb n l a b V' fun l'=>pG dv bq l' a b:=by
 have nC:=h.nC
 have len:=h.len
 have wa:i64.wrap ((a:Int)+1)=((a+1:Nat):Int):=by rw [ar (by omega)];omega
 refine fE lb n c vs a b V _ hw hx ⟨fun z V'=>∃(i:Nat)(m:List (Rat×Rat)),z.1=(i:Int)/\a<i/\(i<=b\/i=a+1)/\jq V' n z.2 m/\h_ bq l m a b/\pG dv bq m a i,fun z=>(b-z.1).toNat,
  ⟨(_,vs),by and_intros<;>rfl,a+1,l,wa,by omega,.inr rfl,h,.refl _ _ _,.short (by omega)⟩,?_⟩
 rintro ⟨z,us⟩ V1 l1 ⟨i,m,e,hai,hib,hs,hseg,hasc⟩
 dsimp only at e hs
 subst e
 dsimp only
 have ml:m.length=l.length:=hseg.len
 refine ⟨rfl,fun hlt=>?_,fun hlt V6 l6 NZ=>⟨rfl,us,m,NZ,hs.le l6,hseg,?_⟩⟩
 ·have hlt:(i:Int)<b:=of_decide_eq_true hlt
  have w2:i64.wrap ((i:Int)+1)=((i+1:Nat):Int):=by rw [ar (by omega)];omega
  rw [w2]
  refine ⟨fun z V'=>∃(j:Nat)(k:List (Rat×Rat)),z.1=(j:Int)/\a<=j/\j<=i/\jq V' n z.2 k/\h_ bq l k a b/\Ih dv bq k a i j,fun z=>z.1.toNat,⟨((i:Int),us),by and_intros<;>rfl,i,m,rfl,by omega,Nat.le_refl _,hs,hseg,.start hasc⟩,?_⟩
  rintro ⟨z,ws⟩ V2 l2 ⟨j,k,e,haj,hji,hs,hseg,hins⟩
  dsimp only at e hs
  subst e
  dsimp only
  have kl:k.length=l.length:=hseg.len
  refine ⟨rfl,fun z V'=>V2.Le V'/\(z=true->a<j/\dv (k.getD j bq) (k.getD (j-1) bq)<0)/\(z=false->j<=a\/¬dv (k.getD j bq) (k.getD (j-1) bq)<0),⟨fun hj=>?_,fun hj=>?_⟩,?_⟩
  ·have hj:(j:Int)>a:=of_decide_eq_true hj
   have w1:i64.wrap ((j:Int)-1)=((j-1:Nat):Int):=by rw [ar (by omega)];omega
   rw [w1,Int.toNat_natCast,Int.toNat_natCast]
   obtain ⟨x1,y1,p1,fL,fM,fK,g1,r1⟩:=hs.get (k:=j) (by omega)
   obtain ⟨x2,y2,p2,gT,gU,gQ,g2,r2⟩:=hs.get (k:=j-1) (by omega)
   refine ⟨⟨by omega,by omega⟩,x1,y1,p1,fL,fM,fK,g1,⟨by omega,by omega⟩,x2,y2,p2,gT,gU,gQ,g2,fun V3 l3=>(bU (r1.le l3) (r2.le l3)).mono ?_⟩
   rintro r V4 l4 rfl
   exact ⟨_,rfl,_,by and_intros<;>rfl,l3.trans l4,fun h=>⟨by omega,of_decide_eq_true h⟩,fun h=>.inr (of_decide_eq_false h)⟩
  ·have hj:¬(j:Int)>a:=of_decide_eq_false hj
   exact ⟨false,by and_intros<;>rfl,View.Le.refl _,(fun h=>nomatch h),fun _=>.inl (by omega)⟩
  ·rintro t V5 l5 ⟨lv,t1,t2⟩
   refine ⟨rfl,fun ht=>?_,fun ht=>⟨(((i+1:Nat):Int),ws),by dsimp only;omega,by and_intros<;>rfl,i+1,k,rfl,by omega,.inl (by omega),hs.le l5,hseg,hins.done fJ hji (t2 ht)⟩⟩
   obtain ⟨hj,hlt2⟩:=t1 ht
   have w1:i64.wrap ((j:Int)-1)=((j-1:Nat):Int):=by rw [ar (by omega)];omega
   rw [w1,Int.toNat_natCast,Int.toNat_natCast]
   obtain ⟨x1,y1,p1,fL,fM,fK,g1,r1⟩:=(hs.le l5).get (k:=j) (by omega)
   obtain ⟨x2,y2,p2,gT,gU,gQ,g2,r2⟩:=(hs.le l5).get (k:=j-1) (by omega)
   obtain ⟨s1,s2,s3⟩:=(hs.le l5).swap (i:=j) (j:=j-1) (by omega) (by omega) r1 r2
   exact ⟨⟨by omega,by omega⟩,x2,y2,p2,gT,gU,gQ,g2,⟨by omega,by omega⟩,x1,y1,p1,fL,fM,fK,g1,⟨by omega,by omega⟩,s1,⟨by omega,by omega⟩,s2,(((j-1:Nat):Int),_),by dsimp only;omega,by and_intros<;>rfl,j-1,_,rfl,by omega,by omega,s3,
    hseg.trans (h_.jn (by omega) (by omega) (by omega) (by omega) (by omega)),hins.move fJ hj hji (by omega) hlt2⟩
 ·have hlt:¬(i:Int)<b:=of_decide_eq_false hlt
  rcases hib with hib|hib
  ·rw [show b=i by omega];exact hasc
  ·exact .short (by omega)
theorem sN {V:View}{lb n c:Nat}{vs:List Value}{l:List (Rat×Rat)}(hw:V.w.heap[lb]?=some (.cells vs.toArray 108 (0,0)))(hx:V.X lb)(h:jq V n vs l){a b:Nat}(nE:a<b)(hb:b<=l.length) :
  ab prog 227 #[.slice (some ⟨lb,0,none⟩) n c,.int .i64 a,.int .i64 b,.func (.func 151) #[] #[]] V fun r V'=>r=.tuple #[]/\kS lb n l a b V' fun _=>True:=by
 have nC:=h.nC
 have len:=h.len
 have wb:i64.wrap ((b:Int)-1)=((b-1:Nat):Int):=by rw [ar (by omega)];omega
 refine fH lb n c vs a b V _ hw hx ⟨fun z V'=>∃(i j:Nat)(m:List (Rat×Rat)),z.1=(i:Int)/\z.2.1=(j:Int)/\a<=i/\j<b/\i<=b/\jq V' n z.2.2 m/\h_ bq l m a b,fun z=>(z.2.1-z.1).toNat,
  ⟨((a:Int),((b-1:Nat):Int),vs),by and_intros<;>first|rfl|exact wb,a,b-1,l,rfl,rfl,by omega,by omega,by omega,h,.refl _ _ _⟩,?_⟩
 rintro ⟨z,z',us⟩ V1 l1 ⟨i,j,m,e,e',hi,hj,hib,hs,hseg⟩
 dsimp only at e e' hs
 subst e e'
 dsimp only
 have ml:m.length=l.length:=hseg.len
 refine ⟨rfl,fun hlt=>?_,fun hlt V2 l2 hw2=>⟨rfl,us,m,hw2,hs.le l2,hseg,trivial⟩⟩
 have hlt:(i:Int)<j:=of_decide_eq_true hlt
 have w1:i64.wrap ((i:Int)+1)=((i+1:Nat):Int):=by rw [ar (by omega)];omega
 have w2:i64.wrap ((j:Int)-1)=((j-1:Nat):Int):=by rw [ar (by omega)];omega
 rw [w1,w2,Int.toNat_natCast,Int.toNat_natCast]
 obtain ⟨x1,y1,p1,fL,fM,fK,g1,r1⟩:=hs.get (k:=i) (by omega)
 obtain ⟨x2,y2,p2,gT,gU,gQ,g2,r2⟩:=hs.get (k:=j) (by omega)
 obtain ⟨s1,s2,s3⟩:=hs.swap (i:=i) (j:=j) (by omega) (by omega) r1 r2
 exact ⟨⟨by omega,by omega⟩,x2,y2,p2,gT,gU,gQ,g2,⟨by omega,by omega⟩,x1,y1,p1,fL,fM,fK,g1,⟨by omega,by omega⟩,s1,⟨by omega,by omega⟩,s2,(((i+1:Nat):Int),((j-1:Nat):Int),_),by dsimp only;omega,by and_intros<;>rfl,i+1,j-1,_,rfl,rfl,by omega,by omega,by omega,s3,
  hseg.trans (h_.jn (by omega) (by omega) (by omega) (by omega) (by omega))⟩
theorem rV {V:View}{lb n c:Nat}{vs:List Value}{l:List (Rat×Rat)}(hw:V.w.heap[lb]?=some (.cells vs.toArray 108 (0,0)))(hx:V.X lb)(h:jq V n vs l){f lo hi:Nat}(hb:f+hi<=l.length)(hlo:lo<50)(hp:Hp dv bq l f lo hi (some lo)) :
  ab prog 245 #[.slice (some ⟨lb,0,none⟩) n c,.int .i64 lo,.int .i64 hi,.int .i64 f,.func (.func 151) #[] #[]] V fun r V'=>r=.tuple #[]/\kS lb n l f (f+hi) V' fun l'=>Hp dv bq l' f lo hi none:=by
 have nC:=h.nC
 have len:=h.len
 refine iD lb n c vs lo hi f V _ hw hx ⟨fun z V'=>∃(r:Nat)(m:List (Rat×Rat)),z.1=(r:Int)/\lo<=r/\r<50/\jq V' n z.2 m/\h_ bq l m f (f+hi)/\Hp dv bq m f lo hi (some r),fun z=>(hi-z.1).toNat,
  ⟨((lo:Int),vs),by and_intros<;>rfl,lo,l,rfl,Nat.le_refl _,hlo,h,.refl _ _ _,hp⟩,?_⟩
 rintro ⟨z,us⟩ V1 l1 ⟨r,m,e,hr,hr',hs,hseg,hm⟩
 dsimp only at e hs
 subst e
 dsimp only
 have ml:m.length=l.length:=hseg.len
 have w0:i64.wrap (i64.wrap ((2:Int)*(r:Int))+1)=((2*r+1:Nat):Int):=by rw [ar (x:=(2:Int)*(r:Int)) (by omega),ar (by omega)];omega
 have w1:i64.wrap (((2*r+1:Nat):Int)+1)=((2*r+2:Nat):Int):=by rw [ar (by omega)];omega
 have w2:i64.wrap ((f:Int)+((2*r+1:Nat):Int))=((f+(2*r+1):Nat):Int):=by rw [ar (by omega)];omega
 have w3:i64.wrap (((f+(2*r+1):Nat):Int)+1)=((f+(2*r+2):Nat):Int):=by rw [ar (by omega)];omega
 have w4:i64.wrap ((f:Int)+(r:Int))=((f+r:Nat):Int):=by rw [ar (by omega)];omega
 rw [w0,w1,w2,w3,w4,Int.toNat_natCast,Int.toNat_natCast,Int.toNat_natCast]
 refine ⟨rfl,fun hlt V2 l2 hw2=>⟨rfl,us,m,hw2,hs.le l2,hseg,hm.leaf (by have:=of_decide_eq_true hlt;omega)⟩,fun hlt=>?_⟩
 have hlt:¬((2*r+1:Nat):Int)≥hi:=of_decide_eq_false hlt
 refine ⟨fun z V'=>V1.Le V'/\(z=true->2*r+2<hi/\dv (m.getD (f+(2*r+1)) bq) (m.getD (f+(2*r+2)) bq)<0)/\(z=false->2*r+2<hi->¬dv (m.getD (f+(2*r+1)) bq) (m.getD (f+(2*r+2)) bq)<0),⟨fun hj=>?_,fun hj=>?_⟩,?_⟩
 ·have hj:((2*r+2:Nat):Int)<hi:=of_decide_eq_true hj
  obtain ⟨x1,y1,p1,fL,fM,fK,g1,r1⟩:=hs.get (k:=f+(2*r+1)) (by omega)
  obtain ⟨x2,y2,p2,gT,gU,gQ,g2,r2⟩:=hs.get (k:=f+(2*r+2)) (by omega)
  refine ⟨⟨by omega,by omega⟩,x1,y1,p1,fL,fM,fK,g1,⟨by omega,by omega⟩,x2,y2,p2,gT,gU,gQ,g2,fun V3 l3=>(bU (r1.le l3) (r2.le l3)).mono ?_⟩
  rintro q V4 l4 rfl
  exact ⟨_,rfl,_,by and_intros<;>rfl,l3.trans l4,fun h=>⟨by omega,of_decide_eq_true h⟩,fun h _=>of_decide_eq_false h⟩
 ·have hj:¬((2*r+2:Nat):Int)<hi:=of_decide_eq_false hj
  exact ⟨false,by and_intros<;>rfl,View.Le.refl _,(fun h=>nomatch h),fun _ h=>absurd h (by omega)⟩
 rintro t V5 l5 ⟨-,t1,t2⟩
 refine ⟨rfl,fun z V'=>V5.Le V'/\∃k:Nat,z=(k:Int)/\(k=2*r+1\/k=2*r+2)/\k<hi/\∀k',(k'=2*r+1\/k'=2*r+2)->k'<hi->¬dv (m.getD (f+k) bq) (m.getD (f+k') bq)<0,⟨fun ht=>?_,fun ht=>?_⟩,?_⟩
 ·obtain ⟨h1,h2⟩:=t1 ht
  refine ⟨_,by and_intros<;>rfl,View.Le.refl _,2*r+2,rfl,.inr rfl,h1,fun k' hk _=>?_⟩
  rcases hk with rfl|rfl
  ·exact fJ.Iq _ _ h2
  ·exact fJ.refl _
 ·refine ⟨_,by and_intros<;>rfl,View.Le.refl _,2*r+1,rfl,.inl rfl,by omega,fun k' hk hk'=>?_⟩
  rcases hk with rfl|rfl
  ·exact fJ.refl _
  ·exact t2 ht hk'
 rintro z V6 l6 ⟨-,k,rfl,hk,hkh,hmax⟩
 have w5:i64.wrap ((f:Int)+(k:Int))=((f+k:Nat):Int):=by rw [ar (by omega)];omega
 rw [w5,Int.toNat_natCast]
 have hs6:=hs.le (l5.trans l6)
 obtain ⟨x1,y1,p1,fL,fM,fK,g1,r1⟩:=hs6.get (k:=f+r) (by omega)
 obtain ⟨x2,y2,p2,gT,gU,gQ,g2,r2⟩:=hs6.get (k:=f+k) (by omega)
 refine ⟨rfl,⟨by omega,by omega⟩,x1,y1,p1,fL,fM,fK,g1,⟨by omega,by omega⟩,x2,y2,p2,gT,gU,gQ,g2,fun V7 l7=>(bU (r1.le l7) (r2.le l7)).mono ?_⟩
 rintro q V8 l8 rfl
 refine ⟨_,rfl,fun hc V9 l9 Su=>⟨rfl,us,m,Su,hs6.le (l7.trans (l8.trans l9)),hseg,?_⟩,fun hc=>?_⟩
 ·rw [Bool.not_eq_true'] at hc
  exact hm.stop fJ hk hmax (of_decide_eq_false hc)
 ·rw [Bool.not_eq_false'] at hc
  have hc:=of_decide_eq_true hc
  obtain ⟨s1,s2,s3⟩:=(hs6.le (l7.trans l8)).swap (i:=f+r) (j:=f+k) (by omega) (by omega) (r1.le (l7.trans l8)) (r2.le (l7.trans l8))
  exact ⟨⟨by omega,by omega⟩,x2,y2,p2,gT,gU,gQ,g2,⟨by omega,by omega⟩,x1,y1,p1,fL,fM,fK,g1,⟨by omega,by omega⟩,s1,⟨by omega,by omega⟩,s2,((k:Int),_),by dsimp only;omega,by and_intros<;>rfl,k,_,rfl,by omega,by omega,s3,
   hseg.trans (h_.jn (by omega) (by omega) (by omega) (by omega) (by omega)),hm.down fJ hr (by omega) hk hkh hmax hc⟩
theorem qU {V:View}{lb n c:Nat}{vs:List Value}{l:List (Rat×Rat)}(hw:V.w.heap[lb]?=some (.cells vs.toArray 108 (0,0)))(hx:V.X lb)(h:jq V n vs l){a b:Nat}(nE:a+8<=b)(hb:b<=l.length) :
  ab prog 225 #[.slice (some ⟨lb,0,none⟩) n c,.int .i64 a,.int .i64 b,.func (.func 151) #[] #[]] V fun r V'=>r=.tuple #[]/\kS lb n l a b V' fun _=>True:=by
 have nC:=h.nC
 have len:=h.len
 have w0:i64.wrap ((b:Int)-a)=((b-a:Nat):Int):=by rw [ar (by omega)];omega
 have wq:i64.wrap (((b-a:Nat):Int).tdiv 4)=(((b-a) / 4:Nat):Int):=by rw [show ((b-a:Nat):Int).tdiv 4=(((b-a) / 4:Nat):Int) from rfl,ar (by omega)]
 have w2:i64.wrap ((((b-a) / 4:Nat):Int)*2)=(((b-a) / 4*2:Nat):Int):=by rw [ar (by omega)];omega
 have w3:i64.wrap ((a:Int)+(((b-a) / 4*2:Nat):Int))=((a+(b-a) / 4*2:Nat):Int):=by rw [ar (by omega)];omega
 have w4:i64.wrap (((a+(b-a) / 4*2:Nat):Int)-1)=((a+(b-a) / 4*2-1:Nat):Int):=by rw [ar (by omega)];omega
 have w5:i64.wrap (((a+(b-a) / 4*2:Nat):Int)+1)=((a+(b-a) / 4*2+1:Nat):Int):=by rw [ar (by omega)];omega
 refine fD lb n c vs a b V _ hw hx ?_
 rw [w0,wq,w2,w3,w4,w5]
 generalize hq:(b-a) / 4*2=q
 have hq1:4<=q:=by omega
 have hq2:a+q+1<b:=by omega
 refine ⟨fun _ V1 l1=>(qV (b-a) (by omega) (by omega)).mono ?_,fun h8=>absurd (of_decide_eq_false h8) (by omega)⟩
 rintro r V2 l2 ⟨m,rfl,m1,m2⟩
 refine ⟨_,rfl,by decide,fun z V'=>∃(i:Nat)(k:List (Rat×Rat)),z.1=(i:Int)/\a+q-1<=i/\jq V' n z.2.2 k/\h_ bq l k a b,fun z=>((a+q+2:Nat)-z.1).toNat,⟨(((a+q-1:Nat):Int),_,vs),by and_intros<;>rfl,a+q-1,l,rfl,Nat.le_refl _,h.le (l1.trans l2),.refl _ _ _⟩,?_⟩
 rintro ⟨z,sd,us⟩ V3 l3 ⟨i,k,e,hi,hs,hseg⟩
 dsimp only at e hs
 subst e
 dsimp only
 have kl:k.length=l.length:=hseg.len
 refine ⟨rfl,by decide,fun hlt V4 l4 bk e4 h4=>(CZ (V:=V4.au [bk]) e4 ⟨by simp,h4⟩).mono ?_,fun hlt V6 l6 NZ=>⟨rfl,us,k,NZ,hs.le l6,hseg,trivial⟩⟩
 have hlt:(i:Int)<=((a+q+1:Nat):Int):=of_decide_eq_true hlt
 rintro r V5 l5 ⟨y,rfl,e5⟩
 have wm:u64.wrap ((m:Int)-1)=((m-1:Nat):Int):=by rw [aL (by omega)];omega
 rw [wm]
 obtain ⟨g1,g2⟩:=KN (x:=y) (m:=((m-1:Nat):Int)) (by omega) (by omega)
 generalize hv:aS .and .u64 y ((m-1:Nat):Int)=v at *
 have wv:i64.wrap v=v:=ar (by omega)
 have w6:i64.wrap ((i:Int)+1)=((i+1:Nat):Int):=by rw [ar (by omega)];omega
 have hs5:jq V5.shut n us k:=hs.le fun b o h=>l5 b o (l4 b o h)
 obtain ⟨o,ho,MB⟩:∃o:Nat,(o:Int)=(if v≥((b-a:Nat):Int) then v-((b-a:Nat):Int) else v)/\o<b-a:=by
  split
  ·exact ⟨(v-((b-a:Nat):Int)).toNat,by omega,by omega⟩
  ·exact ⟨v.toNat,by omega,by omega⟩
 refine ⟨y,rfl,y,e5,?_⟩
 rw [hv,wv,w6]
 refine ⟨fun z V'=>z=(o:Int)/\V5.shut.Le V',⟨fun hg=>?_,fun hg=>?_⟩,?_⟩
 ·have hg:=of_decide_eq_true hg
  rw [if_pos hg] at ho
  exact ⟨_,by and_intros<;>first|rfl|exact (ar (by omega)),ho.symm,View.Le.refl _⟩
 ·have hg:=of_decide_eq_false hg
  rw [if_neg hg] at ho
  exact ⟨_,by and_intros<;>rfl,ho.symm,View.Le.refl _⟩
 rintro z V7 l7 ⟨rfl,-⟩
 have wo:i64.wrap ((a:Int)+(o:Int))=((a+o:Nat):Int):=by rw [ar (by omega)];omega
 rw [wo,Int.toNat_natCast,Int.toNat_natCast]
 have hs7:=hs5.le l7
 obtain ⟨x1,y1,p1,fL,fM,fK,g1,r1⟩:=hs7.get (k:=i) (by omega)
 obtain ⟨x2,y2,p2,gT,gU,gQ,g2,r2⟩:=hs7.get (k:=a+o) (by omega)
 obtain ⟨s1,s2,s3⟩:=hs7.swap (i:=i) (j:=a+o) (by omega) (by omega) r1 r2
 exact ⟨rfl,⟨by omega,by omega⟩,x2,y2,p2,gT,gU,gQ,g2,⟨by omega,by omega⟩,x1,y1,p1,fL,fM,fK,g1,⟨by omega,by omega⟩,s1,⟨by omega,by omega⟩,s2,(((i+1:Nat):Int),y,_),by dsimp only;omega,by and_intros<;>rfl,i+1,_,rfl,by omega,s3,
  hseg.trans (h_.jn (by omega) (by omega) (by omega) (by omega) (by omega))⟩
theorem A0 {V:View}{lb n c:Nat}{vs:List Value}{l:List (Rat×Rat)}(hw:V.w.heap[lb]?=some (.cells vs.toArray 108 (0,0)))(hx:V.X lb)(h:jq V n vs l){a b:Nat}(nE:a<b)(hb:b<=l.length) :
  ab prog 224 #[.slice (some ⟨lb,0,none⟩) n c,.int .i64 a,.int .i64 b,.func (.func 151) #[] #[]] V fun r V'=>r=.tuple #[]/\kS lb n l a b V' fun l'=>pG dv bq l' a b:=by
 have nC:=h.nC
 have len:=h.len
 obtain ⟨N,hN⟩:∃N,N=b-a:=⟨_,rfl⟩
 have w0:i64.wrap ((b:Int)-a)=(N:Int):=by rw [ar (by omega)];omega
 have w1:i64.wrap ((N:Int)-1)=((N-1:Nat):Int):=by rw [ar (by omega)];omega
 have w2:i64.wrap (((N-1:Nat):Int).tdiv 2)=(((N-1) / 2:Nat):Int):=by rw [show ((N-1:Nat):Int).tdiv 2=(((N-1) / 2:Nat):Int) from rfl,ar (by omega)]
 have eb:a+N=b:=by omega
 refine iC lb n c vs a b V _ hw hx ?_
 rw [w0,w1,w2]
 refine ⟨by decide,fun z V'=>∃(i:Nat)(m:List (Rat×Rat)),z.1=(i:Int)-1/\i<=N/\jq V' n z.2 m/\h_ bq l m a b/\Hp dv bq m a i N none,fun z=>(z.1+1).toNat,⟨((((N-1) / 2:Nat):Int),vs),by and_intros<;>rfl,(N-1) / 2+1,l,by dsimp only;omega,by omega,h,.refl _ _ _,⟨fun i k h1 h2 h3 _=>by omega,fun i j k e=>by cases e⟩⟩,?_⟩
 rintro ⟨z,us⟩ V1 l1 ⟨i,m,e,hi,hs,hseg,hp⟩
 dsimp only at e hs
 subst e
 dsimp only
 have ml:m.length=l.length:=hseg.len
 refine ⟨rfl,fun h0 V2 l2 bk e2 h2=>?_,fun h0=>?_⟩
 ·have h0:(i:Int)-1≥0:=of_decide_eq_true h0
  obtain ⟨j,rfl⟩:∃j,i=j+1:=⟨i-1,by omega⟩
  have ej:((j+1:Nat):Int)-1=(j:Int):=by omega
  have w3:i64.wrap ((j:Int)-1)=(j:Int)-1:=ar (by omega)
  rw [ej]
  refine (rV (V:=V2.au [bk]) e2 ⟨by simp,h2⟩ (hs.le l2) (f:=a) (lo:=j) (hi:=N) (by omega) (by omega) hp.more).mono ?_
  rintro r V3 l3 ⟨rfl,ws,m',e3,hs3,NN,hp3⟩
  exact ⟨rfl,ws,e3,((j:Int)-1,ws),by dsimp only;omega,by and_intros<;>first|rfl|exact w3,j,m',rfl,by omega,hs3.le (gP _),hseg.trans (NN.wide (Nat.le_refl _) (by omega)),hp3⟩
 ·have h0:¬(i:Int)-1≥0:=of_decide_eq_false h0
  obtain rfl:i=0:=by omega
  refine ⟨fun z V'=>∃(i:Nat)(m:List (Rat×Rat)),z.1=(i:Int)-1/\i<=N/\jq V' n z.2 m/\h_ bq l m a b/\HQ dv bq m a i N,fun z=>(z.1+1).toNat,⟨(((N-1:Nat):Int),us),by and_intros<;>rfl,N,m,by dsimp only;omega,Nat.le_refl _,hs,hseg,.start hp⟩,?_⟩
  rintro ⟨z,us⟩ V4 l4 ⟨i,m,e,hi,hs,hseg,hq⟩
  dsimp only at e hs
  subst e
  dsimp only
  have ml:m.length=l.length:=hseg.len
  refine ⟨rfl,fun h0=>?_,fun h0 V7 l7 hw7=>⟨rfl,us,m,hw7,hs.le l7,hseg,?_⟩⟩
  ·have h0:(i:Int)-1≥0:=of_decide_eq_true h0
   obtain ⟨j,rfl⟩:∃j,i=j+1:=⟨i-1,by omega⟩
   have ej:((j+1:Nat):Int)-1=(j:Int):=by omega
   have w3:i64.wrap ((j:Int)-1)=(j:Int)-1:=ar (by omega)
   have w4:i64.wrap ((a:Int)+(j:Int))=((a+j:Nat):Int):=by rw [ar (by omega)];omega
   rw [ej,w4,Int.toNat_natCast,Int.toNat_natCast]
   obtain ⟨x1,y1,p1,fL,fM,fK,g1,r1⟩:=hs.get (k:=a) (by omega)
   obtain ⟨x2,y2,p2,gT,gU,gQ,g2,r2⟩:=hs.get (k:=a+j) (by omega)
   obtain ⟨s1,s2,s3⟩:=hs.swap (i:=a) (j:=a+j) (by omega) (by omega) r1 r2
   refine ⟨⟨by omega,by omega⟩,x2,y2,p2,gT,gU,gQ,g2,⟨by omega,by omega⟩,x1,y1,p1,fL,fM,fK,g1,⟨by omega,by omega⟩,s1,⟨by omega,by omega⟩,s2,fun V5 l5 bk e5 h5=>?_⟩
   have sl:(jn bq m a (a+j)).length=l.length:=by rw [nL];exact ml
   refine (rV (V:=V5.au [bk]) e5 ⟨by simp,h5⟩ (s3.le l5) (f:=a) (lo:=0) (hi:=j) (by omega) (by omega) (hq.hp.pop (by omega))).mono ?_
   rintro r V6 l6 ⟨rfl,ws,m',e6,hs6,J_,XB⟩
   exact ⟨rfl,ws,e6,((j:Int)-1,ws),by dsimp only;omega,by and_intros<;>first|rfl|exact w3,j,m',rfl,by omega,hs6.le (gP _),hseg.trans ((h_.jn (by omega) (by omega) (by omega) (by omega) (by omega)).trans (J_.wide (Nat.le_refl _) (by omega))),hq.step fJ (by omega) (by omega) J_ XB⟩
  ·have h0:¬(i:Int)-1≥0:=of_decide_eq_false h0
   obtain rfl:i=0:=by omega
   have:=hq.fin
   rwa [eb] at this
theorem qY {V:View}{lb n c:Nat}{vs:List Value}{l:List (Rat×Rat)}(hw:V.w.heap[lb]?=some (.cells vs.toArray 108 (0,0)))(hx:V.X lb)(h:jq V n vs l){wb:Nat}{k:Int}(hw':V.w.heap[wb]?=some (.cells #[.int .i64 k] 3 (0,0)))(hx':V.X wb)(hne:lb≠wb){a b:Nat}(ha:a<l.length)(hb:b<l.length) :
  ab prog 252 #[.slice (some ⟨lb,0,none⟩) n c,.int .i64 a,.int .i64 b,.pointer (some ⟨wb,0,none⟩),.func (.func 151) #[] #[]] V fun r V'=>∃(x y:Nat)(k':Int),r=.tuple #[.int .i64 x,.int .i64 y]/\((x=a/\y=b)\/(x=b/\y=a)) /\
   V'.w.heap[lb]?=some (.cells vs.toArray 108 (0,0))/\V'.w.heap[wb]?=some (.cells #[.int .i64 k'] 3 (0,0)):=by
 have len:=h.len
 obtain ⟨x1,y1,p1,fL,fM,fK,g1,r1⟩:=h.get (k:=a) ha
 obtain ⟨x2,y2,p2,gT,gU,gQ,g2,r2⟩:=h.get (k:=b) hb
 refine ju lb n c vs a b wb k V _ hw hx hw' hx' hne ⟨⟨by omega,by omega⟩,x2,y2,p2,gT,gU,gQ,by rw [Int.toNat_natCast];exact g2,⟨by omega,by omega⟩,x1,y1,p1,fL,fM,fK,by rw [Int.toNat_natCast];exact g1,fun V1 l1=>(bU (r2.le l1) (r1.le l1)).mono ?_⟩
 rintro r V2 l2 rfl
 exact ⟨_,rfl,fun _ V3 l3 e1 e2=>⟨b,a,_,rfl,.inr ⟨rfl,rfl⟩,e1,e2⟩,fun _ V4 l4 e1 e2=>⟨a,b,_,rfl,.inl ⟨rfl,rfl⟩,e1,e2⟩⟩
theorem EV {V:View}{lb n c:Nat}{vs:List Value}{l:List (Rat×Rat)}(hw:V.w.heap[lb]?=some (.cells vs.toArray 108 (0,0)))(hx:V.X lb)(h:jq V n vs l){wb:Nat}{k:Int}(hw':V.w.heap[wb]?=some (.cells #[.int .i64 k] 3 (0,0)))(hx':V.X wb)(hne:lb≠wb){a b d:Nat}(ha:a<l.length)(hb:b<l.length)(hd:d<l.length) :
  ab prog 247 #[.slice (some ⟨lb,0,none⟩) n c,.int .i64 a,.int .i64 b,.int .i64 d,.pointer (some ⟨wb,0,none⟩),.func (.func 151) #[] #[]] V fun r V'=>∃(x:Nat)(k':Int),r=.int .i64 x/\(x=a\/x=b\/x=d) /\
   V'.w.heap[lb]?=some (.cells vs.toArray 108 (0,0))/\V'.w.heap[wb]?=some (.cells #[.int .i64 k'] 3 (0,0)):=by
 have lX:∀(U:View)(u v:Nat),U.H u->U.H v->(U.au [u,v]).X u/\(U.au [u,v]).X v:=fun U u v hu hv=>⟨⟨by simp,hu⟩,⟨by simp,hv⟩⟩
 refine jt lb n c vs a b d wb k V _ hw hx hw' hx' hne fun V1 l1 u1 v1 e1 f1 QW K4 n1=>(qY (V:=V1.au [u1,v1]) e1 (lX _ _ _ f1 K4).1 (h.le l1) QW (lX _ _ _ f1 K4).2 n1 ha hb).mono ?_
 rintro r V2 l2 ⟨x2,y2,k2,rfl,o2,e2,e2'⟩
 have L2:V.Le V2:=fun b o h=>l2 b o (l1 b o h)
 refine ⟨_,_,rfl,vs,e2,_,e2',fun V3 l3 u3 v3 e3 f3 e3' f3' n3=>(qY (V:=V3.au [u3,v3]) e3 (lX _ _ _ f3 f3').1 (h.le fun b o h=>l3 b o (L2 b o h)) e3' (lX _ _ _ f3 f3').2 n3 (a:=y2) (by omega) hd).mono ?_⟩
 rintro r V4 l4 ⟨x4,y4,k4,rfl,o4,e4,e4'⟩
 refine ⟨_,_,rfl,vs,e4,_,e4',fun V5 l5 u5 v5 e5 f5 e5' UG n5=>(qY (V:=V5.au [u5,v5]) e5 (lX _ _ _ f5 UG).1 (h.le fun b o h=>l5 b o (l4 b o (l3 b o (L2 b o h)))) e5' (lX _ _ _ f5 UG).2 n5 (a:=x2) (b:=x4) (by omega) (by omega)).mono ?_⟩
 rintro r V6 l6 ⟨x6,y6,k6,rfl,o6,e6,WU⟩
 exact ⟨_,_,rfl,vs,e6,_,WU,fun V7 l7 e7 WV=>⟨y6,k6,rfl,by omega,e7,WV⟩⟩
theorem ui {V:View}{lb n c:Nat}{vs:List Value}{l:List (Rat×Rat)}(hw:V.w.heap[lb]?=some (.cells vs.toArray 108 (0,0)))(hx:V.X lb)(h:jq V n vs l){a b:Nat}(nE:a+8<=b)(hb:b<=l.length) :
  ab prog 226 #[.slice (some ⟨lb,0,none⟩) n c,.int .i64 a,.int .i64 b,.func (.func 151) #[] #[]] V fun r V'=>∃(x:Nat)(t:Int),r=.tuple #[.int .i64 x,.int .i64 t]/\a<=x/\x<b /\
   V'.w.heap[lb]?=some (.cells vs.toArray 108 (0,0)):=by
 have nC:=h.nC
 have lX:∀(U:View)(u v:Nat),U.H u->U.H v->(U.au [u,v]).X u/\(U.au [u,v]).X v:=fun U u v hu hv=>⟨⟨by simp,hu⟩,⟨by simp,hv⟩⟩
 obtain ⟨q,hq⟩:∃q,q=(b-a) / 4:=⟨_,rfl⟩
 have w0:i64.wrap ((b:Int)-a)=((b-a:Nat):Int):=by rw [ar (by omega)];omega
 have wq:i64.wrap (((b-a:Nat):Int).tdiv 4)=(q:Int):=by rw [show ((b-a:Nat):Int).tdiv 4=(((b-a) / 4:Nat):Int) from rfl,ar (by omega)];omega
 have v1:i64.wrap ((q:Int)*1)=(q:Int):=by rw [ar (by omega)];omega
 have v2:i64.wrap ((q:Int)*2)=((2*q:Nat):Int):=by rw [ar (by omega)];omega
 have v3:i64.wrap ((q:Int)*3)=((3*q:Nat):Int):=by rw [ar (by omega)];omega
 have w1:i64.wrap ((a:Int)+(q:Int))=((a+q:Nat):Int):=by rw [ar (by omega)];omega
 have w2:i64.wrap ((a:Int)+((2*q:Nat):Int))=((a+2*q:Nat):Int):=by rw [ar (by omega)];omega
 have w3:i64.wrap ((a:Int)+((3*q:Nat):Int))=((a+3*q:Nat):Int):=by rw [ar (by omega)];omega
 refine fZ lb n c vs a b V _ hw hx ?_
 rw [w0,wq,v1,v2,v3,w1,w2,w3]
 refine ⟨by decide,by decide,by decide,fun _=>⟨fun h50=>absurd (of_decide_eq_true h50) (by omega),fun _ V1 l1 u v e1 f1 QW K4 n1=>(EV (V:=V1.au [u,v]) e1 (lX _ _ _ f1 K4).1 (h.le l1) QW (lX _ _ _ f1 K4).2 n1 (a:=a+q) (b:=a+2*q) (d:=a+3*q) (by omega) (by omega) (by omega)).mono ?_⟩,fun h8=>absurd (of_decide_eq_false h8) (by omega)⟩
 rintro r V2 l2 ⟨x,k,rfl,ho,e2,e2'⟩
 exact ⟨_,rfl,vs,e2,_,e2',fun _ V3 l3 e3=>⟨x,_,rfl,by omega,by omega,e3⟩,fun _=>⟨fun _ V4 l4 e4=>⟨x,_,rfl,by omega,by omega,e4⟩,fun _ V5 l5 e5=>⟨x,_,rfl,by omega,by omega,e5⟩⟩⟩
theorem nO {V:View}{lb n c:Nat}{vs:List Value}{l:List (Rat×Rat)}(hw:V.w.heap[lb]?=some (.cells vs.toArray 108 (0,0)))(hx:V.X lb)(h:jq V n vs l){a b:Nat}(nE:a<b)(hb:b<=l.length) :
  ab prog 228 #[.slice (some ⟨lb,0,none⟩) n c,.int .i64 a,.int .i64 b,.func (.func 151) #[] #[]] V fun r V'=>∃t:Bool,r=.bool t/\jq V' n vs l/\V'.w.heap[lb]?=some (.cells vs.toArray 108 (0,0))/\(t=true->pG dv bq l a b):=by
 have nC:=h.nC
 have len:=h.len
 have wa:i64.wrap ((a:Int)+1)=((a+1:Nat):Int):=by rw [ar (by omega)];omega
 have wn:i64.wrap ((b:Int)-a)=((b-a:Nat):Int):=by rw [ar (by omega)];omega
 refine dF lb n c vs a b V _ hw hx ?_
 rw [wa,wn]
 refine ⟨fun z V'=>z=(((a+1:Nat):Int),0,vs)/\V.Le V',fun z=>0,⟨(((a+1:Nat):Int),0,vs),by and_intros<;>rfl,rfl,View.Le.refl _⟩,?_⟩
 rintro z V1 l1 ⟨rfl,-⟩
 dsimp only
 refine ⟨rfl,fun _=>⟨fun z V'=>∃i:Nat,z=(i:Int)/\a+1<=i/\i<=b/\V1.Le V'/\pG dv bq l a i,fun z=>(b-z).toNat,⟨((a+1:Nat):Int),by and_intros<;>rfl,a+1,rfl,Nat.le_refl _,by omega,View.Le.refl _,.short (by omega)⟩,?_⟩,fun h0=>absurd (of_decide_eq_false h0) (by decide)⟩
 rintro z V2 l2 ⟨i,rfl,hi,hib,-,hasc⟩
 have w1:i64.wrap ((i:Int)-1)=((i-1:Nat):Int):=by rw [ar (by omega)];omega
 have w2:i64.wrap ((i:Int)+1)=((i+1:Nat):Int):=by rw [ar (by omega)];omega
 rw [w1,w2,Int.toNat_natCast,Int.toNat_natCast]
 have hs:=h.le (l1.trans l2)
 refine ⟨rfl,fun z V'=>V2.Le V'/\(z=true->i<b/\¬dv (l.getD i bq) (l.getD (i-1) bq)<0)/\(z=false->True),⟨fun hj=>?_,fun hj=>⟨false,by and_intros<;>rfl,View.Le.refl _,(fun h=>nomatch h),fun _=>trivial⟩⟩,?_⟩
 ·have hj:(i:Int)<b:=of_decide_eq_true hj
  obtain ⟨x1,y1,p1,fL,fM,fK,g1,r1⟩:=hs.get (k:=i) (by omega)
  obtain ⟨x2,y2,p2,gT,gU,gQ,g2,r2⟩:=hs.get (k:=i-1) (by omega)
  refine ⟨⟨by omega,by omega⟩,x1,y1,p1,fL,fM,fK,g1,⟨by omega,by omega⟩,x2,y2,p2,gT,gU,gQ,g2,fun V3 l3=>(bU (r1.le l3) (r2.le l3)).mono ?_⟩
  rintro r V4 l4 rfl
  exact ⟨_,rfl,_,by and_intros<;>rfl,l3.trans l4,fun h=>⟨by omega,by simpa using h⟩,fun _=>trivial⟩
 ·rintro t V5 l5 ⟨-,t1,-⟩
  refine ⟨rfl,fun ht=>?_,fun ht=>⟨fun he V6 l6 NZ=>⟨true,rfl,hs.le (l5.trans l6),NZ,fun _=>?_⟩,fun _=>⟨fun _ V7 l7 hw7=>⟨false,rfl,hs.le (l5.trans l7),hw7,(fun h=>nomatch h)⟩,fun h50=>absurd (of_decide_eq_false h50) (by omega)⟩⟩⟩
  ·obtain ⟨h1,h2⟩:=t1 ht
   exact ⟨((i+1:Nat):Int),by dsimp only;omega,by and_intros<;>rfl,i+1,rfl,by omega,by omega,l2.trans l5,hasc.step fJ (by omega) h2⟩
  ·have he:(i:Int)=b:=by simpa using he
   rw [show b=i by omega];exact hasc
theorem HT {l:List (Rat×Rat)}{a piv:Nat}(ha:a<l.length)(hp:piv<l.length):(jn bq l a piv).getD a bq=l.getD piv bq:=by
 rw [lM ha hp]
 by_cases e:a=piv
 ·rw [if_pos e,e]
 ·rw [if_neg e,if_pos rfl]
theorem pN {V:View}{lb n c:Nat}{vs:List Value}{l:List (Rat×Rat)}(hw:V.w.heap[lb]?=some (.cells vs.toArray 108 (0,0)))(hx:V.X lb)(h:jq V n vs l){a b piv:Nat}(nE:a+1<b)(hb:b<=l.length)(hp:a<=piv)(hp':piv<b) :
  ab prog 229 #[.slice (some ⟨lb,0,none⟩) n c,.int .i64 a,.int .i64 b,.int .i64 piv,.func (.func 151) #[] #[]] V fun r V'=>∃mid:Nat,r=.int .i64 mid/\a<mid/\mid<=b/\kS lb n l a b V' fun l'=>(∀k,a<=k->k<mid->¬dv (l.getD piv bq) (l'.getD k bq)<0)/\(∀k,mid<=k->k<b->dv (l.getD piv bq) (l'.getD k bq)<0):=by
 have nC:=h.nC
 have len:=h.len
 have wa:i64.wrap ((a:Int)+1)=((a+1:Nat):Int):=by rw [ar (by omega)];omega
 have wb:i64.wrap ((b:Int)-1)=((b-1:Nat):Int):=by rw [ar (by omega)];omega
 refine e_ lb n c vs a b piv V _ hw hx ?_
 rw [wa,wb,Int.toNat_natCast,Int.toNat_natCast]
 obtain ⟨x1,y1,p1,fL,fM,fK,g1,r1⟩:=h.get (k:=a) (by omega)
 obtain ⟨x2,y2,p2,gT,gU,gQ,g2,r2⟩:=h.get (k:=piv) (by omega)
 obtain ⟨s1,s2,s3⟩:=h.swap (i:=a) (j:=piv) (by omega) (by omega) r1 r2
 refine ⟨⟨by omega,by omega⟩,x2,y2,p2,gT,gU,gQ,g2,⟨by omega,by omega⟩,x1,y1,p1,fL,fM,fK,g1,⟨by omega,by omega⟩,s1,⟨by omega,by omega⟩,s2,?_⟩
 generalize ae (ae vs (0+a*6) [.int .i64 x2,.int .i64 y2,.pointer p2,.int .i64 gT,.int .i64 gU,.pointer gQ]) (0+piv*6) [.int .i64 x1,.int .i64 y1,.pointer p1,.int .i64 fL,.int .i64 fM,.pointer fK]=ws at *
 have m0:=HT (l:=l) (a:=a) (piv:=piv) (by omega) (by omega)
 have g0:h_ bq l (jn bq l a piv) a b:=h_.jn (Nat.le_refl _) (by omega) hp hp' hb
 generalize jn bq l a piv=l0 at *
 generalize hpv:l.getD piv bq=p at *
 have Yh:l0.length=l.length:=g0.len
 clear g1 g2 r1 r2 s1 s2
 refine ⟨fun z V'=>∃(i j:Nat)(m:List (Rat×Rat)),z.1=(i:Int)/\z.2.1=(j:Int)/\jq V' n z.2.2 m/\h_ bq l m a b/\m.getD a bq=p/\PT (fun x=>¬dv p x<0) bq m a b i j,fun z=>(b-z.1).toNat,⟨(((a+1:Nat):Int),((b-1:Nat):Int),ws),by and_intros<;>rfl,a+1,b-1,l0,rfl,rfl,s3,g0,m0,PT.start nE⟩,?_⟩
 rintro ⟨z,z',us⟩ V1 l1 ⟨i0,j,m,e,e',hs1,hseg,ma,SZ⟩
 dsimp only at e e' hs1
 subst e e'
 have ml:m.length=l.length:=hseg.len
 refine ⟨rfl,fun z V'=>∃i:Nat,z=((i:Int),(j:Int),us)/\i0<=i/\V1.Le V'/\PT (fun x=>¬dv p x<0) bq m a b i j,fun z=>(b-z.1).toNat,⟨((i0:Int),(j:Int),us),by and_intros<;>rfl,i0,rfl,Nat.le_refl _,View.Le.refl _,SZ⟩,?_⟩
 rintro _ V2 l2 ⟨i,rfl,hi0,-,pt⟩
 dsimp only
 have hs:=hs1.le l2
 have q1:=pt.hi
 have q2:=pt.wQ
 have q3:=pt.hj
 have w1:i64.wrap ((i:Int)+1)=((i+1:Nat):Int):=by rw [ar (by omega)];omega
 rw [w1,Int.toNat_natCast]
 refine ⟨rfl,fun z V'=>V2.Le V'/\(z=true->i<=j/\¬dv p (m.getD i bq)<0)/\(z=false->i<=j->¬¬dv p (m.getD i bq)<0),⟨fun hj=>?_,fun hj=>⟨false,by and_intros<;>rfl,View.Le.refl _,(fun h=>nomatch h),fun _ h=>absurd h (by have:=of_decide_eq_false hj;omega)⟩⟩,?_⟩
 ·have hj:(i:Int)<=j:=of_decide_eq_true hj
  obtain ⟨x1,y1,p1,fL,fM,fK,g1,r1⟩:=hs.get (k:=a) (by omega)
  obtain ⟨x2,y2,p2,gT,gU,gQ,g2,r2⟩:=hs.get (k:=i) (by omega)
  refine ⟨⟨by omega,by omega⟩,x1,y1,p1,fL,fM,fK,g1,⟨by omega,by omega⟩,x2,y2,p2,gT,gU,gQ,g2,fun W1 k1=>(bU (r1.le k1) (r2.le k1)).mono ?_⟩
  rintro r W2 k2 rfl
  rw [ma]
  exact ⟨_,rfl,_,by and_intros<;>rfl,k1.trans k2,fun h=>⟨by omega,by simpa using h⟩,fun h _=>by simpa using h⟩
 rintro t V5 l5 ⟨-,t1,t2⟩
 refine ⟨rfl,fun ht=>⟨(((i+1:Nat):Int),(j:Int),us),by have:=(t1 ht).1;dsimp only;omega,by and_intros<;>rfl,i+1,rfl,by omega,l2.trans l5,pt.Lm (t1 ht).1 (t1 ht).2⟩,fun ht=>?_⟩
 have hI:i<=j->¬((fun x=>¬dv p x<0)) (m.getD i bq):=t2 ht
 refine ⟨fun z V'=>∃j':Nat,z=(j':Int)/\j'<=j/\V5.Le V'/\PT (fun x=>¬dv p x<0) bq m a b i j',fun z=>z.toNat,⟨(j:Int),by and_intros<;>rfl,j,rfl,Nat.le_refl _,View.Le.refl _,pt⟩,?_⟩
 rintro _ V6 l6 ⟨j',rfl,hjj,-,zT⟩
 clear t1 t2 q2 q3 pt
 have hI:i<=j'->¬((fun x=>¬dv p x<0)) (m.getD i bq):=fun h=>hI (by omega)
 replace hs:=hs.le (l5.trans l6)
 have q2:=zT.wQ
 have q3:=zT.hj
 have w2:1<=j'->i64.wrap ((j':Int)-1)=((j'-1:Nat):Int):=fun h1=>by rw [ar (by omega)];omega
 rw [Int.toNat_natCast]
 refine ⟨rfl,fun z V'=>V6.Le V'/\(z=true->i<=j'/\¬¬dv p (m.getD j' bq)<0)/\(z=false->i<=j'->¬dv p (m.getD j' bq)<0),⟨fun hj=>?_,fun hj=>⟨false,by and_intros<;>rfl,View.Le.refl _,(fun h=>nomatch h),fun _ h=>absurd h (by have:=of_decide_eq_false hj;omega)⟩⟩,?_⟩
 ·have hj:(i:Int)<=j':=of_decide_eq_true hj
  obtain ⟨x1,y1,p1,fL,fM,fK,g1,r1⟩:=hs.get (k:=a) (by omega)
  obtain ⟨x2,y2,p2,gT,gU,gQ,g2,r2⟩:=hs.get (k:=j') (by omega)
  refine ⟨⟨by omega,by omega⟩,x1,y1,p1,fL,fM,fK,g1,⟨by omega,by omega⟩,x2,y2,p2,gT,gU,gQ,g2,fun W1 k1=>(bU (r1.le k1) (r2.le k1)).mono ?_⟩
  rintro r W2 k2 rfl
  rw [ma]
  exact ⟨_,rfl,_,by and_intros<;>rfl,k1.trans k2,fun h=>⟨by omega,by simpa using h⟩,fun h _=>by simpa using h⟩
 rintro t V9 l9 ⟨-,t1,t2⟩
 refine ⟨rfl,fun ht=>⟨((j'-1:Nat):Int),by have:=(t1 ht).1;dsimp only;omega,by have:=(t1 ht).1;and_intros<;>first|rfl|exact w2 (by omega),j'-1,rfl,by omega,l6.trans l9,zT.KZ (t1 ht).1 (t1 ht).2⟩,fun ht=>⟨fun hgt=>?_,fun hgt=>?_⟩⟩
 ·have hgt:(i:Int)>j':=of_decide_eq_true hgt
  refine fun ie l10 GD=>⟨i,rfl,q1,by omega,us,m,GD,hs.le (l9.trans l10),hseg,fun k k1 k2=>?_,fun k k1 k2=>?_⟩
  ·by_cases e:k=a
   ·rw [e,ma];exact fJ.refl _
   ·exact zT.lo k (by omega) k2
  ·exact Classical.not_not.1 (zT.up k (by omega) k2)
 ·have hgt:¬(i:Int)>j':=of_decide_eq_false hgt
  have Mw:((fun x=>¬dv p x<0)) (m.getD j' bq):=t2 ht (by omega)
  obtain ⟨MF,MC,MG⟩:=zT.swap (by omega) (by omega) (hI (by omega)) Mw
  obtain ⟨x1,y1,p1,fL,fM,fK,g1,r1⟩:=(hs.le l9).get (k:=i) (by omega)
  obtain ⟨x2,y2,p2,gT,gU,gQ,g2,r2⟩:=(hs.le l9).get (k:=j') (by omega)
  obtain ⟨s1,s2,s3⟩:=(hs.le l9).swap (i:=i) (j:=j') (by omega) (by omega) r1 r2
  exact ⟨⟨by omega,by omega⟩,x2,y2,p2,gT,gU,gQ,g2,⟨by omega,by omega⟩,x1,y1,p1,fL,fM,fK,g1,⟨by omega,by omega⟩,s1,⟨by omega,by omega⟩,s2,(((i+1:Nat):Int),((j'-1:Nat):Int),_),by dsimp only;omega,by and_intros<;>first|rfl|exact w2 (by omega),i+1,j'-1,_,rfl,rfl,s3,hseg.trans MG,MC.trans ma,MF⟩
theorem zi {V:View}{lb n c:Nat}{vs:List Value}{l:List (Rat×Rat)}(hw:V.w.heap[lb]?=some (.cells vs.toArray 108 (0,0)))(hx:V.X lb)(h:jq V n vs l){a b piv:Nat}(nE:a+1<b)(hb:b<=l.length)(hp:a<=piv)(hp':piv<b) :
  ab prog 230 #[.slice (some ⟨lb,0,none⟩) n c,.int .i64 a,.int .i64 b,.int .i64 piv,.func (.func 151) #[] #[]] V fun r V'=>∃(mid:Nat)(t:Bool),r=.tuple #[.int .i64 mid,.bool t]/\a<=mid/\mid<b/\kS lb n l a b V' fun l'=>(∀k,a<=k->k<mid->dv (l'.getD k bq) (l'.getD mid bq)<0)/\(∀k,mid<k->k<b->¬dv (l'.getD k bq) (l'.getD mid bq)<0):=by
 have nC:=h.nC
 have len:=h.len
 have wa:i64.wrap ((a:Int)+1)=((a+1:Nat):Int):=by rw [ar (by omega)];omega
 have wb:i64.wrap ((b:Int)-1)=((b-1:Nat):Int):=by rw [ar (by omega)];omega
 refine hZ lb n c vs a b piv V _ hw hx ?_
 rw [wa,wb,Int.toNat_natCast,Int.toNat_natCast]
 obtain ⟨x1,y1,p1,fL,fM,fK,g1,r1⟩:=h.get (k:=a) (by omega)
 obtain ⟨x2,y2,p2,gT,gU,gQ,g2,r2⟩:=h.get (k:=piv) (by omega)
 obtain ⟨s1,s2,s3⟩:=h.swap (i:=a) (j:=piv) (by omega) (by omega) r1 r2
 refine ⟨⟨by omega,by omega⟩,x2,y2,p2,gT,gU,gQ,g2,⟨by omega,by omega⟩,x1,y1,p1,fL,fM,fK,g1,⟨by omega,by omega⟩,s1,⟨by omega,by omega⟩,s2,?_⟩
 generalize ae (ae vs (0+a*6) [.int .i64 x2,.int .i64 y2,.pointer p2,.int .i64 gT,.int .i64 gU,.pointer gQ]) (0+piv*6) [.int .i64 x1,.int .i64 y1,.pointer p1,.int .i64 fL,.int .i64 fM,.pointer fK]=ws at *
 have m0:=HT (l:=l) (a:=a) (piv:=piv) (by omega) (by omega)
 have g0:h_ bq l (jn bq l a piv) a b:=h_.jn (Nat.le_refl _) (by omega) hp hp' hb
 generalize jn bq l a piv=l0 at *
 generalize hpv:l.getD piv bq=p at *
 have Yh:l0.length=l.length:=g0.len
 clear g1 g2 r1 r2 s1 s2
 have wI:∀i:Nat,i<100->i64.wrap ((i:Int)+1)=((i+1:Nat):Int):=fun i hi=>by rw [ar (by omega)];omega
 have hseg:=g0
 have ma:=m0
 have s3:=s3
 generalize l0=m at *
 generalize ws=us at *
 have ml:m.length=l.length:=hseg.len
 refine ⟨fun z V'=>∃i:Nat,z=(i:Int)/\V.Le V'/\PT (fun x=>dv x p<0) bq m a b i (b-1),fun z=>(b-z).toNat,⟨((a+1:Nat):Int),by and_intros<;>rfl,a+1,rfl,View.Le.refl _,PT.start nE⟩,?_⟩
 rintro _ V2 l2 ⟨i,rfl,-,pt⟩
 have hs:=s3.le l2
 have q1:=pt.hi
 have q2:=pt.wQ
 have q3:=pt.hj
 have w1:=wI i (by omega)
 obtain ⟨j,hj1⟩:∃j,j=b-1:=⟨_,rfl⟩
 rw [←hj1] at pt q2 q3 ⊢
 rw [w1,Int.toNat_natCast]
 refine ⟨rfl,fun z V'=>V2.Le V'/\(z=true->i<=j/\dv (m.getD i bq) p<0)/\(z=false->i<=j->¬dv (m.getD i bq) p<0),⟨fun hj=>?_,fun hj=>⟨false,by and_intros<;>rfl,View.Le.refl _,(fun h=>nomatch h),fun _ h=>absurd h (by have:=of_decide_eq_false hj;omega)⟩⟩,?_⟩
 ·have hj:(i:Int)<=j:=of_decide_eq_true hj
  obtain ⟨x1,y1,p1,fL,fM,fK,g1,r1⟩:=hs.get (k:=i) (by omega)
  obtain ⟨x2,y2,p2,gT,gU,gQ,g2,r2⟩:=hs.get (k:=a) (by omega)
  refine ⟨⟨by omega,by omega⟩,x1,y1,p1,fL,fM,fK,g1,⟨by omega,by omega⟩,x2,y2,p2,gT,gU,gQ,g2,fun W1 k1=>(bU (r1.le k1) (r2.le k1)).mono ?_⟩
  rintro r W2 k2 rfl
  rw [ma]
  exact ⟨_,rfl,_,by and_intros<;>rfl,k1.trans k2,fun h=>⟨by omega,of_decide_eq_true h⟩,fun h _=>of_decide_eq_false h⟩
 rintro t V5 l5 ⟨-,t1,t2⟩
 refine ⟨rfl,fun ht=>⟨((i+1:Nat):Int),by have:=(t1 ht).1;dsimp only;omega,by and_intros<;>rfl,i+1,rfl,l2.trans l5,pt.Lm (t1 ht).1 (t1 ht).2⟩,fun ht=>?_⟩
 have hI:i<=j->¬((fun x=>dv x p<0)) (m.getD i bq):=t2 ht
 refine ⟨fun z V'=>∃j':Nat,z=(j':Int)/\j'<=j/\V5.Le V'/\PT (fun x=>dv x p<0) bq m a b i j',fun z=>z.toNat,⟨(j:Int),by and_intros<;>rfl,j,rfl,Nat.le_refl _,View.Le.refl _,pt⟩,?_⟩
 rintro _ V6 l6 ⟨j',rfl,hjj,-,zT⟩
 clear t1 t2 q2 q3 pt
 have hI:i<=j'->¬((fun x=>dv x p<0)) (m.getD i bq):=fun h=>hI (by omega)
 replace hs:=hs.le (l5.trans l6)
 have q2:=zT.wQ
 have q3:=zT.hj
 have w2:1<=j'->i64.wrap ((j':Int)-1)=((j'-1:Nat):Int):=fun h1=>by rw [ar (by omega)];omega
 rw [Int.toNat_natCast]
 refine ⟨rfl,fun z V'=>V6.Le V'/\(z=true->i<=j'/\¬dv (m.getD j' bq) p<0)/\(z=false->i<=j'->¬¬dv (m.getD j' bq) p<0),⟨fun hj=>?_,fun hj=>⟨false,by and_intros<;>rfl,View.Le.refl _,(fun h=>nomatch h),fun _ h=>absurd h (by have:=of_decide_eq_false hj;omega)⟩⟩,?_⟩
 ·have hj:(i:Int)<=j':=of_decide_eq_true hj
  obtain ⟨x1,y1,p1,fL,fM,fK,g1,r1⟩:=hs.get (k:=j') (by omega)
  obtain ⟨x2,y2,p2,gT,gU,gQ,g2,r2⟩:=hs.get (k:=a) (by omega)
  refine ⟨⟨by omega,by omega⟩,x1,y1,p1,fL,fM,fK,g1,⟨by omega,by omega⟩,x2,y2,p2,gT,gU,gQ,g2,fun W1 k1=>(bU (r1.le k1) (r2.le k1)).mono ?_⟩
  rintro r W2 k2 rfl
  rw [ma]
  exact ⟨_,rfl,_,by and_intros<;>rfl,k1.trans k2,fun h=>⟨by omega,by simpa using h⟩,fun h _=>by simpa using h⟩
 rintro t V9 l9 ⟨-,t1,t2⟩
 refine ⟨rfl,fun ht=>⟨((j'-1:Nat):Int),by have:=(t1 ht).1;dsimp only;omega,by have:=(t1 ht).1;and_intros<;>first|rfl|exact w2 (by omega),j'-1,rfl,by omega,l6.trans l9,zT.KZ (t1 ht).1 (t1 ht).2⟩,fun ht=>⟨fun hgt=>?_,fun hgt=>?_⟩⟩
 ·have hgt:(i:Int)>j':=of_decide_eq_true hgt
  have S0:PT (fun x=>dv x (m.getD a bq)<0) bq m a b i j':=by rw [ma];exact zT
  obtain ⟨f1,f2,f3,f4,f5⟩:=S0.fin fJ (by omega) (by omega)
  obtain ⟨x1,y1,p1,fL,fM,fK,g1,r1⟩:=(hs.le l9).get (k:=j') (by omega)
  obtain ⟨x2,y2,p2,gT,gU,gQ,g2,r2⟩:=(hs.le l9).get (k:=a) (by omega)
  obtain ⟨s1,s2,s3⟩:=(hs.le l9).swap (i:=j') (j:=a) (by omega) (by omega) r1 r2
  exact ⟨⟨by omega,by omega⟩,x2,y2,p2,gT,gU,gQ,g2,⟨by omega,by omega⟩,x1,y1,p1,fL,fM,fK,g1,⟨by omega,by omega⟩,s1,⟨by omega,by omega⟩,s2,fun ie l10 GD=>⟨j',_,rfl,f2,f3,_,_,GD,s3.le l10,hseg.trans f1,f4,f5⟩⟩
 have hgt:¬(i:Int)>j':=of_decide_eq_false hgt
 have Mw:((fun x=>dv x p<0)) (m.getD j' bq):=Classical.not_not.1 (t2 ht (by omega))
 obtain ⟨MF,MC,MG⟩:=zT.swap (by omega) (by omega) (hI (by omega)) Mw
 obtain ⟨x1,y1,p1,fL,fM,fK,g1,r1⟩:=(hs.le l9).get (k:=i) (by omega)
 obtain ⟨x2,y2,p2,gT,gU,gQ,g2,r2⟩:=(hs.le l9).get (k:=j') (by omega)
 obtain ⟨s1,s2,s4⟩:=(hs.le l9).swap (i:=i) (j:=j') (by omega) (by omega) r1 r2
 rw [w2 (by omega)]
 refine ⟨⟨by omega,by omega⟩,x2,y2,p2,gT,gU,gQ,g2,⟨by omega,by omega⟩,x1,y1,p1,fL,fM,fK,g1,⟨by omega,by omega⟩,s1,⟨by omega,by omega⟩,s2,?_⟩
 generalize ae (ae us (0+i*6) [.int .i64 x2,.int .i64 y2,.pointer p2,.int .i64 gT,.int .i64 gU,.pointer gQ]) (0+j'*6) [.int .i64 x1,.int .i64 y1,.pointer p1,.int .i64 fL,.int .i64 fM,.pointer fK]=ws at *
 have g5:h_ bq l (jn bq m i j') a b:=hseg.trans MG
 have m5:=MC.trans ma
 generalize jn bq m i j'=XU at *
 clear g1 g2 r1 r2 s1 s2 hs t1 t2 hI MG MC ml s3 hseg ma
 obtain ⟨i',hi'⟩:∃i',i'=i:=⟨_,rfl⟩
 obtain ⟨P4,NC⟩:∃P4,P4=j':=⟨_,rfl⟩
 rw [←hi',←NC] at MF ⊢
 clear zT Mw hj1 hi' NC hgt q1 q2 q3 w1 w2 hjj
 refine ⟨fun z V'=>∃(i j:Nat)(m:List (Rat×Rat)),z.1=(i:Int)/\z.2.1=(j:Int)/\jq V' n z.2.2 m/\h_ bq l m a b/\m.getD a bq=p/\PT (fun x=>dv x p<0) bq m a b i j,fun z=>(b-z.1).toNat,⟨(((i'+1:Nat):Int),((P4-1:Nat):Int),ws),by and_intros<;>rfl,i'+1,P4-1,XU,rfl,rfl,s4,g5,m5,MF⟩,?_⟩
 rintro ⟨z,z',us⟩ V1 l1 ⟨i0,j,m,e,e',hs1,hseg,ma,SZ⟩
 dsimp only at e e' hs1
 subst e e'
 have ml:m.length=l.length:=hseg.len
 refine ⟨rfl,fun z V'=>∃i:Nat,z=((i:Int),(j:Int),us)/\i0<=i/\V1.Le V'/\PT (fun x=>dv x p<0) bq m a b i j,fun z=>(b-z.1).toNat,⟨((i0:Int),(j:Int),us),by and_intros<;>rfl,i0,rfl,Nat.le_refl _,View.Le.refl _,SZ⟩,?_⟩
 rintro _ V2 l2 ⟨i,rfl,hi0,-,pt⟩
 dsimp only
 have hs:=hs1.le l2
 have q1:=pt.hi
 have q2:=pt.wQ
 have q3:=pt.hj
 have w1:i64.wrap ((i:Int)+1)=((i+1:Nat):Int):=by rw [ar (by omega)];omega
 rw [w1,Int.toNat_natCast]
 refine ⟨rfl,fun z V'=>V2.Le V'/\(z=true->i<=j/\dv (m.getD i bq) p<0)/\(z=false->i<=j->¬dv (m.getD i bq) p<0),⟨fun hj=>?_,fun hj=>⟨false,by and_intros<;>rfl,View.Le.refl _,(fun h=>nomatch h),fun _ h=>absurd h (by have:=of_decide_eq_false hj;omega)⟩⟩,?_⟩
 ·have hj:(i:Int)<=j:=of_decide_eq_true hj
  obtain ⟨x1,y1,p1,fL,fM,fK,g1,r1⟩:=hs.get (k:=i) (by omega)
  obtain ⟨x2,y2,p2,gT,gU,gQ,g2,r2⟩:=hs.get (k:=a) (by omega)
  refine ⟨⟨by omega,by omega⟩,x1,y1,p1,fL,fM,fK,g1,⟨by omega,by omega⟩,x2,y2,p2,gT,gU,gQ,g2,fun W1 k1=>(bU (r1.le k1) (r2.le k1)).mono ?_⟩
  rintro r W2 k2 rfl
  rw [ma]
  exact ⟨_,rfl,_,by and_intros<;>rfl,k1.trans k2,fun h=>⟨by omega,of_decide_eq_true h⟩,fun h _=>of_decide_eq_false h⟩
 rintro t V5 l5 ⟨-,t1,t2⟩
 refine ⟨rfl,fun ht=>⟨(((i+1:Nat):Int),(j:Int),us),by have:=(t1 ht).1;dsimp only;omega,by and_intros<;>rfl,i+1,rfl,by omega,l2.trans l5,pt.Lm (t1 ht).1 (t1 ht).2⟩,fun ht=>?_⟩
 have hI:i<=j->¬((fun x=>dv x p<0)) (m.getD i bq):=t2 ht
 refine ⟨fun z V'=>∃j':Nat,z=(j':Int)/\j'<=j/\V5.Le V'/\PT (fun x=>dv x p<0) bq m a b i j',fun z=>z.toNat,⟨(j:Int),by and_intros<;>rfl,j,rfl,Nat.le_refl _,View.Le.refl _,pt⟩,?_⟩
 rintro _ V6 l6 ⟨j',rfl,hjj,-,zT⟩
 clear t1 t2 q2 q3 pt
 have hI:i<=j'->¬((fun x=>dv x p<0)) (m.getD i bq):=fun h=>hI (by omega)
 replace hs:=hs.le (l5.trans l6)
 have q2:=zT.wQ
 have q3:=zT.hj
 have w2:1<=j'->i64.wrap ((j':Int)-1)=((j'-1:Nat):Int):=fun h1=>by rw [ar (by omega)];omega
 rw [Int.toNat_natCast]
 refine ⟨rfl,fun z V'=>V6.Le V'/\(z=true->i<=j'/\¬dv (m.getD j' bq) p<0)/\(z=false->i<=j'->¬¬dv (m.getD j' bq) p<0),⟨fun hj=>?_,fun hj=>⟨false,by and_intros<;>rfl,View.Le.refl _,(fun h=>nomatch h),fun _ h=>absurd h (by have:=of_decide_eq_false hj;omega)⟩⟩,?_⟩
 ·have hj:(i:Int)<=j':=of_decide_eq_true hj
  obtain ⟨x1,y1,p1,fL,fM,fK,g1,r1⟩:=hs.get (k:=j') (by omega)
  obtain ⟨x2,y2,p2,gT,gU,gQ,g2,r2⟩:=hs.get (k:=a) (by omega)
  refine ⟨⟨by omega,by omega⟩,x1,y1,p1,fL,fM,fK,g1,⟨by omega,by omega⟩,x2,y2,p2,gT,gU,gQ,g2,fun W1 k1=>(bU (r1.le k1) (r2.le k1)).mono ?_⟩
  rintro r W2 k2 rfl
  rw [ma]
  exact ⟨_,rfl,_,by and_intros<;>rfl,k1.trans k2,fun h=>⟨by omega,by simpa using h⟩,fun h _=>by simpa using h⟩
 rintro t V9 l9 ⟨-,t1,t2⟩
 refine ⟨rfl,fun ht=>⟨((j'-1:Nat):Int),by have:=(t1 ht).1;dsimp only;omega,by have:=(t1 ht).1;and_intros<;>first|rfl|exact w2 (by omega),j'-1,rfl,by omega,l6.trans l9,zT.KZ (t1 ht).1 (t1 ht).2⟩,fun ht=>⟨fun hgt=>?_,fun hgt=>?_⟩⟩
 ·have hgt:(i:Int)>j':=of_decide_eq_true hgt
  have S0:PT (fun x=>dv x (m.getD a bq)<0) bq m a b i j':=by rw [ma];exact zT
  obtain ⟨f1,f2,f3,f4,f5⟩:=S0.fin fJ (by omega) (by omega)
  obtain ⟨x1,y1,p1,fL,fM,fK,g1,r1⟩:=(hs.le l9).get (k:=j') (by omega)
  obtain ⟨x2,y2,p2,gT,gU,gQ,g2,r2⟩:=(hs.le l9).get (k:=a) (by omega)
  obtain ⟨s1,s2,s3⟩:=(hs.le l9).swap (i:=j') (j:=a) (by omega) (by omega) r1 r2
  exact ⟨⟨by omega,by omega⟩,x2,y2,p2,gT,gU,gQ,g2,⟨by omega,by omega⟩,x1,y1,p1,fL,fM,fK,g1,⟨by omega,by omega⟩,s1,⟨by omega,by omega⟩,s2,fun ie l10 GD=>⟨j',_,rfl,f2,f3,_,_,GD,s3.le l10,hseg.trans f1,f4,f5⟩⟩
 ·have hgt:¬(i:Int)>j':=of_decide_eq_false hgt
  have Mw:((fun x=>dv x p<0)) (m.getD j' bq):=Classical.not_not.1 (t2 ht (by omega))
  obtain ⟨MF,MC,MG⟩:=zT.swap (by omega) (by omega) (hI (by omega)) Mw
  obtain ⟨x1,y1,p1,fL,fM,fK,g1,r1⟩:=(hs.le l9).get (k:=i) (by omega)
  obtain ⟨x2,y2,p2,gT,gU,gQ,g2,r2⟩:=(hs.le l9).get (k:=j') (by omega)
  obtain ⟨s1,s2,s3⟩:=(hs.le l9).swap (i:=i) (j:=j') (by omega) (by omega) r1 r2
  exact ⟨⟨by omega,by omega⟩,x2,y2,p2,gT,gU,gQ,g2,⟨by omega,by omega⟩,x1,y1,p1,fL,fM,fK,g1,⟨by omega,by omega⟩,s1,⟨by omega,by omega⟩,s2,(((i+1:Nat):Int),((j'-1:Nat):Int),_),by dsimp only;omega,by and_intros<;>first|rfl|exact w2 (by omega),i+1,j'-1,_,rfl,rfl,s3,hseg.trans MG,MC.trans ma,MF⟩
theorem CX:∀(N:Nat) {V:View} {lb n c:Nat} {vs:List Value} {l:List (Rat×Rat)} (_:V.w.heap[lb]?=some (.cells vs.toArray 108 (0,0))) (_:V.X lb) (_:jq V n vs l) {a b:Nat} {El:Int} (_:a<=b) (_:b<=l.length) (_:b-a<=N) (_:0<=El) (_:El<=100)
  (_:0<a->∀k,a<=k->k<b->¬dv (l.getD k bq) (l.getD (a-1) bq)<0),
  ab prog 187 #[.slice (some ⟨lb,0,none⟩) n c,.int .i64 a,.int .i64 b,.int .i64 El,.func (.func 151) #[] #[]] V fun r V'=>r=.tuple #[]/\kS lb n l a b V' fun l'=>pG dv bq l' a b:=by
 intro N
 induction N using Nat.strongRecOn with
 | ind N ih=>
 intro V lb n c vs l hw hx h a b El nE hb hN Qc Qd hpre
 have nC:=h.nC
 have len:=h.len
 refine dN lb n c vs a b El V _ hw hx ⟨fun z V'=>∃(a' b':Nat)(m:List (Rat×Rat)),z.1=(a':Int)/\z.2.1=(b':Int)/\0<=z.2.2.1/\z.2.2.1<=100/\jq V' n z.2.2.2.2.2 m/\PQ dv bq l m a b a' b',fun z=>(z.2.1-z.1).toNat,
  ⟨((a:Int),(b:Int),El,true,true,vs),by and_intros<;>rfl,a,b,l,rfl,rfl,Qc,Qd,h,PQ.start nE hpre⟩,?_⟩
 rintro ⟨z1,z2,El,wb,wp,us⟩ V1 l1 ⟨a',b',m,e1,e2,Qc,Qd,hs,pq⟩
 dsimp only at e1 e2 Qc Qd hs
 subst e1 e2
 dsimp only
 have q1:=pq.ha
 have q2:=pq.nE
 have q3:=pq.hb
 have ml:m.length=l.length:=pq.JA.len
 have w0:i64.wrap ((b':Int)-a')=((b'-a':Nat):Int):=by rw [ar (by omega)];omega
 rw [w0]
 refine ⟨rfl,fun _ V2 l2 bk e2 h2=>(kt (V:=V2.au [bk]) e2 ⟨by simp,h2⟩ (hs.le l2) q2 (by omega)).mono ?_,fun h12=>⟨fun _ V5 l5 bk e5 h5=>(A0 (V:=V5.au [bk]) e5 ⟨by simp,h5⟩ (hs.le l5) (a:=a') (b:=b') (by have:=of_decide_eq_false h12;omega) (by omega)).mono ?_,fun hl0=>?_⟩⟩
 ·rintro r V3 l3 ⟨rfl,ws,m',e3,hs3,TB,QI⟩
  obtain ⟨f1,f2⟩:=pq.fin TB QI
  exact ⟨rfl,ws,e3,fun V4 l4 hw4=>⟨rfl,ws,m',hw4,hs3.le fun b o h=>l4 b o h,f1,f2⟩⟩
 ·rintro r V6 l6 ⟨rfl,ws,m',e6,hs6,Yd,WL⟩
  obtain ⟨f1,f2⟩:=pq.fin Yd WL
  exact ⟨rfl,ws,e6,fun V7 l7 hw7=>⟨rfl,ws,m',hw7,hs6.le fun b o h=>l7 b o h,f1,f2⟩⟩
 have h12:12<b'-a':=by have:=of_decide_eq_false h12;omega
 have hl0:¬El=0:=by simpa using hl0
 refine ⟨fun z V'=>∃m2:List (Rat×Rat),0<=z.1/\z.1<=100/\jq V' n z.2 m2/\PQ dv bq l m2 a b a' b',⟨fun _ V8 l8 bk e8 h8=>(qU (V:=V8.au [bk]) e8 ⟨by simp,h8⟩ (hs.le l8) (a:=a') (b:=b') (by omega) (by omega)).mono ?_,fun _=>⟨(El,us),by and_intros<;>rfl,m,Qc,Qd,hs,pq⟩⟩,?_⟩
 ·rintro r V9 l9 ⟨rfl,ws,m',e9,XF,Ye,-⟩
  exact ⟨rfl,ws,e9,(El-1,ws),by and_intros<;>first|rfl|exact ar (by omega),m',by dsimp only;omega,by dsimp only;omega,XF.le (gP _),pq.change Ye⟩
 clear hs pq ml l1
 rintro ⟨Ly,us⟩ ie l10 ⟨m,Fb,Fc,hs,pq⟩
 dsimp only at Fb Fc hs
 dsimp only
 have ml:m.length=l.length:=pq.JA.len
 refine ⟨rfl,fun gV bI bk e11 h11=>(ui (V:=gV.au [bk]) e11 ⟨by simp,h11⟩ (hs.le bI) (a:=a') (b:=b') (by omega) (by omega)).mono ?_⟩
 rintro r lO cg ⟨x,t,rfl,x0,x1,e12⟩
 have Li:jq lO.shut n us m:=hs.le fun b o h=>cg b o (bI b o h)
 refine ⟨_,_,rfl,us,e12,fun z V'=>∃(p:Nat)(m2:List (Rat×Rat)),z.1=(p:Int)/\a'<=p/\p<b'/\jq V' n z.2.2 m2/\PQ dv bq l m2 a b a' b',⟨fun _ me cp bk e13 Mu=>(sN (V:=me.au [bk]) e13 ⟨by simp,Mu⟩ (Li.le cp) (a:=a') (b:=b') (by omega) (by omega)).mono ?_,fun _=>⟨((x:Int),t,us),by and_intros<;>rfl,x,m,rfl,x0,x1,Li,pq⟩⟩,?_⟩
 ·rintro r pC dz ⟨rfl,ws,m',e14,Sf,Tx,-⟩
  have v1:i64.wrap ((b':Int)-1)=((b'-1:Nat):Int):=by rw [ar (by omega)];omega
  have v2:i64.wrap ((x:Int)-a')=((x-a':Nat):Int):=by rw [ar (by omega)];omega
  have v3:i64.wrap (((b'-1:Nat):Int)-((x-a':Nat):Int))=((b'-1-(x-a'):Nat):Int):=by rw [ar (by omega)];omega
  rw [v1,v2,v3]
  exact ⟨rfl,ws,e14,(((b'-1-(x-a'):Nat):Int),1,ws),by and_intros<;>rfl,b'-1-(x-a'),m',rfl,by omega,by omega,Sf.le (gP _),pq.change Tx⟩
 clear hs pq ml Li e12 cg bI l10
 rintro ⟨pz,t,us⟩ nh dm ⟨p,m,e,p0,p1,hs,pq⟩
 dsimp only at e hs
 subst e
 dsimp only
 have ml:m.length=l.length:=pq.JA.len
 refine ⟨rfl,fun _ V'=>nh.Le V',⟨fun _=>⟨fun _=>⟨_,by and_intros<;>rfl,View.Le.refl _⟩,fun _=>⟨_,by and_intros<;>rfl,View.Le.refl _⟩⟩,fun _=>⟨_,by and_intros<;>rfl,View.Le.refl _⟩⟩,?_⟩
 rintro t2 mr cS -
 refine ⟨rfl,fun z V'=>z=us/\jq V' n us m,⟨fun _ nN cP bk e17 RG=>(nO (V:=nN.au [bk]) e17 ⟨by simp,RG⟩ (hs.le (cS.trans cP)) (a:=a') (b:=b') (by omega) (by omega)).mono ?_,fun _=>⟨us,by and_intros<;>rfl,rfl,hs.le cS⟩⟩,?_⟩
 ·rintro r pH df ⟨t3,rfl,NK,e18,QG⟩
  refine ⟨_,rfl,us,e18,fun ht rP dA Sq=>?_,fun _=>⟨us,by and_intros<;>rfl,rfl,NK.le (gP _)⟩⟩
  obtain ⟨f1,f2⟩:=pq.fin (.refl _ _ _) (QG ht)
  exact ⟨rfl,us,m,Sq,NK.le fun b o h=>dA b o h,f1,f2⟩
 rintro z yN gZ ⟨rfl,I0⟩
 refine ⟨rfl,fun z V'=>yN.Le V'/\(z=true->0<a'/\¬dv (m.getD (a'-1) bq) (m.getD p bq)<0),⟨fun h0=>?_,fun _=>⟨false,by and_intros<;>rfl,View.Le.refl _,(fun h=>nomatch h)⟩⟩,?_⟩
 ·have h0:(a':Int)>0:=of_decide_eq_true h0
  have v1:i64.wrap ((a':Int)-1)=((a'-1:Nat):Int):=by rw [ar (by omega)];omega
  rw [v1,Int.toNat_natCast,Int.toNat_natCast]
  obtain ⟨x1,y1,p1,fL,fM,fK,g1,r1⟩:=I0.get (k:=a'-1) (by omega)
  obtain ⟨x2,y2,p2,gT,gU,gQ,g2,r2⟩:=I0.get (k:=p) (by omega)
  refine ⟨⟨by omega,by omega⟩,x1,y1,p1,fL,fM,fK,g1,⟨by omega,by omega⟩,x2,y2,p2,gT,gU,gQ,g2,fun sJ eo=>(bU (r1.le eo) (r2.le eo)).mono ?_⟩
  rintro r wB jE rfl
  exact ⟨_,rfl,_,by and_intros<;>rfl,eo.trans jE,fun h=>⟨by omega,by simpa using h⟩⟩
 rintro t4 tD fa ⟨-,XH⟩
 refine ⟨rfl,fun ht CD oe bk e24 P1=>(pN (V:=CD.au [bk]) e24 ⟨by simp,P1⟩ (I0.le fun b o h=>oe b o (fa b o h)) (a:=a') (b:=b') (piv:=p) (by omega) (by omega) p0 p1).mono ?_,fun ht FR oN bk e26 P2=>(zi (V:=FR.au [bk]) e26 ⟨by simp,P2⟩ (I0.le fun b o h=>oN b o (fa b o h)) (a:=a') (b:=b') (piv:=p) (by omega) (by omega) p0 p1).mono ?_⟩
 ·rintro r D3 gE ⟨mid,rfl,m0,m1,ws,m',e25,Sg,Ty,f1,f2⟩
  obtain ⟨g0,g1⟩:=XH ht
  exact ⟨_,rfl,ws,e25,((mid:Int),(b':Int),Ly,wb,wp,ws),by dsimp only;omega,by and_intros<;>rfl,mid,b',m',rfl,rfl,Fb,Fc,Sg.le (gP _),pq.WW fJ g0 m0 m1 g1 Ty f1 f2⟩
 ·rintro r Il kC ⟨mid,t5,rfl,m0,m1,ws,m',e27,NL,Tz,f1,f2⟩
  have Qi:=pq.change Tz
  have ZA:m'.length=l.length:=Qi.JA.len
  have v1:i64.wrap ((mid:Int)-a')=((mid-a':Nat):Int):=by rw [ar (by omega)];omega
  have v2:i64.wrap ((b':Int)-mid)=((b'-mid:Nat):Int):=by rw [ar (by omega)];omega
  have v3:i64.wrap ((mid:Int)+1)=((mid+1:Nat):Int):=by rw [ar (by omega)];omega
  refine ⟨_,_,rfl,ws,e27,by decide,?_⟩
  rw [v1,v2,v3]
  refine ⟨fun _ FT uU bk e28 Xf=>(ih (mid-a') (by omega) (V:=FT.au [bk]) e28 ⟨by simp,Xf⟩ (NL.le fun b o h=>uU b o h) (a:=a') (b:=mid) m0 (by omega) (Nat.le_refl _) Fb Fc (fun h0 k k1 k2=>Qi.pre h0 k k1 (by omega))).mono ?_,fun _ FU uV bk e30 Xg=>(ih (b'-(mid+1)) (by omega) (V:=FU.au [bk]) e30 ⟨by simp,Xg⟩ (NL.le fun b o h=>uV b o h) (a:=mid+1) (b:=b') (by omega) (by omega) (Nat.le_refl _) Fb Fc (fun _ k k1 k2=>f2 k (by omega) k2)).mono ?_⟩
  ·rintro r KK rz ⟨rfl,Pm,m2,e29,Si,TA,QH⟩
   exact ⟨rfl,Pm,e29,(((mid+1:Nat):Int),(b':Int),Ly,_,t5,Pm),by dsimp only;omega,by and_intros<;>rfl,mid+1,b',m2,rfl,rfl,Fb,Fc,Si.le (gP _),Qi.left fJ m0 m1 f1 f2 TA QH⟩
  ·rintro r MT CF ⟨rfl,Pm,m2,e31,Sj,TC,QJ⟩
   exact ⟨rfl,Pm,e31,((a':Int),(mid:Int),Ly,_,t5,Pm),by dsimp only;omega,by and_intros<;>rfl,a',mid,m2,rfl,rfl,Fb,Fc,Sj.le (gP _),Qi.right fJ m0 m1 f1 f2 TC QJ⟩
theorem AW {V:View}{lb n c:Nat}{vs:List Value}{l:List (Rat×Rat)}(hw:V.w.heap[lb]?=some (.cells vs.toArray 108 (0,0)))(hx:V.X lb)(h:jq V n vs l) :
  ab prog 150 #[.slice (some ⟨lb,0,none⟩) n c,.func (.func 151) #[] #[]] V fun r V'=>r=.tuple #[]/\∃vs' l',V'.w.heap[lb]?=some (.cells vs'.toArray 108 (0,0))/\jq V' n vs' l'/\l'.Perm l/\l'.Pairwise fun x y=>¬dv y x<0:=by
 have nC:=h.nC
 have len:=h.len
 have w:u64.wrap (n:Int)=n:=aL (by omega)
 refine gS lb n c vs V _ hw hx ?_
 rw [w]
 refine fun V1 l1=>(kU n (by omega)).mono ?_
 rintro r V2 l2 rfl
 have hbl:bj n<=8:=gj.2 (by omega)
 refine ⟨_,rfl,fun V3 l3 bk e3 h3=>(CX n (V:=V3.au [bk]) e3 ⟨by simp,h3⟩ (h.le fun b o h=>l3 b o (l2 b o (l1 b o h))) (a:=0) (b:=n) (El:=(bj n:Int)) (by omega) (by omega) (by omega) (by omega) (by omega) (fun h=>absurd h (by omega))).mono ?_⟩
 rintro r V4 l4 ⟨rfl,vs',l',e4,hs4,sg,AE⟩
 refine ⟨rfl,vs',e4,fun V5 l5 Ss=>⟨rfl,vs',l',Ss,hs4.le fun b o h=>l5 b o h,sg.perm,?_⟩⟩
 have sl:=sg.len
 refine List.pairwise_iff_getElem.2 fun i j hi hj wQ=>?_
 have:=AE i j (by omega) wQ (by omega)
 rw [List.getD_eq_getElem?_getD,List.getD_eq_getElem?_getD,List.getElem?_eq_getElem hi,List.getElem?_eq_getElem hj] at this
 simp only [Option.getD_some] at this
 exact this
theorem sK {V:View}:ab prog 150 #[.slice none 0 0,.func (.func 151) #[] #[]] V fun r V'=>r=.tuple #[]:=by
 have ins:∀{W:View},ab prog 223 #[.slice none 0 0,.int .i64 0,.int .i64 0,.func (.func 151) #[] #[]] W fun r V'=>r=.tuple #[]:=by
  intro W
  refine ef 0 0 W _ ⟨fun z _=>z=1,fun _=>0,⟨1,by and_intros<;>first|rfl|exact ar (by omega),rfl⟩,?_⟩
  rintro z V1 l1 rfl
  exact ⟨rfl,fun h=>absurd (of_decide_eq_true h) (by omega),fun _ V2 l2=>rfl⟩
 refine kh V _ fun V1 l1=>(kU 0 (by omega)).mono ?_
 rintro r V2 l2 rfl
 refine ⟨_,rfl,fun V3 l3=>?_⟩
 have pdq:ab prog 187 #[.slice none 0 0,.int .i64 0,.int .i64 0,.int .i64 (bj 0:Int),.func (.func 151) #[] #[]] V3 fun r V'=>r=.tuple #[]:=by
  refine f_ 0 0 _ V3 _ ⟨fun z _=>z.1=0/\z.2.1=0,fun _=>0,⟨(0,0,_,true,true),by and_intros<;>rfl,rfl,rfl⟩,?_⟩
  rintro ⟨z1,z2,z3,z4,z5⟩ V4 l4 ⟨e1,e2⟩
  dsimp only at e1 e2
  subst e1 e2
  dsimp only
  refine ⟨rfl,fun _ V5 l5=>ins.mono ?_,fun h=>absurd (of_decide_eq_false h) (by decide)⟩
  rintro r V6 l6 rfl
  exact ⟨rfl,fun V7 l7=>rfl⟩
 refine pdq.mono ?_
 rintro r V6 l6 rfl
 exact ⟨rfl,fun V7 l7=>rfl⟩
set_option maxHeartbeats 1000000 in
theorem ug {V:View}{lb n c:Nat}{vs:List Value}{l:List (Rat×Rat)}(hw:V.w.heap[lb]?=some (.cells vs.toArray 108 (0,0)))(hx:V.X lb)(h:jq V n vs l)(hc:n<=c) :
  ab prog 152 #[.slice (some ⟨lb,0,none⟩) n c,.func (.func 153) #[] #[]] V fun r V'=>∃vs',r=.slice (some ⟨lb,0,none⟩) (fq eP l).length c/\V'.w.heap[lb]?=some (.cells vs'.toArray 108 (0,0))/\Row 6 kR V' vs' (fq eP l)/\vs'.length=vs.length:=by
 have nC:=h.nC
 have len:=h.len
 have hvl:=h.row.fu (by decide)
 refine kO lb n c vs V _ hw hx ⟨fun h2 V1 l1 hw1=>?_,fun h2=>⟨fun z V'=>∃k:Nat,z=((k+1:Nat):Int)/\k+1<=n/\fq eP (l.take (k+1))=l.take (k+1),fun z=>n-z.toNat,⟨1,by and_intros<;>rfl,0,rfl,by have:=of_decide_eq_false h2;omega,A9 (by rw [List.length_take];omega)⟩,?_⟩⟩
 ·have h2:(n:Int)<2:=of_decide_eq_true h2
  have e:=A9 (e:=eP) (l:=l) (by omega)
  rw [e,←len]
  exact ⟨vs,rfl,hw1,h.row.le fun _ _ g=>kR.le g l1,rfl⟩
 have h2:¬(n:Int)<2:=of_decide_eq_false h2
 rintro z V2 l2 ⟨k,rfl,hk,hcm⟩
 have hs2:=h.le l2
 refine ⟨rfl,fun hlt=>?_,fun hlt V9 l9 Su=>?_⟩
 rotate_left
 ·have hlt:¬((k+1:Nat):Int)<n:=of_decide_eq_false hlt
  have e:l.take (k+1)=l:=List.take_of_length_le (by omega)
  rw [e] at hcm
  rw [hcm,←len]
  exact ⟨vs,rfl,Su,h.row.le fun _ _ g=>kR.le g (l2.trans l9),rfl⟩
 have hlt:((k+1:Nat):Int)<n:=of_decide_eq_true hlt
 have w1:i64.wrap (((k+1:Nat):Int)-1)=(k:Int):=by rw [ar (by omega)];omega
 have w2:i64.wrap (((k+1:Nat):Int)+1)=((k+1+1:Nat):Int):=by rw [ar (by omega)];rfl
 rw [w1,w2,Int.toNat_natCast,Int.toNat_natCast]
 obtain ⟨x1,y1,p1,fL,fM,fK,g1,r1⟩:=hs2.get (k:=k+1) (by omega)
 obtain ⟨x2,y2,p2,gT,gU,gQ,g2,r2⟩:=hs2.get (k:=k) (by omega)
 refine ⟨⟨by omega,hlt⟩,x1,y1,p1,fL,fM,fK,g1,⟨by omega,by omega⟩,x2,y2,p2,gT,gU,gQ,g2,fun V3 l3=>(Gd (r1.le l3) (r2.le l3)).mono ?_⟩
 rintro r V4 l4 rfl
 have step:=nt (e:=eP) (d:=bq) (l:=l) (k:=k) (by omega)
 refine ⟨_,rfl,fun he=>⟨⟨by omega,by omega⟩,?_⟩,fun he=>⟨((k+1+1:Nat):Int),by dsimp only;omega,by and_intros<;>rfl,k+1,rfl,by omega,?_⟩⟩
 rotate_left
 ·have he':eP (l.getD (k+1) bq) (l.getD k bq)=false:=he
  rw [step,hcm,he']
  show l.take (k+1)++[_]=_
  have hi:k+1<l.length:=by omega
  rw [show l.getD (k+1) bq=l[k+1] by rw [List.getD_eq_getElem?_getD,List.getElem?_eq_getElem hi];rfl,List.take_append_getElem hi]
 have he':eP (l.getD (k+1) bq) (l.getD k bq)=true:=he
 have oe:=l3.trans l4
 have so:∀{m:Nat},m<c->Ac 0 c m 6=m*6:=fun hm=>by unfold Ac;rw [if_neg (by omega),Nat.zero_add]
 refine ⟨fun z V'=>∃(q t:Nat)(m:List (Rat×Rat)),z.1=(q:Int)/\z.2.1=((t+1:Nat):Int)/\q<=k+1+t/\k+1+t+1<=n/\jq V' n z.2.2 m/\z.2.2.length=vs.length/\(∀i,k+1+t<=i->m.getD i bq=l.getD i bq)/\m.take q=fq eP (l.take (k+1+t+1)),fun z=>n-z.2.1.toNat,
  ⟨(((k+1:Nat):Int),1,vs),by and_intros<;>rfl,k+1,0,l,rfl,rfl,by omega,by omega,h.le (l2.trans oe),rfl,fun i _=>rfl,?_⟩,?_⟩
 ·rw [Nat.add_zero,step,he',if_pos rfl,List.append_nil,hcm]
 rintro ⟨zq,zt,us⟩ V5 l5 ⟨q,t,m,e1,e2,hq,ht,hs,I3,hm,MA⟩
 dsimp only at e1 e2 hs I3
 subst e1 e2
 dsimp only
 have ml:=hs.len
 have ZB:=hs.row.fu (by decide)
 refine ⟨rfl,fun hlt2=>?_,fun hlt2=>?_⟩
 ·have hlt2:((t+1:Nat):Int)<((n-(k+1):Nat):Int):=of_decide_eq_true hlt2
  have w3:i64.wrap (((t+1:Nat):Int)-1)=(t:Int):=by rw [ar (by omega)];omega
  have w4:i64.wrap (((t+1:Nat):Int)+1)=((t+1+1:Nat):Int):=by rw [ar (by omega)];rfl
  have w5:i64.wrap ((q:Int)+1)=((q+1:Nat):Int):=by rw [ar (by omega)];rfl
  rw [w3,w4,w5,Int.toNat_natCast,Int.toNat_natCast,Int.toNat_natCast,so (by omega)]
  obtain ⟨x1,y1,p1,fL,fM,fK,g1,r1⟩:=hs.get (k:=k+1+(t+1)) (by omega)
  obtain ⟨x2,y2,p2,gT,gU,gQ,g2,r2⟩:=hs.get (k:=k+1+t) (by omega)
  have a1:(k+1)*6+(t+1)*6=0+(k+1+(t+1))*6:=by omega
  have a2:(k+1)*6+t*6=0+(k+1+t)*6:=by omega
  rw [a1,a2]
  rw [hm _ (by omega)] at r1
  rw [hm _ (by omega)] at r2
  refine ⟨⟨by omega,hlt2⟩,x1,y1,p1,fL,fM,fK,g1,⟨by omega,by omega⟩,x2,y2,p2,gT,gU,gQ,g2,fun V6 l6=>(Gd (r1.le l6) (r2.le l6)).mono ?_⟩
  rintro r V7 l7 rfl
  have SI:=l6.trans l7
  have step2:=nt (e:=eP) (d:=bq) (l:=l) (k:=k+1+t) (by omega)
  refine ⟨_,rfl,fun hn=>⟨⟨by omega,hlt2⟩,x1,y1,p1,fL,fM,fK,g1,⟨by omega,by omega⟩,by omega,(((q+1:Nat):Int),((t+1+1:Nat):Int),_),by dsimp only;omega,by and_intros<;>rfl,q+1,t+1,m.set q (l.getD (k+1+(t+1)) bq),rfl,rfl,by omega,by omega,?_,?_,fun i hi=>?_,?_⟩,fun hn=>⟨(((q:Nat):Int),((t+1+1:Nat):Int),us),by dsimp only;omega,by and_intros<;>rfl,q,t+1,m,rfl,rfl,by omega,by omega,hs.le SI,I3,fun i hi=>hm i (by omega),?_⟩⟩
  ·refine ⟨?_,by rw [List.length_set];exact ml,by rw [List.length_set];exact hs.nC⟩
   have:=(hs.le SI).row.put (i:=q) (by omega) (by decide) (xs:=[.int .i64 x1,.int .i64 y1,.pointer p1,.int .i64 fL,.int .i64 fM,.pointer fK]) rfl (r1.le SI)
   dsimp only
   rw [Nat.zero_add]
   exact this
  ·exact (jP (vs:=us) (xs:=[.int .i64 x1,.int .i64 y1,.pointer p1,.int .i64 fL,.int .i64 fM,.pointer fK]) (o:=0+q*6) (by show 0+q*6+6<=_;omega)).trans I3
  ·rw [List.getD_eq_getElem?_getD,List.getElem?_set_ne (by omega),←List.getD_eq_getElem?_getD]
   exact hm i (by omega)
  ·have hn1:eP (l.getD (k+1+(t+1)) bq) (l.getD (k+1+t) bq)=false:=by simpa using hn
   have hn':eP (l.getD (k+1+t+1) bq) (l.getD (k+1+t) bq)=false:=hn1
   have hi:q<m.length:=by omega
   rw [show k+1+(t+1)+1=k+1+t+2 from rfl,step2,hn',←MA,if_neg (by decide)]
   rw [List.take_set,List.take_add_one,List.getElem?_eq_getElem hi,show (some m[q]).toList=[m[q]] from rfl]
   rw [List.set_append_right _ _ (by rw [List.length_take];omega),List.length_take,Nat.min_eq_left (by omega),Nat.sub_self]
   rfl
  ·have hn1:eP (l.getD (k+1+(t+1)) bq) (l.getD (k+1+t) bq)=true:=by simpa using hn
   have hn':eP (l.getD (k+1+t+1) bq) (l.getD (k+1+t) bq)=true:=hn1
   rw [show k+1+(t+1)+1=k+1+t+2 from rfl,step2,hn',if_pos rfl,List.append_nil,MA]
 ·have hlt2:¬((t+1:Nat):Int)<((n-(k+1):Nat):Int):=of_decide_eq_false hlt2
  have hl:l.take (k+1+t+1)=l:=List.take_of_length_le (by omega)
  rw [hl] at MA
  have Zv:q<n:=by
   have:=IG (e:=eP) (d:=bq) (l:=l) (k:=k) (by omega) he'
   rw [←MA,List.length_take] at this
   omega
  rw [Int.toNat_natCast,so (by omega)]
  have hz:q*6+(n-q)*6=n*6:=by rw [←Nat.add_mul];congr 1;omega
  rw [hz]
  refine ⟨⟨by omega,by omega⟩,by omega,⟨by omega,by omega⟩,fun V8 l8 hw8=>⟨_,?_,hw8,?_,?_⟩⟩
  ·rw [←MA,List.length_take,Nat.min_eq_left (by omega)]
  ·rw [←MA,List.append_assoc]
   exact (hs.row.le fun _ _ g=>kR.le g l8).IE (by omega) (by decide)
  ·simp only [List.length_append,List.length_take,List.length_drop,nM,List.length_flatten,List.map_replicate,List.sum_replicate_nat,List.length_cons,List.length_nil]
   omega
theorem oC {V:View}:ab prog 152 #[.slice none 0 0,.func (.func 153) #[] #[]] V fun r V'=>r=.slice none 0 0:=
 iB V _ ⟨fun _ V1 l1=>rfl,fun h=>absurd (of_decide_eq_false h) (by decide)⟩
def tT (n c:Nat)(l:List (Rat×Rat)):Prop:=∀(V:View)(lb:Nat)(vs:List Value),V.w.heap[lb]?=some (.cells vs.toArray 108 (0,0))->V.X lb->jq V n vs l ->
 ab prog 150 #[.slice (some ⟨lb,0,none⟩) n c,.func (.func 151) #[] #[]] V fun r V'=>r=.tuple #[]/\∃vs' l',V'.w.heap[lb]?=some (.cells vs'.toArray 108 (0,0))/\jq V' n vs' l'/\l'.Perm l/\l'.Pairwise fun x y=>¬dv y x<0
theorem HO (n c:Nat)(l:List (Rat×Rat)):tT n c l:=fun _ _ _ hw hx h=>AW hw hx h
theorem L_ (n c:Nat)(l:List (Rat×Rat))(h12:l.length<=12):tT n c l:=by
 intro V lb vs hw hx h
 have nC:=h.nC
 have len:=h.len
 have w:u64.wrap (n:Int)=n:=aL (by omega)
 refine gS lb n c vs V _ hw hx ?_
 rw [w]
 refine fun V1 l1=>(kU n (by omega)).mono ?_
 rintro r V2 l2 rfl
 have pdq:∀{W:View} {bk:Nat},W.w.heap[bk]?=some (.cells vs.toArray 108 (0,0))->W.X bk->jq W n vs l->ab prog 187 #[.slice (some ⟨bk,0,none⟩) n c,.int .i64 0,.int .i64 (n:Int),.int .i64 (bj n:Int),.func (.func 151) #[] #[]] W fun r V'=>r=.tuple #[]/\kS bk n l 0 n V' fun l'=>pG dv bq l' 0 n:=by
  intro W bk hw hx h
  refine dN bk n c vs 0 n (bj n:Int) W _ hw hx ⟨fun z V'=>z.1=0/\z.2.1=(n:Int)/\jq V' n z.2.2.2.2.2 l,fun _=>0,⟨(0,(n:Int),(bj n:Int),true,true,vs),by and_intros<;>rfl,rfl,rfl,h⟩,?_⟩
  rintro ⟨z1,z2,El,wb,wp,us⟩ V1 l1 ⟨e1,e2,hs⟩
  dsimp only at e1 e2 hs
  subst e1 e2
  dsimp only
  have w0:i64.wrap ((n:Int)-0)=(n:Int):=by rw [ar (by omega)];omega
  rw [w0]
  refine ⟨rfl,fun _ V2 l2 bk e2 h2=>(kt (V:=V2.au [bk]) e2 ⟨by simp,h2⟩ (hs.le l2) (a:=0) (b:=n) (by omega) (by omega)).mono ?_,fun h12=>by have:=of_decide_eq_false h12;omega⟩
  rintro r V3 l3 ⟨rfl,ws,m',e3,hs3,TB,QI⟩
  exact ⟨rfl,ws,e3,fun V4 l4 hw4=>⟨rfl,ws,m',hw4,hs3.le fun b o h=>l4 b o h,TB,QI⟩⟩
 refine ⟨_,rfl,fun V3 l3 bk e3 h3=>(pdq (W:=V3.au [bk]) e3 ⟨by simp,h3⟩ (h.le fun b o h=>l3 b o (l2 b o (l1 b o h)))).mono ?_⟩
 rintro r V4 l4 ⟨rfl,vs',l',e4,hs4,sg,AE⟩
 refine ⟨rfl,vs',e4,fun V5 l5 Ss=>⟨rfl,vs',l',Ss,hs4.le fun b o h=>l5 b o h,sg.perm,?_⟩⟩
 have sl:=sg.len
 refine List.pairwise_iff_getElem.2 fun i j hi hj wQ=>?_
 have:=AE i j (by omega) wQ (by omega)
 rw [List.getD_eq_getElem?_getD,List.getD_eq_getElem?_getD,List.getElem?_eq_getElem hi,List.getElem?_eq_getElem hj] at this
 simp only [Option.getD_some] at this
 exact this
theorem row_one {α:Type}{sz:Nat}{R:View->Value->α->Prop}{V:View}{xs:List Value}{a:α}(hx:xs.length=sz)(ha:R V (.agg xs.toArray) a):Row sz R V xs [a]:=by
 refine ⟨fun i hi=>?_⟩
 obtain rfl:i=0:=by simpa using hi
 exact ⟨xs,hx,ha,fun j x hj=>by rw [Nat.zero_mul,Nat.zero_add];exact hj⟩
theorem DC {α:Type}{sz:Nat}{R:View->Value->α->Prop}{V:View}{vs:List Value}{ls:List α}(h:Row sz R V vs ls){k:Nat}(hk:k<=ls.length){xs sp:List Value}{a:α}(hx:xs.length=sz)(ha:R V (.agg xs.toArray) a)(hs:0<sz) :
  Row sz R V (vs.take (k*sz)++(xs++(vs.take (ls.length*sz)).drop (k*sz))++sp) (ls.take k++a::ls.drop k):=by
 have hl:=h.fu hs
 have hks:k*sz<=ls.length*sz:=Nat.mul_le_mul_right _ hk
 have t1:(vs.take (k*sz)).length=k*sz:=by rw [List.length_take];omega
 have t2:((vs.take (ls.length*sz)).drop (k*sz)).length=ls.length*sz-k*sz:=by rw [List.length_drop,List.length_take];omega
 have a1:(ls.take k).length=k:=by rw [List.length_take];omega
 refine ⟨fun i hi=>?_⟩
 rw [List.append_assoc]
 by_cases c1:i<k
 ·have hi':i<ls.length:=by omega
  obtain ⟨ys,y1,y2,y3⟩:=h.at_ i hi'
  have e:(ls.take k++a::ls.drop k)[i]=ls[i]:=by rw [List.getElem_append_left (by omega),List.getElem_take]
  refine ⟨ys,y1,by rw [e];exact y2,fun j x hj=>?_⟩
  have hj':=(List.getElem?_eq_some_iff.1 hj).1
  have hlt:i*sz+j<k*sz:=by
   have:(i+1)*sz<=k*sz:=Nat.mul_le_mul_right _ c1
   rw [Nat.succ_mul] at this
   omega
  rw [List.getElem?_append_left (by omega),List.getElem?_take,if_pos hlt]
  exact y3 j x hj
 ·by_cases c2:i=k
  ·subst c2
   have e:(ls.take i++a::ls.drop i)[i]=a:=by
    rw [List.getElem_append_right (by omega)]
    simp [a1]
   refine ⟨xs,hx,by rw [e];exact ha,fun j x hj=>?_⟩
   have hj':=(List.getElem?_eq_some_iff.1 hj).1
   rw [List.getElem?_append_right (by omega),t1,Nat.add_sub_cancel_left,List.append_assoc,List.getElem?_append_left hj']
   exact hj
  ·have hi':i-1<ls.length:=by
    rw [List.length_append,a1,List.length_cons,List.length_drop] at hi
    omega
   obtain ⟨ys,y1,y2,y3⟩:=h.at_ (i-1) hi'
   have e:(ls.take k++a::ls.drop k)[i]=ls[i-1]:=by
    rw [List.getElem_append_right (by omega)]
    obtain ⟨m,hm⟩:∃m,i=k+(m+1):=⟨i-k-1,by omega⟩
    subst hm
    simp only [a1,Nat.add_sub_cancel_left,List.getElem_cons_succ,List.getElem_drop]
    congr 1
   refine ⟨ys,y1,by rw [e];exact y2,fun j x hj=>?_⟩
   have hj':=(List.getElem?_eq_some_iff.1 hj).1
   obtain ⟨m,hm⟩:∃m,i=k+1+m:=⟨i-k-1,by omega⟩
   subst hm
   have e1:(k+1+m)*sz=k*sz+sz+m*sz:=by rw [Nat.add_mul,Nat.add_mul,Nat.one_mul]
   have e2:(k+1+m-1)*sz=k*sz+m*sz:=by rw [show k+1+m-1=k+m by omega,Nat.add_mul]
   have:=y3 j x hj
   rw [e2] at this
   have hlt:k*sz+m*sz+j<ls.length*sz:=by
    have:(k+m+1)*sz<=ls.length*sz:=Nat.mul_le_mul_right _ (by omega)
    rw [Nat.add_mul,Nat.add_mul,Nat.one_mul] at this
    omega
   rw [List.getElem?_append_right (by omega),t1,List.append_assoc,List.getElem?_append_right (by omega),hx,List.getElem?_append_left (by omega),List.getElem?_drop,List.getElem?_take,if_pos (by omega)]
   rw [show k*sz+((k+1+m)*sz+j-k*sz-sz)=k*sz+m*sz+j by omega]
   exact this
theorem yp {α:Type}{sz:Nat}{R:View->Value->α->Prop}{V:View}{p:OA}{n:Nat}{ls:List α}(h:nV sz R V p n ls)(hs:0<sz):∃xs:List Value,V.sl p xs/\xs.length=ls.length*sz/\Row sz R V xs ls:=by
 have step:∀k,k<=ls.length->∃xs:List Value,V.sl p xs/\xs.length=k*sz/\Row sz R V xs (ls.take k):=by
  intro k
  induction k with
  | zero=>exact fun _=>⟨[],fun i v hv=>by simp at hv,by simp,by rw [List.take_zero];exact Row.nil⟩
  | succ k ih=>
   intro hk
   obtain ⟨xs,x1,x2,x3⟩:=ih (by omega)
   obtain ⟨ad,ha,ys,y1,y2,y3⟩:=h.at_ k (by omega)
   have hl:(ls.take k).length=k:=by rw [List.length_take];omega
   refine ⟨xs++ys,fun i v hv=>?_,by rw [List.length_append,x2,y1,Nat.succ_mul],?_⟩
   ·by_cases c:i<xs.length
    ·rw [List.getElem?_append_left c] at hv;exact x1 i v hv
    ·rw [List.getElem?_append_right (by omega)] at hv
     cases p with
     | none=>cases ha
     | some a=>
      obtain rfl:=Option.some.inj (show some (a.add (k*sz))=some ad from ha)
      have:=y3 _ v hv
      rw [tW,x2] at this
      rw [show k*sz+(i-k*sz)=i by omega] at this
      exact ⟨a,rfl,this⟩
   ·have:=x3.snoc (sp:=[]) y1 y2 hs
    rw [hl,List.append_nil,List.take_of_length_le (by omega)] at this
    rw [List.take_add_one,List.getElem?_eq_getElem (by omega)]
    exact this
 obtain ⟨xs,x1,x2,x3⟩:=step ls.length (Nat.le_refl _)
 rw [List.take_length] at x3
 exact ⟨xs,x1,x2,x3⟩
theorem oS {α:Type}{sz:Nat}{R:View->Value->α->Prop}{V:View}{vs xs sp:List Value}{ls ms:List α}(h:Row sz R V vs ls)(h':Row sz R V xs ms)(hs:0<sz):Row sz R V (vs.take (ls.length*sz)++xs++sp) (ls++ms):=by
 have hl:=h.fu hs
 have hl':=h'.fu hs
 have ht:(vs.take (ls.length*sz)).length=ls.length*sz:=by rw [List.length_take];omega
 refine ⟨fun i hi=>?_⟩
 by_cases c:i<ls.length
 ·obtain ⟨ys,y1,y2,y3⟩:=h.at_ i c
  refine ⟨ys,y1,by rw [List.getElem_append_left c];exact y2,fun j x hj=>?_⟩
  have hj':=(List.getElem?_eq_some_iff.1 hj).1
  have hlt:i*sz+j<ls.length*sz:=by
   have:(i+1)*sz<=ls.length*sz:=Nat.mul_le_mul_right _ c
   rw [Nat.succ_mul] at this
   omega
  rw [List.append_assoc,List.getElem?_append_left (by omega),List.getElem?_take,if_pos hlt]
  exact y3 j x hj
 ·rw [List.length_append] at hi
  obtain ⟨m,rfl⟩:∃m,i=ls.length+m:=⟨i-ls.length,by omega⟩
  have hm:m<ms.length:=by omega
  obtain ⟨ys,y1,y2,y3⟩:=h'.at_ m hm
  refine ⟨ys,y1,?_,fun j x hj=>?_⟩
  ·have e:(ls++ms)[ls.length+m]=ms[m]:=by rw [List.getElem_append_right (by omega)];simp
   rw [e];exact y2
  ·have hj':=(List.getElem?_eq_some_iff.1 hj).1
   have hlt:m*sz+j<xs.length:=by
    have:(m+1)*sz<=ms.length*sz:=Nat.mul_le_mul_right _ hm
    rw [Nat.succ_mul] at this
    omega
   rw [List.append_assoc,List.getElem?_append_right (by rw [ht,Nat.add_mul];omega),ht,Nat.add_mul,List.getElem?_append_left (by omega)]
   rw [show ls.length*sz+m*sz+j-ls.length*sz=m*sz+j by omega]
   exact y3 j x hj
theorem lJ {α:Type}{sz:Nat}{R:View->Value->α->Prop}{V:View}{vs:List Value}{al:List α}(h:Row sz R V vs al)(hs:0<sz)(hc:∀xs a,R V (.agg (List.toArray xs)) a->∀v∈xs,v.oneCell'=true){m:Nat}(hm:m<al.length*sz){v:Value}(hv:vs[m]?=some v):v.oneCell'=true:=by
 have hi:m / sz<al.length:=Nat.div_lt_of_lt_mul (by rw [Nat.mul_comm];exact hm)
 obtain ⟨xs,hl,hx,hat⟩:=h.at_ (m / sz) hi
 have hlt:m%sz<xs.length:=by rw [hl];exact Nat.mod_lt _ hs
 have e3:m=m / sz*sz+m%sz:=by rw [Nat.mul_comm];exact (Nat.div_add_mod m sz).symm
 have:=hat (m%sz) _ (List.getElem?_eq_getElem hlt)
 rw [←e3,hv] at this
 obtain rfl:=Option.some.inj this
 exact hc xs _ hx _ (List.getElem_mem hlt)
theorem yX {V:View}{lb n c:Nat}{vs:List Value}{o:List (Rat×Rat)}(hw:vs≠[]->V.w.heap[lb]?=some (.cells vs.toArray 108 (0,0)))(hx:vs≠[]->V.X lb)(hg:GR 6 kR V n c vs o)(hpos:vs≠[]->0<n)(hs:o.length<50)(hso:tT n c o) :
  ab prog 100 #[.slice (mA lb c) n c] V fun r V'=>∃(bm:Nat)(vm:List Value)(n' c':Nat)(m:List (Rat×Rat)),(vm≠[]->V'.w.heap[bm]?=some (.cells vm.toArray 108 (0,0)))/\(vm≠[]->V.w.heap.size<=bm\/(vs≠[]/\bm=lb)) /\
   r=.slice (mA bm c') n' c'/\Row 6 kR (V'.cf (vm≠[]) bm) vm (fq eP m)/\n'=(fq eP m).length/\n'<=c'/\m.Perm o/\m.Pairwise fun x y=>¬dv y x<0:=by
 have ME:∀{A B:Prop},A\/B\/False->A\/B:=fun h=>h.imp id fun h=>h.elim id False.elim
 have hcap:=hg.cap
 have hle:=hg.le
 have hlen:=hg.len
 refine qE lb n c vs V _ hw hx ⟨fun hz=>?_,fun hz V6 l6 PW f1 f2=>?_⟩
 ·subst hz
  have c0:c=0:=by simp at hcap;omega
  subst c0
  have n0:n=0:=by omega
  subst n0
  have hnil:o=[]:=List.length_eq_zero_iff.1 hlen.symm
  refine ⟨rfl,fun V1 l1=>sK.mono ?_⟩
  rintro r V2 l2 rfl
  refine ⟨rfl,fun V3 l3 Zm e1 e2=>oC.mono ?_⟩
  rintro r V4 l4 rfl
  refine ⟨0,[],fun h=>absurd rfl h,fun h=>absurd rfl h,none,0,0,rfl,fun V5 M7 hl e3 e4=>⟨M7,[],0,0,[],fun h=>absurd rfl h,fun h=>absurd rfl h,rfl,Row.nil,rfl,Nat.le_refl _,?_,List.Pairwise.nil⟩⟩
  rw [hnil]
 ·have hn0:=hpos hz
  have hc0:c≠0:=by omega
  have IZ:∀b,mA b c=some ⟨b,0,none⟩:=fun b=>by unfold mA;rw [if_neg hc0]
  rw [IZ]
  refine (hso (V6.au [vb vs V6.w.heap.size PW]) PW vs (f1 hz) ⟨by simp [vJ hz],f2 hz⟩ ⟨hg.row.le fun _ _ g=>kR.le g fun b o h=>l6 b o h,hlen,hs⟩).mono ?_
  rintro r V7 l7 ⟨rfl,vs',m,e3,sr,pm,pw⟩
  have Ox:=pm.length_eq
  have Fa:vs'≠[]:=fun e=>by
   have:=sr.row.fu (by decide)
   rw [e,Ox,←hlen] at this
   simp at this
   omega
  refine ⟨rfl,hz,vs',Fa,e3,fun V8 l8 JY g1 g2=>?_⟩
  rw [IZ]
  refine ab.Oz (ug (V:=V8.au [vb vs' V8.w.heap.size JY]) (lb:=JY) (vs:=vs') (l:=m) (g1 Fa) ⟨by simp [vJ Fa],g2 Fa⟩ (sr.le fun b o h=>l8 b o h) hle) ?_
  rintro r V9 l9 hH ⟨ws,rfl,e4,row,wl⟩
  have hk:=uy (e:=eP) (l:=m)
  refine ⟨JY,ws,fun _=>e4,fun _=>.inr ⟨Fa,rfl⟩,some ⟨JY,0,none⟩,(fq eP m).length,c,by rw [IZ],fun ie QO hl k1 k2=>⟨QO,ws,_,c,m,k1,fun h=>ME (k2 h),rfl,?_,rfl,by omega,pm,pw⟩⟩
  exact row.le fun _ _ g=>kR.le g ((GS fun _=>hH JY (g2 Fa)).trans hl)
def CI (k:Nat)(V:View)(v:Value)(c:Rat×Rat):Prop:=mb V v c.1 c.2/\Sz k c.1/\Sz k c.2
theorem CI.le {k:Nat}{V V':View}{v:Value}{c:Rat×Rat}(h:CI k V v c)(l:V.Le V'):CI k V' v c:=⟨h.1.le l,h.2⟩
theorem Kp {a b:Int}{p:OA}{c d:Int}{q:OA}:∀v∈([.int .i64 a,.int .i64 b,.pointer p,.int .i64 c,.int .i64 d,.pointer q]:List Value),v.oneCell'=true:=by
 intro v hm
 simp only [List.mem_cons,List.not_mem_nil,or_false] at hm
 rcases hm with rfl|rfl|rfl|rfl|rfl|rfl<;>rfl
theorem zI {k:Nat}{V:View}{p:OA}{n:Nat}{al:List (Rat×Rat)}(h:nV 6 (CI k) V p n al){i:Nat}(hi:i<al.length) :
  p.isSome=true/\∃(x y:Int)(q:OA)(x' y':Int)(q':OA)(a:Addr),ah p (i*6)=some a/\V.at (a.add 0) (.int .i64 x)/\V.at (a.add 1) (.int .i64 y)/\V.at (a.add 2) (.pointer q)/\V.at (a.add 3) (.int .i64 x')/\V.at (a.add 4) (.int .i64 y')/\V.at (a.add 5) (.pointer q') /\
   CI k V (.agg #[.int .i64 x,.int .i64 y,.pointer q,.int .i64 x',.int .i64 y',.pointer q']) al[i]:=by
 obtain ⟨ad,h0,xs,h1,h2,h3⟩:=h.at_ i hi
 have h20:=h2
 obtain ⟨⟨x,y,q,x',y',q',e,-⟩,-⟩:=h2
 have e:=congrArg Array.toList (Value.agg.inj e)
 dsimp only at e
 subst e
 refine ⟨?_,x,y,q,x',y',q',ad,h0,h3 0 _ rfl,h3 1 _ rfl,h3 2 _ rfl,h3 3 _ rfl,h3 4 _ rfl,h3 5 _ rfl,h20⟩
 cases p with
 | none=>cases h0
 | some a=>rfl
def vC (u w:Rat×Rat):Rat×Rat:=if aw.cr u w>0 then (u.1+w.1,u.2+w.2) else (-u.2,u.1)
def jO (D:List (Rat×Rat)):List (Rat×Rat):=if D=[] then [(1,0)] else aw.HI vC D
theorem HX:Sz 1 (0:Rat):=by unfold Sz;decide
theorem HW:Sz 300000 (0:Rat):=HX.mono (by omega)
theorem Fu {f:Rat×Rat->Rat×Rat->Rat×Rat}{D:List (Rat×Rat)}:aw.HI f D=(List.range D.length).map fun i=>f (D.getD i (0,0)) (D.getD ((i+1)%D.length) (0,0)):=rfl
theorem ER {V:View}{p:OA}{n c:Nat}{D:List (Rat×Rat)}(h:nV 6 (CI 100000) V p n D)(hn:D.length<=1000000) :
  ab prog 99 #[.slice p n c] V fun r V'=>∃q n' c',r=.slice q n' c'/\nV 6 (CI 300000) V' q n' (jO D):=by
 have hl:=h.len
 subst hl
 refine vR p D.length c V _ ⟨fun h0 V1 l1=>(kW 1 (by omega) (by omega)).mono ?_,fun h0=>⟨fun z V'=>∃i:Nat,z.2.2.2=(i:Int)/\i<=D.length/\GR 6 (CI 300000) V' z.1 z.2.1 z.2.2.1 ((List.range i).map fun i=>vC (D.getD i (0,0)) (D.getD ((i+1)%D.length) (0,0))),fun z=>(D.length-z.2.2.2).toNat,⟨(0,0,[],0),by and_intros<;>rfl,0,rfl,Nat.zero_le _,GR.nil⟩,?_⟩⟩
 ·have h0:D=[]:=List.length_eq_zero_iff.1 (by have:=(beq_iff_eq.1 h0);omega)
  rintro r V2 l2 g
  have g0:=g
  obtain ⟨a,b,q,rfl⟩:=g.shape
  refine ⟨_,_,_,rfl,fun V3 l3 bk hb=>⟨_,1,1,rfl,?_⟩⟩
  unfold jO
  rw [if_pos h0]
  refine nV.zK hb (row_one rfl ⟨⟨_,_,_,_,_,_,rfl,g0.le l3,?_⟩,?_,HW⟩)
  ·exact RR.zero _
  ·exact (Af).mono (by omega)
 ·have h0:D.length≠0:=fun e=>by rw [e] at h0;cases h0
  rintro ⟨n1,c1,vs1,z⟩ V4 l4 ⟨i,e,hi,g⟩
  dsimp only at e g ⊢
  subst e
  have gl:=g.len
  have W8:n1=i:=by rw [gl];simp
  refine ⟨rfl,fun hlt=>?_,fun hlt me cp bk hb=>?_⟩
  ·have hlt:i<D.length:=by have:=of_decide_eq_true hlt;omega
   have w1:i64.wrap ((i:Int)+1)=((i+1:Nat):Int):=by rw [ar (by omega)];rfl
   have hm:(((i+1:Nat):Int)).tmod (D.length:Int)=(((i+1)%D.length:Nat):Int):=by rw [Int.ofNat_tmod]
   have hj:(i+1)%D.length<D.length:=Nat.mod_lt _ (by omega)
   rw [w1,hm]
   simp only [Int.toNat_natCast]
   have h4:=h.le l4 fun _ _ g=>CI.le g l4
   obtain ⟨ps,x,y,q,x',y',q',a,ha,a0,a1,a2,a3,a4,a5,gu⟩:=zI h4 hlt
   obtain ⟨-,u,v,t,u',v',t',b,hb,b0,b1,b2,b3,b4,b5,gw⟩:=zI h4 hj
   have eu:D.getD i (0,0)=D[i]:=by rw [List.getD_eq_getElem?_getD,List.getElem?_eq_getElem hlt];rfl
   have ew:D.getD ((i+1)%D.length) (0,0)=D[(i+1)%D.length]:=by rw [List.getD_eq_getElem?_getD,List.getElem?_eq_getElem hj];rfl
   refine ⟨ps,⟨by omega,by omega⟩,x,y,q,x',y',q',a,ha,a0,a1,a2,a3,a4,a5,by omega,ps,⟨by omega,by omega⟩,u,v,t,u',v',t',b,hb,b0,b1,b2,b3,b4,b5,?_⟩
   have es:(List.range (i+1)).map (fun i=>vC (D.getD i (0,0)) (D.getD ((i+1)%D.length) (0,0)))=(List.range i).map (fun i=>vC (D.getD i (0,0)) (D.getD ((i+1)%D.length) (0,0)))++[vC D[i] D[(i+1)%D.length]]:=by
    rw [List.range_succ,List.map_append,List.map_singleton,eu,ew]
   generalize D[i]=U at *
   generalize D[(i+1)%D.length]=W at *
   refine fun V5 l5=>(my (gu.1.le l5) (gw.1.le l5) gu.2.1 gu.2.2 gw.2.1 gw.2.2 (by omega)).mono ?_
   rintro r V6 l6 gc
   have Ib:=gc
   obtain ⟨k1,k2,k3,rfl⟩:=gc.shape
   refine ⟨_,_,_,rfl,fun V7 l7=>(fk (Ib.le l7) (kQ gu.2.1 gu.2.2 gw.2.1 gw.2.2) (by omega)).mono ?_⟩
   rintro r V8 l8 rfl
   have Lw:=l5.trans (l6.trans (l7.trans l8))
   refine ⟨_,rfl,fun hp V9 l9=>(za (gu.1.le (Lw.trans l9)) (gw.1.le (Lw.trans l9)) gu.2.1 gu.2.2 gw.2.1 gw.2.2 (by omega)).mono ?_,fun hp gV bI=>(wG (gu.1.le (Lw.trans bI)) gu.2.1 gu.2.2 (by omega)).mono ?_⟩
   ·rintro r ie l10 ga
    have hp:aw.cr U W>0:=aw.mP.1 (of_decide_eq_true hp)
    have Nr:CI 300000 ie r (vC U W):=by
     unfold vC
     rw [if_pos hp]
     exact ⟨ga,(jj gu.2.1 gu.2.2 gw.2.1 gw.2.2).mono (by omega),(jk gu.2.1 gu.2.2 gw.2.1 gw.2.2).mono (by omega)⟩
    obtain ⟨_,_,_,_,_,_,rfl,-⟩:=ga
    refine ⟨_,_,_,_,_,_,rfl,by omega,g.le,g.cap,rfl,Kp,fun sp c' g1 g2=>⟨(n1+1,c',_,((i+1:Nat):Int)),by dsimp only;omega,by and_intros<;>first|rfl|trivial,i+1,rfl,by omega,?_⟩⟩
    rw [es]
    exact (g.mono fun _ _ g=>CI.le g (Lw.trans (l9.trans l10))).snoc (xs:=[_,_,_,_,_,_]) rfl Nr (by decide) g1 g2
   ·rintro r lO cg ga
    have hp:¬aw.cr U W>0:=fun h=>(of_decide_eq_false hp) (aw.mP.2 h)
    have Nr:CI 300000 lO r (vC U W):=by
     unfold vC
     rw [if_neg hp]
     exact ⟨ga,gu.2.2.neg.mono (by omega),gu.2.1.mono (by omega)⟩
    obtain ⟨_,_,_,_,_,_,rfl,-⟩:=ga
    refine ⟨_,_,_,_,_,_,rfl,by omega,g.le,g.cap,rfl,Kp,fun sp c' g1 g2=>⟨(n1+1,c',_,((i+1:Nat):Int)),by dsimp only;omega,by and_intros<;>first|rfl|trivial,i+1,rfl,by omega,?_⟩⟩
    rw [es]
    exact (g.mono fun _ _ g=>CI.le g (Lw.trans (bI.trans cg))).snoc (xs:=[_,_,_,_,_,_]) rfl Nr (by decide) g1 g2
  ·have hlt:i=D.length:=by have:=of_decide_eq_false hlt;omega
   subst hlt
   refine ⟨_,_,_,rfl,?_⟩
   have hD:D≠[]:=fun e=>h0 (by rw [e];rfl)
   unfold jO
   rw [if_neg hD,Fu,gl]
   exact nV.tL hb (g.row.le fun _ _ g=>CI.le g cp) (by decide) (by rw [←gl];exact g.le)
theorem EP {V:View}(i a:Bool):ab prog 102 #[.bool i,.bool a] V fun r V'=>r=.int .i64 (if i&&a then 2 else if i then 1 else 0):=by
 refine vN i a V _ ⟨fun h=>⟨fun h' V1 l1=>?_,fun h'=>⟨fun h'' V2 l2=>?_,fun h'' V3 l3=>?_⟩⟩,fun h=>⟨fun h' V4 l4=>?_,fun h' V5 l5=>?_⟩⟩<;>simp_all
theorem yY {pv vv:Value}{p v:Rat×Rat}(s1:Sz 1000000 p.1)(s2:Sz 1000000 p.2)(s3:Sz 300000 v.1)(s4:Sz 300000 v.2){t:Tr}{V:View}{q:OA}(h:RT V q t)(ha:t.lN Bd)(hp:mb V pv p.1 p.2)(hv:mb V vv v.1 v.2) :
  ab prog 80 #[.pointer q,pv,vv] V fun r V'=>r=.tuple #[.bool (aw.jo t p v).1,.bool (aw.jo t p v).2]:=by
 have hp0:=hp
 have hv0:=hv
 obtain ⟨x1,x2,x3,y1,y2,y3,rfl,-⟩:=hp
 obtain ⟨u1,u2,u3,w1,w2,w3,rfl,-⟩:=hv
 refine sW q x1 x2 x3 y1 y2 y3 u1 u2 u3 w1 w2 w3 V _ ⟨fun z k V'=>∃t',RT V' z t'/\t'.lN Bd/\k=t'.size/\aw.jo t' p v=aw.jo t p v,⟨q,t.size,by and_intros<;>rfl,t,h,ha,rfl,rfl⟩,?_⟩
 rintro z k V1 l1 ⟨t',h',ha',rfl,e⟩
 rw [←e]
 clear e h ha t
 refine ⟨rfl,fun V2 l2=>(kV (h'.le l2)).mono ?_⟩
 rintro r V3 l3 rfl
 have cp:=l2.trans l3
 refine ⟨_,rfl,fun hl=>?_,fun hl=>?_⟩
 ·cases t' with
  | leaf i=>cases hl
  | node ln a b=>
   obtain ⟨bb,a1,a2,a3,b1,b2,b3,c1,c2,c3,pl,pr,i,rfl,hb,hln,Ic,htb⟩:=h'.le cp
   obtain ⟨hbd,RO,nE⟩:=ha'
   have hat:∀{W:View},V3.Le W->∀j v,([.int .i64 a1,.int .i64 a2,.pointer a3,.int .i64 b1,.int .i64 b2,.pointer b3,.int .i64 c1,.int .i64 c2,.pointer c3,.pointer pl,.pointer pr,.bool i]:List Value)[j]?=some v->W.at ((⟨bb,0,none⟩:Addr).add j) v:=by
    intro W hW j v hv;rw [add_zero'];exact cW (xs:=[_,_,_,_,_,_,_,_,_,_,_,_]) (hW _ _ hb) hv
   have h0:=View.Le.refl V3
   have sl:=hbd.HY
   have L3:=l1.trans cp
   refine ⟨rfl,rfl,_,_,_,_,_,_,_,_,_,⟨bb,0,none⟩,rfl,hat h0 0 _ rfl,hat h0 1 _ rfl,hat h0 2 _ rfl,hat h0 3 _ rfl,hat h0 4 _ rfl,hat h0 5 _ rfl,hat h0 6 _ rfl,hat h0 7 _ rfl,hat h0 8 _ rfl,fun V4 l4=>(GJ (L:=ln) (hln.le l4) (hp0.le (L3.trans l4)) (k:=1000000) ⟨sl.1.mono (by omega),sl.2.1.mono (by omega),sl.2.2.mono (by omega)⟩ s1 s2 (by omega)).mono ?_⟩
   rintro r V5 l5 rfl
   have sQ:=l4.trans l5
   refine ⟨_,rfl,fun z _=>z=aw.wX ln p v,⟨fun e0=>?_,fun e0=>?_⟩,?_⟩
   ·have e0:(aT ln p.1 p.2).num.sign=0:=by simpa using e0
    refine ⟨rfl,rfl,_,_,_,_,_,_,_,_,_,⟨bb,0,none⟩,rfl,hat sQ 0 _ rfl,hat sQ 1 _ rfl,hat sQ 2 _ rfl,hat sQ 3 _ rfl,hat sQ 4 _ rfl,hat sQ 5 _ rfl,hat sQ 6 _ rfl,hat sQ 7 _ rfl,hat sQ 8 _ rfl,fun V6 l6=>(lQ (hln.le (sQ.trans l6)) sl.1 sl.2.1 sl.2.2 (by omega)).mono ?_⟩
    rintro r V7 l7 gn
    have Rh:=gn
    obtain ⟨d1,d2,d3,d4,d5,d6,rfl,-⟩:=gn
    refine ⟨_,_,_,_,_,_,rfl,fun V8 l8=>(pM (Rh.le l8) (hv0.le (L3.trans (sQ.trans (l6.trans (l7.trans l8))))) (k:=300000) (sl.1.mono (by omega)) (sl.2.1.mono (by omega)) s3 s4 (by omega)).mono ?_⟩
    rintro r V9 l9 gd
    have Ns:=gd
    obtain ⟨e1,e2,e3,rfl⟩:=gd.shape
    refine ⟨_,_,_,rfl,fun ie l10=>(fk (Ns.le l10) (dO (k:=300000) (sl.1.mono (by omega)) (sl.2.1.mono (by omega)) s3 s4) (by omega)).mono ?_⟩
    rintro r gV bI rfl
    refine ⟨_,rfl,_,by and_intros<;>rfl,?_⟩
    unfold aw.wX
    rw [if_pos e0];rfl
   ·have e0:¬(aT ln p.1 p.2).num.sign=0:=fun h=>by rw [h] at e0;cases e0
    refine ⟨_,by and_intros<;>rfl,?_⟩
    unfold aw.wX
    rw [if_neg e0]
   ·rintro z lO cg rfl
    have I7:=sQ.trans cg
    refine ⟨rfl,fun e1=>⟨rfl,rfl,pl,BS (I7 _ _ hb) 9 rfl,pl,a.size,by simp only [Tr.size];omega,by and_intros<;>rfl,a,Ic.le I7,RO,rfl,?_⟩,fun e1=>⟨fun e2=>⟨rfl,rfl,pr,BS (I7 _ _ hb) 10 rfl,pr,b.size,by simp only [Tr.size];omega,by and_intros<;>rfl,b,htb.le I7,nE,rfl,?_⟩,fun e2 me cp=>?_⟩⟩
    ·have e1:aw.wX ln p v=1:=by simpa using e1
     simp only [aw.jo];rw [if_pos e1]
    ·have e1:¬aw.wX ln p v=1:=by simpa using e1
     have e2:aw.wX ln p v=-1:=by simpa using e2
     simp only [aw.jo];rw [if_neg e1,if_pos e2]
    ·have e1:¬aw.wX ln p v=1:=by simpa using e1
     have e2:¬aw.wX ln p v=-1:=by simpa using e2
     simp only [aw.jo];rw [if_neg e1,if_neg e2]
 ·cases t' with
  | node ln a b=>cases hl
  | leaf i=>
   obtain ⟨b,c0,c1,c2,c3,c4,c5,c6,c7,c8,r,rfl,hb⟩:=h'.le cp
   exact ⟨rfl,rfl,i,BS hb 11 rfl,fun pC dz=>rfl⟩
end Go.Proofs.Tryz
