import Derived.Test.YtmamnfmhdcahmaaGreatDoorCards
import Derived.Test.YtmamnfmhdcahmaaGreatDoorTie
import Derived.ProofKit
import Derived.OpenShut
import Derived.Deep.DeepHandedRow
import Derived.LaidLaws
import Derived.Lay
import Derived.Carry
import Derived.IntWalk
import Derived.Shelf.SlLaysF0
import Derived.Shelf.Lays
import Derived.Shelf.Small.Bits
import Derived.Shelf.Bits.Mul64
import Derived.Test.YtmamnfmhdcahmaaGreatDoorW6
set_option linter.all false
open Go.IntKind (i64 u64 u32)
open Go.Value renaming int→Ô,slice→pT,bool→Õ,tuple→æ,agg→dB,pointer→qvZ
theorem ū{p q:Prop}(a:p:=by first|omega|(dsimp only;omega))(b:q:=by first|omega|(dsimp only;omega)):p/\q:=⟨a,b⟩
namespace Go.Proofs.YtmamnfmhdcahmaaGreatDoor
open Go.ChangeShapes Go.WideShapes Go.ChangeAt Go.RowKit Go.Eng
def own:ownKnob Tryz.prog.godebug=none:=ζ
def star : "*" ++ "errors.errorString" = "*errors.errorString" := by decide
def rowE (u : TypeId)(h : Tryz.prog.typeName? 3 u = some "*errors.errorString") : u = 371 :=
 typeName_ptr_named (nm := "errors.errorString") (by rw [star]; kernel_rfl) ζ φ u (by rw [star]; exact h)
def cellsE:Tryz.prog.cellsOf 388=1:=ζ
def cellsS:Tryz.prog.cellsOf 9=1:=ζ
def row0 (g:Nat):MemPlace.cell g 0∈MemPlace.row ⟨g,0,none⟩ 1:=by simp [MemPlace.row]
def Zc {P:Program}{W:World}{name:String}{g:Nat}{v:um}(u:P.globalNamed name=some g)(h:W.var? P name=some #[v]):W.cell? ⟨g,0,none⟩=some v:=by simpa using World.var?_cell u h 0
set_option maxRecDepth 100000 in
def wP {W:World}{l:zA (String×DataW Unit)}{name:String}{text:zA UInt8}{g:Nat}(E:Tryz.prog.globalNamed name=some g)(hty:(Tryz.prog.globals[g]?).map (·.type)=some 33)(hm : (name, .iface "*errors.errorString" (.ptr (.agg [.lit (.string text)]))) ∈ l)(h : laidMet Tryz.prog l W):∃a,W.cell? ⟨g,0,none⟩=some (.iface 371 (.pointer (some a))):=by
 obtain ⟨k,m,-,c⟩:=h
 induction l generalizing k with
 | nil=>cases hm
 | cons x r F=>
  obtain ⟨n,d⟩:=x;obtain ⟨B,t,cs,fuel,p,q,i,o,f,w,y,rfl⟩:=m;rcases ç.1 hm with e|hm
  ·cases e;obtain rfl:=ŏ (E.symm.m i);obtain rfl:=ŏ (hty.symm.m o);obtain ⟨z⟩:=cs
   have j:∀u v,z=[.iface u v]->Value.okWide Tryz.prog W .any 0 u v:=λu v e=>by
    subst e;exact (c g 0 (Ĩ _ (Ĩ _ (row0 g)))).2 u v (Zc E f)
   obtain ⟨a,s,rfl,-⟩:=errorString_of_trod Tryz.underlying33 rowE Tryz.underlying371 Tryz.underlying388 rfl rfl Tryz.underlying9 cellsE cellsS w j;exact ⟨a,Zc E f⟩
  ·exact F hm q y λb off A=>c b off (Ĺ _ A)
def Ó.all (W:World):Ó:=⟨W,λ_=>False,λ_=>False,λ_ h=>h.elim,λ_ h=>h⟩
def KE {w w':World}(h:kv (λ_=>False) w w')(may:MemPlace->Prop):w.keptBut w' may:=by refine ⟨h.os,h.out,λi a=>?_⟩;rw [h.bh i a (λh=>h)];(cases w.heap[i]? with|none=>rfl|some o=>{cases o<;>simp})
def Ez {f:FuncId}{args:Array um}{W:World}{R:um->Prop}(h:ae Tryz.prog f args (Ó.all W) λr _=>R r):Calls Tryz.prog f args W λe w'=>∃r,e=.returned r/\R r/\kv (λ_=>False) W w':=
 h.2.s λe w' ⟨r,he,a,b⟩=>⟨r,he,b,a⟩
def laidOut:laidOutB Tryz.prog=true:=ζ
def He {w w':World}(h:kv (λ_=>False) w w'):Below w.heap.size w w':=⟨h.os,h.tape,h.out,h.size,λk a=>h.bh k a (λh=>h)⟩
def Qn {P:Program}(hlo:laidOutB P=true){H:Type}{enc:TypeId×um->H}{W W':World}(y:Below W.heap.size W W')(ts:zA TypeId):∀{vs:zA um} {ds:zA (DataW H)} {u:zA MemPlace},(ts.all λt=>P.readableRec t&&decide (t<P.types.size))=true->DataW.TrodAll enc P W 0 (λ_=>true) true ts vs ds u->(∀x∈u,x.block<W.heap.size) ->DataW.TrodAll enc P W' 0 (λb=>decide (b<W.heap.size)) true ts vs ds u:=by
 induction ts with
 | nil=>
  intro vs ds u _ h _;obtain ⟨rfl,rfl,rfl⟩:=trodAll_nil h;exact trodAll_mk0
 | cons t ts z=>
  intro vs ds u c h a;obtain ⟨v,f,d,g,p,q,rfl,rfl,rfl,i,j⟩:=trodAll_cons h;simp only [List.all_cons,Ċ,Ñ] at c;exact trodAll_cons_mk (Below.trod hlo c.1.1 c.1.2 i y λx e=>a x (Ĩ _ e)) (z c.2 j λx e=>a x (Ĺ _ e))
set_option maxRecDepth 100000 in
def XQ {H:Type}{enc:TypeId×um->H}{fid:FuncId}{f:Func}{s:ChangeSpec}{W:World}{args:Array um}{ds gs:zA (DataW H)}{before:zA MemPlace}{fresh handsOn:ut}(y:DataW.Whole enc Tryz.prog f.params.toList s.vars false W args.toList ds gs before)(hvars:s.vars=[])(hts:(f.params.toList.all λt=>Tryz.prog.readableRec t&&decide (t<Tryz.prog.types.size))=true)(hres:f.resultTypes=#[4])(u:s.fn H (ds++gs)={ results:=[.lit (.bool true)],args:=ds })(h:ae Tryz.prog fid args (Ó.all W) λr _=>r=.bool true):Calls Tryz.prog fid args W λe W'=>∃v,e=.returned v/\s.post enc Tryz.prog f false fresh handsOn false W args v W':=by refine (Ez h).s λe W' ⟨r,he,g,a⟩=>?_;subst he g;have b:=y;obtain ⟨p,q,i,d,rfl,-,-⟩:=y;rw [hvars] at d;obtain ⟨rfl,rfl⟩:=trodVars_none d;have c:∀x∈p++[],x.block<W.heap.size:=λx a=>b.lt x a;refine ⟨_,rfl,ds,_,p++[],[],p++[],[],b,?_,?_,?_,KE a _,λh=>nomatch h⟩;{rw [u,hres];exact trodAll_cons_mk (shut_bool Tryz.underlying4 _) trodAll_mk0};{rw [u,ą];exact Qn laidOut (He a) _ hts i λx a=>c x (by rw [ą];exact a)};{rw [u,hvars];rfl}
set_option maxRecDepth 100000 in
def K7 {H:Type}{enc:TypeId×um->H}{W:World}{p:OA}{n c:Nat}{d:DataW H}{u:zA MemPlace}(h:DataW.Trod enc Tryz.prog W 0 (λ_=>true) true 22 (.slice p n c) d u):n<=c/\∀i,i<n->∃(a:Addr)(x:Int),af p (i*1)=some a/\(Ó.all W).at a (.int .i64 x):=by obtain ⟨fuel,k⟩:=h;rcases open_ints Tryz.underlying22 Tryz.underlying3 (show Tryz.prog.cellsOf 3=1 by kernel_rfl) k with ⟨b,-⟩|⟨a,f,g,o,b,_,l,-,m,-,e,-⟩;{simp [Value.cells] at b;obtain ⟨rfl,rfl,rfl⟩:=b;exact ⟨Ù _,λi j=>Å j ω⟩};{simp [Value.cells] at b;obtain ⟨rfl,rfl,rfl⟩:=b;simp only [Ï] at m;exact ⟨l,λi j=>⟨a.add i,_,by rw [ĝ];rfl,λh=>h,e i ω⟩⟩}
end Go.Proofs.YtmamnfmhdcahmaaGreatDoor
namespace Go.Big
variable{a ds:List Nat}{n:Nat}
def val:List Nat->Nat
 | []=>0
 | d::r=>d+4294967296*val r
def cK (ds:List Nat):Prop:=∀d∈ds,d<4294967296
def c_:List Nat->List Nat
 | []=>[]
 | d::r=>if c_ r=[]/\d=0 then [] else d::c_ r
def zS (ds:List Nat):Prop:=c_ ds=ds
def B8:Nat->Nat->List Nat
 | 0,_=>[]
 | f+1,n=>if n=0 then [] else n%4294967296::B8 f (n / 4294967296)
def ai (n:Nat):List Nat:=B8 n n
@[simp] theorem gi:val []=0:=rfl
@[simp] theorem bP (d:Nat)(r:List Nat):val (d::r)=d+4294967296*val r:=rfl
def cK.nil:cK []:=λ_ h=>nomatch h
def cK.cons {d:Nat}{r}:cK (d::r)↔d<4294967296/\cK r:=by simp [cK]
def cK.append {b}:cK (a++b)↔cK a/\cK b:=by simp [cK,or_imp,forall_and]
def cK.take (h:cK a)(k):cK (a.take k):=λd b=>h d (Qn4 b)
def cK.drop (h:cK a)(k):cK (a.drop k):=λd b=>h d (Qg4 b)
def cK.set (h:cK a)(k x)(u:x<4294967296):cK (a.set k x):=λd c=>by
 rcases List.mem_or_eq_of_mem_set c with b|b
 ·exact h d b
 ·exact b▸u
def cK.get (h:cK a){i:Nat}(hi:i<a.length):a[i]<4294967296:=h _ (ô hi)
def cK.rep (n):cK (List.replicate n 0):=λd a=>by rw [Qs2 a];omega
theorem eM (a b):val (a++b)=val a+4294967296^a.length*val b:=by
 induction a with
 | nil=>simp
 | cons d r u=>simp only [Qc0,bP];grind
theorem iV (h:cK ds):val ds<4294967296^ds.length:=by
 induction ds with
 | nil=>simp
 | cons d r u=>
  have a:=cK.cons.1 h;grind [val]
def Bs (n):val (List.replicate n 0)=0:=by
 induction n with
 | zero=>rfl
 | succ n u=>simp [List.replicate_succ,u]
def aC (ds:zA Nat)(i)(h:i<ds.length:=by omega):val (ds.take (i+1))=val (ds.take i)+4294967296^i*ds[i]:=by rw [Qz3 h,eM];simp [ğ (Qs3 h)]
def ar {ds i}(h:ds.length<=i:=by omega):val (ds.take i)=val ds:=by rw [Ŋ h]
def EO (ds:zA Nat)(i x)(h:i<ds.length):(ds.set i x).take (i+1)=ds.take i++[x]:=by grind [List.take_succ_eq_append_getElem,List.take_set,List.set_eq_of_length_le]
def aU (ds:zA Nat)(i x)(h:i<ds.length:=by omega):val ((ds.set i x).take (i+1))=val (ds.take i)+4294967296^i*x:=by rw [EO ds i x h,eM];simp [ğ (Qs3 h)]
def ki (r):c_ (r++[0])=c_ r:=by
 induction r with
 | nil=>simp [c_]
 | cons d r u=>simp only [Qc0,c_,u]
def vl (r:zA Nat)(d:Nat)(h:d≠0):c_ (r++[d])=r++[d]:=by
 induction r with
 | nil=>simp [c_,h]
 | cons x r u=>simp [c_,u]
def Se (ds):val (c_ ds)=val ds:=by
 induction ds with
 | nil=>rfl
 | cons d r u=>
  simp only [c_];split
  ·rename_i h;rw [bP,<-u,h.1,h.2];rfl
  ·simp [u]
def oN (ds):(c_ ds).length<=ds.length:=by
 induction ds with
 | nil=>simp [c_]
 | cons d r u=>simp only [c_];split<;>simp<;>omega
def Sb (ds):c_ ds=ds.take (c_ ds).length:=by induction ds<;>grind [c_]
def cK.trim (h:cK ds):cK (c_ ds):=by rw [Sb];exact h.take _
def Lv (ds):zS (c_ ds):=by
 unfold zS
 induction ds with
 | nil=>rfl
 | cons d r u=>
  rw [c_];split
  ·rfl
  ·rename_i h;rw [c_,u,Ã h]
def zS.tail {d:Nat}{r}(h:zS (d::r)):zS r:=by unfold zS at h ⊢;simp only [c_] at h;split at h;{cases h};{injection h}
def zS.zero (h:zS ds)(u:val ds=0):ds=[]:=by
 induction ds with
 | nil=>rfl
 | cons d r y=>
  have a:=y h.tail (by simp at u;omega);subst a;simp at u;subst u;simp [zS,c_] at h
def vU:∀(f n:Nat),n<=f->val (B8 f n)=n/\cK (B8 f n)/\zS (B8 f n)
 | 0,n,h=>⟨by simp [B8];omega,cK.nil,rfl⟩
 | f+1,n,h=>by
  simp only [B8];split
  ·subst_vars;exact ⟨rfl,cK.nil,rfl⟩
  ·have ⟨u,z,y⟩:=vU f (n / 4294967296) ω;refine ⟨by rw [bP,u];omega,cK.cons.2 ⟨ω,z⟩,?_⟩;unfold zS at y ⊢;rw [c_,y,Ã];rintro ⟨a,b⟩;rw [a] at u;simp at u;omega
theorem ag (n):val (ai n)=n:=(vU n n (Ù _)).1
theorem aO (n):cK (ai n):=(vU n n (Ù _)).2.1
def lO (n):zS (ai n):=(vU n n (Ù _)).2.2
def zS.ext:∀{a b:zA Nat},cK a->cK b->zS a->zS b->val a=val b->a=b
 | [],b,_,_,_,u,h=>(u.zero (by rw [<-h];rfl)).symm
 | d::r,[],_,_,y,_,h=>by have:=y.zero h;cases this
 | d::r,e::s,y,u,z,E,h=>by
  have f:=(cK.cons.1 y).1;have g:=(cK.cons.1 u).1;simp only [bP] at h;have:val r=val s:=ω
  have c:=zS.ext (cK.cons.1 y).2 (cK.cons.1 u).2 z.tail E.tail this;grind
def B9 (h:cK ds)(u:zS ds):ai (val ds)=ds:=zS.ext (aO _) h (lO _) u (ag _)
theorem aZ (h:cK ds):c_ ds=ai (val ds):=by rw [<-Se,B9 h.trim (Lv _)]
def vV {a b}(h:ai a=ai b):a=b:=by rw [<-ag a,h,ag]
@[simp] theorem F5:ai 0=[]:=rfl
def bR:ai n=[]↔n=0:=⟨λh=>vV (by rw [h];rfl),λh=>h▸rfl⟩
def zS.last (h:zS ds)(u:0<ds.length):ds[ds.length-1]≠0:=by intro e;have a:ds=ds.take (ds.length-1)++[ds[ds.length-1]]:=by{grind [List.take_succ_eq_append_getElem,Nat.sub_add_cancel,List.take_length]};rw [e] at a;have b:c_ ds=ds:=h;rw [a,ki] at b;have:=oN (ds.take (ds.length-1));grind
def KN (h:∀u:0<ds.length,ds[ds.length-1]≠0):zS ds:=by rcases ĵ ds.length with e|e;{rw [Ĝ.1 e];rfl};{have a:ds=ds.take (ds.length-1)++[ds[ds.length-1]]:=by{grind [List.take_succ_eq_append_getElem,Nat.sub_add_cancel,List.take_length]};have:=vl (ds.take (ds.length-1)) _ (h e);rw [<-a] at this;exact this}
def VZ (h:zS ds)(u:0<ds.length:=by omega):4294967296^(ds.length-1)<=val ds:=by have a:ds=ds.take (ds.length-1)++[ds[ds.length-1]]:=by{grind [List.take_succ_eq_append_getElem,Nat.sub_add_cancel,List.take_length]};have b:=h.last u;rw [a,eM];simp only [bP,gi];simp only [î,ê,Qc3];rw [ğ ω,Qm3 u];have:4294967296^(ds.length-1)*1<=4294967296^(ds.length-1)*(ds[ds.length-1]+4294967296*0):=Ņ _ ω;omega
def aQ {n k:Nat}:(ai n).length<=k↔n<4294967296^k:=by constructor;{grind [iV,aO,ag,Nat.lt_of_lt_of_le,Nat.pow_le_pow_right]};{intro h;rcases Ď k (ai n).length with a|a;{have:=VZ (lO n);rw [ag] at this;have b:4294967296^k<=4294967296^((ai n).length-1):=ķ ω ω;omega};{exact a}}
def zo {k:Nat}:k<(ai n).length↔4294967296^k<=n:=by have:=@aQ n k;omega
theorem jz (ds i)(h:i<ds.length):val ds=val (ds.take i)+4294967296^i*(ds[i]+4294967296*val (ds.drop (i+1))):=by have a:val ds=val (ds.take i++ds.drop i):=by{rw [Qj8]};grind [eM,List.drop_eq_getElem_cons,bP]
def mO {b}{i:Nat}(u:cK a)(hi:i<a.length)(y:i<b.length)(z:a.drop (i+1)=b.drop (i+1))(E:a[i]<b[i]):val a<val b:=by rw [jz a i hi,jz b i y,z];have c:=iV (u.take i);simp only [ê,ğ (Qs3 hi)] at c;have d:4294967296^i*(a[i]+4294967296*val (b.drop (i+1))+1)<=4294967296^i*(b[i]+4294967296*val (b.drop (i+1))):=Ņ _ ω;grind
def oF {a b}(h:(ai a).length<(ai b).length:=by omega):a<b:=by have c:=iV (aO a);have d:=VZ (lO b);rw [ag] at c d;have e:4294967296^(ai a).length<=4294967296^((ai b).length-1):=ķ ω ω;omega
def nX (a b:Nat):Int:=if a<b then -1 else if b<a then 1 else 0
def aR {a b}(h:a<=b:=by omega):(ai a).length<=(ai b).length:=by rcases Ď (ai b).length (ai a).length with c|c;{have:=oF c;omega};{exact c}
def bH (h:cK ds):(ai (val ds)).length<=ds.length:=by rw [<-aZ h];exact oN ds
def Xe (h:n<4294967296)(u:n≠0:=by omega):ai n=[n]:=by have:zS [n]:=by{simp [zS,c_,u]};have:=B9 (by simp [cK];exact h) this;simpa using this
end Go.Big
namespace Go.Eng
open Go.Big
variable{ds:List Nat}{p:OA}{c n:Nat}{V:Ó}
def au {x}(h:-9223372036854775808<=x/\x<=9223372036854775807):i64.wrap x=x:=IntWalk.i64_in x h
def bq {x}(h:0<=x/\x<=18446744073709551615):u64.wrap x=x:=IntWalk.u64_in x h
def wY {x}(h:0<=x/\x<=4294967295):u32.wrap x=x:=IntWalk.u32_in x h
def kN (x):u32.wrap x=x%4294967296:=by rw [IntKind.wrap_u32]
def An (x):u64.wrap x=x%18446744073709551616:=by rw [IntKind.wrap_u64]
def wS {x:Int}:x.fdiv (2^32)=x / 4294967296:=by rw [Wy0 _ φ];rfl
def Vz {x:Int}:x.fdiv (2^63)=x / 9223372036854775808:=by rw [Wy0 _ φ];rfl
def KT (a b:Nat)(u:a<4294967296)(y:b<4294967296):b_ .or .u64 ((a:Int)*4294967296) (b:Int)=(a:Int)*4294967296+b:=by have c:((a:Int)*4294967296)=((a*2^32:Nat):Int):=ψ;rw [b_,c,An];have d:(BitVec.ofInt IntKind.u64.bits ((a*2^32:Nat):Int) ||| BitVec.ofInt IntKind.u64.bits (b:Int)).toNat=a*2^32+b:=by{show (BitVec.ofInt 64 ((a*2^32:Nat):Int) ||| BitVec.ofInt 64 (b:Int)).toNat=_;rw [ř,ř,Wj2,Ŕ,Ŕ,Ĕ ω,Ĕ ω];have:=Wq6 (b:=b) (i:=32) ω a;grind [Nat.shiftLeft_eq]};omega
def aN (ds:List Nat):List Value:=ds.map λ(d:Nat)=>Value.int .u32 (d:Int)
@[simp] theorem u32s_len (ds:List Nat):(aN ds).length=ds.length:=by simp [aN]
theorem bS (ds:zA Nat)(i x:Nat):(aN ds).set i (Ô .u32 (x:Int))=aN (ds.set i x):=by simp [aN]
def dU (n):List.replicate n (Value.int .u32 0)=aN (List.replicate n 0):=by simp [aN]
theorem iT {i:Nat}(h:i<ds.length):(aN ds)[i]?=some (Ô .u32 (ds[i]:Int)):=by simp [aN,h]
theorem GZ (ds k):aN (ds.take k)=(aN ds).take k:=by simp [aN,Wz9]
def Sc (ds k):aN (ds.drop k)=(aN ds).drop k:=by simp [aN,Wk0]
def zO (a b):aN (a++b)=aN a++aN b:=by simp [aN]
def Ó.Le.sl {V V':un}(h:V.Le V'){a xs}(u:V.sl a xs):V'.sl a xs:=
 λi v b=>let ⟨ad,e,y⟩:=u i v b;⟨ad,e,h.at y⟩
structure RD (V:Ó) (p:OA) (n c:Nat) (ds:List Nat):Prop where
 len:n=ds.length
 cap:n<=c
 sl:V.sl p (aN ds)
 gC:cK ds
 KM:p.isNone=true->c=0
def RD.le {V V'}(h:RD V p n c ds)(l:V.Le V'):RD V' p n c ds:=⟨h.len,h.cap,l.sl h.sl,h.gC,h.KM⟩
def RD.nil:RD V none 0 0 []:=⟨rfl,Ù _,λi v h=>by simp [aN] at h,cK.nil,λ_=>rfl⟩
def RD.take (h:RD V p n c ds){k}(u:k<=n):RD V p k c (ds.take k):=by have:=h.len;refine ⟨by simp;omega,by have:=h.cap;omega,λi v a=>h.sl i v ?_,h.gC.take k,h.KM⟩<;>grind [GZ]
def RD.rd (h:RD V p n c ds){i:Int}{K:Int->Prop}(j:Nat)(u:i=j)(y:j<ds.length)(z:K ((ds[j]:Nat):Int)):(p.isSome=true)/\(0<=i/\i<(n:Int))/\∃x:Int,(∃a,af p (i.toNat*1)=some a/\V.at a (Ô .u32 x))/\K x:=by have ⟨b,e,d⟩:=h.sl j _ (iT y);have:=h.len;subst u;refine ⟨by rw [e];rfl,⟨ω,ω⟩,_,⟨b.add j,?_,d⟩,z⟩;rw [e];simp [af]
theorem dX {b}{xs:zA um}{ty m}(h:V.bh b (.cells xs.toArray ty m)){i:Nat}{v}(u:xs[i]?=some v):V.at ⟨b,i,none⟩ v:=by refine ⟨h.1,?_⟩;unfold World.cell?;rw [h.2];simpa using u
theorem add_zero' (b i:Nat):(⟨b,0,none⟩:Addr).add i=⟨b,i,none⟩:=by unfold Addr.add;split;{rename_i h;simp_all};{simp}
def RD.bh {b ds ty m}(h:V.bh b (.cells (aN ds).toArray ty m))(u:cK ds)(y:n=ds.length)(z:n<=c):RD V (some ⟨b,0,none⟩) n c ds:=
 ⟨y,z,λi v a=>⟨_,rfl,by rw [add_zero'];exact dX h a⟩,u,λe=>nomatch e⟩
end Go.Eng
namespace Go.Proofs.Tryz
open Go.Eng Go.Big
variable{V:Ó}{p q:OA}{c e m n:Nat}{ds xa xb:List Nat}
def bu (h:RD V p n c ds)(hm:ds.length<=4611686018427387904:=by omega):À 200 #[pT p n c] V λr W=>∃k,r=pT p k c/\RD W p k c (c_ ds):=by refine LX V _ ?_;refine ⟨λz V'=>z.1=p/\z.2.2=c/\z.2.1<=ds.length/\c_ (ds.take z.2.1)=c_ ds/\RD V' p z.2.1 c (ds.take z.2.1),λz=>z.2.1,⟨(p,n,c),⟨rfl,rfl,rfl⟩,rfl,rfl,?_⟩,?_⟩;{have:=h.len;subst this;simp;exact h};{rintro ⟨q,k,i⟩ l m ⟨rfl,rfl,j,e,d⟩;dsimp only at j e d ⊢;refine ⟨rfl,λa=>?_,λa=>?_⟩;{have a:0<k:=by{simpa using a};simp (disch:=omega) only [au];have o:(ds.take k).length=k:=by{simp;omega};have f:ds.take k=ds.take (k-1)++[ds[k-1]]:=by{rw [<-Qz3 ω,Qm3 a]};refine d.rd (k-1) ω ω ⟨λb=>?_,λb=>?_⟩;{have b:ds[k-1]=0:=by{simpa using b};refine ⟨⟨ω,by have:=d.cap;omega⟩,(q,k-1,i),by dsimp only;omega,⟨rfl,by dsimp only;omega,rfl⟩,rfl,rfl,by dsimp only;omega,?_,?_⟩;{dsimp only;rw [<-e,f,b,ki]};{have:=d.take (k:=k-1) ω;dsimp only;rwa [Wq1,ğ ω] at this}};{have b:ds[k-1]≠0:=by{simpa using b};refine λV2 g=>⟨k,rfl,?_⟩;rw [<-e,f,vl _ _ b,<-f];exact d.le g}};{have a:k=0:=by{simpa using a};subst a;refine λV2 g=>⟨0,rfl,?_⟩;rw [<-e];exact d.le g}}
def qY (h:RD V p n c ds)(hm:ds.length<=2^40:=by omega):À 252 #[pT p n c] V λr W=>∃q k y,r=pT q k y/\RD W q k y ds:=by have g:=h.len;refine AR V _ ⟨λf m o=>⟨_,_,_,rfl,?_⟩,λf=>⟨aN ds,h.sl,by simp [g],ω,ω,ψ,by simp [g],?_,?_⟩⟩;{have f:p=none:=by{simpa using f};subst f;have:ds=[]:=by{rcases ĵ ds.length with e|e;{exact Ĝ.1 e};{obtain ⟨s,e,-⟩:=h.sl 0 _ (iT e);cases e}};subst this;exact RD.nil};{intro v a;simp only [aN,ù] at a;obtain ⟨d,-,rfl⟩:=a;rfl};{intro t J sp y j u m o b l;refine ⟨_,_,_,rfl,?_⟩;simp only [Ĉ,œ,Qf4,ŗ] at l j ⊢;exact ⟨g,j,λi v a=>⟨_,rfl,by rw [add_zero'];exact dX l (by rw [Ĳ (by rcases Ď i (aN ds).length with e|e;exact e;rw [ţ e] at a;cases a)];exact a)⟩,h.gC,λe=>nomatch e⟩}
abbrev RN (V:Ó)(p:OA)(n c:Nat)(x:Nat):Prop:=RD V p n c (ai x)
def lr (h:RD V p n c ds)(hm:ds.length<=2^40):À 196 #[pT p n c] V λr W=>∃q k u,r=pT q k u/\RN W q k u (val ds):=by refine LS V _ λa b=>(bu ra).s ?_;rintro r V2 d ⟨k,rfl,e⟩;refine ⟨_,_,_,rfl,λf g=>(qY ra (by have:=oN ds;omega)).s ?_⟩;rintro r i j ⟨q,l,u,rfl,m⟩;refine ⟨_,_,_,rfl,λo s=>⟨_,_,_,rfl,?_⟩⟩;unfold RN;rw [<-aZ h.gC];exact ra
def Hq (h:RD V p n c ds)(hm:ds.length<=2^40):À 270 #[pT p n c] V λr W=>r=Õ (decide (ai (val ds)=ds)):=by have d:=h.len;refine Fb V _ ⟨λa e f=>?_,λa=>?_⟩;{have:ds=[]:=Ĝ.1 (by simp at a;omega);subst this;rfl};{have a:0<n:=by{simp at a;omega};simp (disch:=omega) only [au];refine h.rd (n-1) ω ω λe f=>?_;congr 1;rw [ļ];simp only [bne_iff_ne,ne_eq,Ñ];subst d;constructor;{intro b;exact B9 h.gC (KN λ_=>by simpa using b)};{intro he b;have:zS ds:=by{rw [<-he];exact lO _};exact this.last ω (by simpa using b)}}
def fD (u)(z:0<=u)(E:u<18446744073709551616:=by omega):À 201 #[Ô .u64 u] V λr W=>∃q k y,r=pT q k y/\RN W q k y u.toNat:=by obtain ⟨u,rfl⟩:=č z;refine AF V _ ⟨ω,λe g f a=>?_⟩;rw [wS,kN,wY ω] at a;have a:e.bh f (.cells (aN [u%4294967296,u / 4294967296]).toArray 219 (0,0)):=by{simpa [aN] using a};have b:cK [u%4294967296,u / 4294967296]:=by{simp [cK];omega};refine (bu (RD.bh a b (n:=2) (c:=2) rfl (Ù _)) ψ).s ?_;rintro r V2 h ⟨k,rfl,d⟩;refine ⟨_,_,_,rfl,λ_ i j=>⟨_,_,_,rfl,?_⟩⟩;rw [aZ b] at d;have:val [u%4294967296,u / 4294967296]=(u:Int).toNat:=by{simp;omega};rw [this] at d;exact ra
def FR (N:RD V p n c xa)(O:RD V q m e xb)(hm:xa.length<=2^40)(Z:xb.length<=2^40:=by omega):À 251 #[pT p n c,pT q m e] V λr W=>r=Jq (nX (val xa) (val xb)):=by have la:=oN xa;have lb:=oN xb;refine Oo V _ λH I=>(bu ra).s ?_;rintro r V2 J ⟨n,rfl,g⟩;refine ⟨_,_,_,rfl,λK B=>(bu ra).s ?_⟩;rintro r L C ⟨m,rfl,j⟩;refine ⟨_,_,_,rfl,?_⟩;replace g:=g.le (B.m C);rw [aZ N.gC] at g la;rw [aZ O.gC] at j lb;generalize val xa=x at *;generalize val xb=y at *;have D:=g.len;have E:=j.len;refine ⟨λh=>⟨λd w A=>?_,λd w A=>?_⟩,λh=>?_⟩;{have:=oF (a:=x) (b:=y) (by simp at d;omega);rw [nX,Ä this]};{have:=oF (a:=y) (b:=x) (by simp at h d;omega);rw [nX,Ã ω,Ä this]};{have h:n=m:=by{simp at h;omega};subst h;simp (disch:=omega) only [au];refine ⟨λz V'=>-1<=z/\z<n/\(ai x).drop (z+1).toNat=(ai y).drop (z+1).toNat,λz=>(z+1).toNat,⟨_,η,ω,ω,?_⟩,?_⟩;{(try dsimp only);rw [Ŀ ω,Ŀ ω]};{rintro i M k ⟨o,s,t⟩;dsimp only at o s t ⊢;refine ⟨θ,λd=>?_,λd w A=>?_⟩;{have d:0<=i:=by{simpa using d};obtain ⟨i,rfl⟩:=č d;simp (disch:=omega) only [au];have f:(ai x).drop (i+1)=(ai y).drop (i+1):=t;refine (g.le k).rd i rfl ω ((j.le k).rd i rfl ω ⟨λu F G=>?_,λu=>?_⟩);{have:=mO (aO x) ω ω f (by simpa using u);rw [ag,ag] at this;rw [nX,Ä this]};{refine (g.le k).rd i rfl ω ((j.le k).rd i rfl ω ⟨λv F G=>?_,λv=>?_⟩);{have:=mO (aO y) ω ω f.symm (by simpa using v);rw [ag,ag] at this;rw [nX,Ã ω,Ä this]};{refine ⟨_,?_,η,?_,?_,?_⟩;{(try dsimp only);omega};{(try dsimp only);omega};{(try dsimp only);omega};{(try dsimp only);have:((i:Int)-1+1).toNat=i:=ω;rw [this,Ī ω,Ī (l:=ai y) ω,f];congr 1;simp at u v;omega}}}};{have d:i=-1:=by{simp at d;omega};subst d;have:ai x=ai y:=by{simpa using t};have:=vV this;subst this;simp [nX]}}}
def Bz {E A B c d x y W:Nat}(h:E+W*c=A+B)(u:d=c+x+y:=by omega):E+W*(d%4294967296)+W*4294967296*(d / 4294967296)=A+W*x+(B+W*y):=by have a:W*(d%4294967296)+W*4294967296*(d / 4294967296)=W*d:=by{rw [ń,<-į,Qg7]};rw [ň,a,u,į,į];omega
def QD (ha:RD V p n c xa)(hb:RD V q m e xb)(hm:xa.length<=2^40)(hn:xb.length<=2^40):À 277 #[pT p n c,pT q m e] V λr W=>∃p' n' c',r=pT p' n' c'/\RN W p' n' c' (val xa+val xb):=by
 have B:=ha.len;have C:=hb.len;refine On V _ ⟨λz V'=>∃xs b,RD V' z.1 z.2.1 z.2.2.1 xs/\RD V' z.2.2.2.1 z.2.2.2.2.1 z.2.2.2.2.2 b/\b.length<=xs.length/\xs.length<=2^40/\val xs+val b=val xa+val xb,⟨λD=>?_,λD=>?_⟩,?_⟩
 ·exact ⟨(_,_,_,_,_,_),η,xb,xa,hb,ha,by simp at D;omega,hn,ω⟩
 ·exact ⟨(_,_,_,_,_,_),η,xa,xb,ha,hb,by simp at D;omega,hm,rfl⟩
 ·rintro ⟨p,n,c,q,m,e⟩ N O ⟨xs,b,x,A,P,hm,g⟩;dsimp only at x A ⊢;rw [<-g];clear g ha hb B C;have L:=x.len;have Q:=A.len;simp (disch:=omega) only [au,dU];have E:((n:Int)+1).toNat=n+1:=ω
  rw [E]
  refine ⟨θ,ω,ω,ω,λz V'=>0<=z.1/\z.1<=1/\0<=z.2.1/\z.2.1<=n/\∃es:zA Nat,z.2.2=aN es/\es.length=n+1/\cK es /\
   val (es.take z.2.1.toNat)+4294967296^z.2.1.toNat*z.1.toNat=val (xs.take z.2.1.toNat)+val (b.take z.2.1.toNat),λz=>n-z.2.1.toNat,⟨(0,0,aN (List.replicate (n+1) 0)),η,by (try dsimp only);omega,by (try dsimp only);omega,by (try dsimp only);omega,by (try dsimp only);omega,_,rfl,ψ,cK.rep _,ψ⟩,?_⟩
  rintro ⟨f,i,R⟩ V2 K ⟨o,F,s,G,es,rfl,H,t,g⟩;dsimp only at o F s G g ⊢;obtain ⟨i,rfl⟩:=č s;obtain ⟨f,rfl⟩:=č o;simp only [Ü] at g;refine ⟨θ,λl=>?_,λl=>?_⟩
  ·have l:i<n:=by simpa using l
   refine (x.le K).rd i rfl ω ?_;have S:=x.gC.get (i:=i) ω
   have next:∀d:Nat,d<8589934592->val (es.take i)+4294967296^i*(d%4294967296)+4294967296^i*4294967296*(d / 4294967296)=val (xs.take (i+1))+val (b.take (i+1)) ->
     ∃a:zA Nat,(aN es).set i (Ô .u32 ((d%4294967296:Nat):Int))=aN a/\a.length=n+1/\cK a /\
     val (a.take (i+1))+4294967296^(i+1)*(d / 4294967296)=val (xs.take (i+1))+val (b.take (i+1)):=by
    intro d T he;refine ⟨es.set i (d%4294967296),bS _ _ _,by simpa using H,t.set _ _ ω,?_⟩;rw [aU _ _ _,ĥ];exact he
   refine ⟨λh=>?_,λh=>?_⟩
   ·have h:i<m:=by{simpa using h};refine (A.le K).rd i rfl ω ?_;have M:=A.gC.get (i:=i) ω;simp (disch:=omega) only [bq,au,kN,wS];refine ⟨⟨ω,ω⟩,by simp;omega,ω,(_,_,_),?_,η,?_⟩;{(try dsimp only);omega};{(try dsimp only);have j:((i:Int)+1).toNat=i+1:=ω;have ⟨a,u,v,I,J⟩:=next (f+xs[i]+b[i]) ω (by rw [aC _ _,aC _ _];exact Bz g rfl);refine ⟨ω,ω,ω,ω,a,?_,v,I,?_⟩;{rw [<-u];simp};{rw [j,<-J];congr 2}}
   ·have h:m<=i:=by simpa using h
    simp (disch:=omega) only [bq,au,kN,wS];refine ⟨⟨ω,ω⟩,by simp;omega,ω,(_,_,_),?_,η,?_⟩
    ·(try dsimp only);omega
    ·(try dsimp only)
     have j:((i:Int)+1).toNat=i+1:=ω
     have ⟨a,u,v,I,J⟩:=next (f+xs[i]) ω (by
      rw [aC _ _,ar (ds:=b) (i:=i+1)];have:=Bz (y:=0) g (d:=f+xs[i]) rfl
      rwa [ar (ds:=b),ī,Ę] at this)
     refine ⟨ω,ω,ω,ω,a,?_,v,I,?_⟩
     ·rw [<-u];simp
     ·rw [j,<-J];congr 2
  ·have l:i=n:=by{simp at l;omega};subst l;simp (disch:=omega) only [wY];refine ⟨⟨ω,ω⟩,by simp;omega,λU W X hb=>?_⟩;have u:(aN es).set (0+((i:Int).toNat)*1) (Ô .u32 (f:Int))=aN (es.set i f):=by{rw [<-bS];simp};rw [u] at hb;have w:=t.set i f ω;refine (bu (RD.bh hb w (n:=i+1) (c:=i+1) (by simp;omega) (Ù _)) (by simp;omega)).s ?_;rintro r Y Z ⟨k,rfl,h⟩;refine ⟨_,_,_,rfl,λ_ V5 l5=>⟨_,_,_,rfl,?_⟩⟩;rw [aZ w] at h;have v:val (es.set i f)=val xs+val b:=by{have:=aU es i f;rw [ar (by simp;omega)] at this;rw [this,g,ar,ar]};rw [v] at h;exact ra
def VM {E A B x y W:Nat}(h:E+B=A+W*c){v:Int}(u:c<=1)(z:x<4294967296)(F:y<4294967296)(M:v=((x:Int)-(c+y))%18446744073709551616):0<=v/\v / 9223372036854775808<=1/\0<=v / 9223372036854775808/\E+W*(v%4294967296).toNat+(B+W*y)=A+W*x+W*4294967296*(v / 9223372036854775808).toNat:=by rcases Ď x (c+y) with d|d;{have e:v=18446744073709551616+(x:Int)-(c+y):=ω;have a:(v / 9223372036854775808).toNat=1:=ω;have b:(v%4294967296).toNat+(c+y)=x+4294967296:=ω;refine ⟨ω,ω,ω,?_⟩;rw [a,ĝ];have:=Æ (W*·) b;simp only [į] at this;omega};{have e:v=(x:Int)-(c+y):=ω;have a:(v / 9223372036854775808).toNat=0:=ω;have b:(v%4294967296).toNat+(c+y)=x:=ω;refine ⟨ω,ω,ω,?_⟩;rw [a,ī,Ę];have:=Æ (W*·) b;simp only [į] at this;omega}
def MS {xs ys}(Z:RD V p n c xs)(hy:RD V q m e ys)(hm:xs.length<=2^40)(hl:ys.length<=xs.length)(hle:val ys<=val xs):À 295 #[pT p n c,pT q m e] V λr W=>∃p' n' c',r=pT p' n' c'/\RN W p' n' c' (val xs-val ys):=by
 have D:=Z.len;have N:=hy.len
 refine LV V _ ⟨ω,ω,ω,λz V'=>0<=z.1/\z.1<=1/\0<=z.2.1/\z.2.1<=n/\∃es:zA Nat,z.2.2=aN es/\es.length=n/\cK es /\
   val (es.take z.2.1.toNat)+val (ys.take z.2.1.toNat)=val (xs.take z.2.1.toNat)+4294967296^z.2.1.toNat*z.1.toNat,λz=>n-z.2.1.toNat,
   ⟨(0,0,List.replicate n (Ô .u32 0)),η,by (try dsimp only);omega,by (try dsimp only);omega,by (try dsimp only);omega,by (try dsimp only);omega,List.replicate n 0,dU n,ψ,cK.rep _,ψ⟩,?_⟩
 rintro ⟨j,i,O⟩ V2 B ⟨l,u,o,w,es,rfl,d,a,s⟩;dsimp only at l u o w s ⊢;obtain ⟨i,rfl⟩:=č o;obtain ⟨j,rfl⟩:=č l;simp only [Ü] at s;refine ⟨θ,λf=>?_,λf=>?_⟩
 ·have f:i<n:=by{simpa using f};refine (Z.le B).rd i rfl ω ?_;have E:=Z.gC.get (i:=i) ω;refine ⟨λz V'=>∃y:Nat,z=j+y/\y<4294967296/\val (ys.take (i+1))=val (ys.take i)+4294967296^i*y,⟨λb=>?_,λb=>?_⟩,?_⟩;{have b:i<m:=by{simpa using b};refine (hy.le B).rd i rfl ω ?_;have g:=hy.gC.get (i:=i) ω;simp (disch:=omega) only [bq];exact ⟨_,η,ys[i],rfl,g,aC _ _⟩};{have b:m<=i:=by{simpa using b};exact ⟨_,η,0,ψ,ω,by rw [ar,ar];simp⟩};{rintro t F G ⟨y,rfl,g,x⟩;refine ⟨θ,⟨ω,by simpa using f⟩,by simp;omega,ω,?_⟩;simp (disch:=omega) only [bq,au,An,kN,Vz];obtain ⟨v,C⟩:∃v:Int,v=((xs[i]:Int)-((j:Int)+(y:Int)))%18446744073709551616:=⟨_,rfl⟩;have ⟨P,H,I,J⟩:=VM s ω E g C;rw [<-C];refine ⟨(_,_,_),?_,η,?_⟩;{(try dsimp only);omega};{(try dsimp only);have A:((i:Int)+1).toNat=i+1:=ω;refine ⟨I,H,ω,ω,es.set i (v%4294967296).toNat,?_,by simpa using d,a.set _ _ ω,?_⟩;{rw [<-bS];congr 2;{simp};{omega}};{rw [A,aU _ _ _,x,J,aC _ _,ĥ]}}}
 ·have f:i=n:=by{simp at f;omega};subst f;intro F G Q K;refine (bu (RD.bh K a (n:=i) (c:=i) d.symm (Ù _))).s ?_;rintro r R S ⟨k,rfl,b⟩;refine ⟨_,_,_,rfl,λ_ T U=>⟨_,_,_,rfl,?_⟩⟩;rw [aZ a] at b;rw [ar,ar,ar] at s;have L:=iV a;rw [d] at L;have M:j=0:=by{rcases ĵ j with h|h;{exact h};{have:4294967296^i*1<=4294967296^i*j:=Ņ _ h;omega}};subst M;rw [show val es=val xs-val ys from by omega] at b;exact ra
def iJ {a b}:nX a b<0↔a<b:=by unfold nX;split;{simp;omega};{split<;>simp<;>omega}
def nY {a b}:nX a b=0↔a=b:=by unfold nX;split;{simp;omega};{split;{simp;omega};{simp;omega}}
def FW (E:RD V p n c xa)(N:RD V q m e xb)(hm:xa.length<=2^40)(O:xb.length<=2^40):À 278 #[pT p n c,pT q m e] V λr W=>∃F n' M,r=æ #[pT F n' M,Õ (decide (val xb<=val xa))]/\RN W F n' M (val xa-val xb):=by refine Ow V _ λj b=>(FR ra ra hm O).s ?_;rintro r V2 k rfl;refine ⟨_,rfl,λa d f=>?_,λa d f=>?_⟩;{have a:val xa<val xb:=by{simpa [iJ] using a};rw [Nat.sub_eq_zero_of_le ω,È ω];exact ⟨_,_,_,rfl,RD.nil⟩};{have a:val xb<=val xa:=by{simpa [<-Ww8,iJ] using a};rw [Ç a];refine (bu ((E.le b).le ax)).s ?_;rintro r l o ⟨s,rfl,g⟩;refine ⟨_,_,_,rfl,λt u=>(bu ((N.le b).le ax)).s ?_⟩;rintro r v w ⟨x,rfl,h⟩;rw [aZ E.gC] at g;rw [aZ N.gC] at h;have:=bH E.gC;refine ⟨_,_,_,rfl,λy z=>(MS ra ra ω (aR a) (by rw [ag,ag];exact a)).s ?_⟩;rintro r A B ⟨F,n',M,rfl,i⟩;rw [ag,ag] at i;exact ⟨_,_,_,rfl,λC D=>⟨_,_,_,rfl,ra⟩⟩}
end Go.Proofs.Tryz
namespace Go.Proofs.Tryz
open Go.Eng Go.Shelf
def nI {k : Nat}{f B : Func}(h : prog.funcs[k]? = some f)(u : (f.name == "runtime.NumGoroutine") = false := by kernel_rfl)(e : f = { B with name := f.name } := by kernel_rfl) : Bears prog k B := ⟨_, u, h.m (Æ some e)⟩
def Ji {k:Nat}{f B:Func}(h:prog.funcs[k]?=some f)(e:f=B:=by kernel_rfl):prog.funcs[k]?=some B:=h.m (Æ some e)
abbrev layP:Ren:=⟨λ|6=>25|15=>63|14=>62|28=>128|29=>129|20=>120|21=>121|22=>122|23=>123|24=>124|25=>125|26=>126|27=>127|46=>186|47=>187|48=>188|49=>189|50=>190|57=>249|n=>n,λ|22=>69|24=>84|25=>87|3=>3|39=>147|0=>0|53=>219|55=>221|4=>4|46=>212|45=>211|50=>216|5=>5|9=>9|66=>274|70=>278|76=>333|77=>334|n=>n,λn=>n⟩
def tF:SlLaysF0.n6 prog layP:=
 ⟨ζ,nI func25,nI func62,Ji func63,nI func120,nI func121,nI func122,nI func123,nI func124,nI func125,nI func126,nI func127,Ji func128,Ji func129,nI func186,Ji func187,Ji func188,nI func189,nI func190,nI func249,underlying0,isAgg0,sizeOf0,zeroValue0,underlying3,isAgg3,sizeOf3,zeroValue3,underlying4,isAgg4,sizeOf4,zeroValue4,underlying5,isAgg5,sizeOf5,zeroValue5,underlying9,isAgg9,sizeOf9,zeroValue9,underlying69,isAgg69,sizeOf69,zeroValue69,underlying87,isAgg87,sizeOf87,zeroValue87,underlying147,isAgg147,sizeOf147,zeroValue147,underlying211,isAgg211,sizeOf211,zeroValue211,underlying212,isAgg212,sizeOf212,zeroValue212,underlying216,isAgg216,sizeOf216,zeroValue216,underlying219,isAgg219,sizeOf219,zeroValue219,underlying221,isAgg221,sizeOf221,zeroValue221,underlying274,isAgg274,sizeOf274,zeroValue274,underlying278,isAgg278,sizeOf278,zeroValue278,underlying333,isAgg333,sizeOf333,zeroValue333,underlying334,isAgg334,sizeOf334,zeroValue334⟩
def aggP:∀w,(isAgg (layP.t 24)).run prog w=.ok true w:=isAgg84
def sizP:∀w,(Go.sizeOf (layP.t 24)).run prog w=.ok 6 w:=sizeOf84
abbrev layL:Ren:=⟨λ|6=>108|15=>63|14=>177|28=>128|29=>129|20=>233|21=>234|22=>235|23=>236|24=>237|25=>238|26=>239|27=>240|46=>271|47=>187|48=>188|49=>272|50=>273|57=>282|n=>n,λ|22=>137|24=>76|25=>198|3=>3|39=>147|0=>0|53=>219|55=>221|4=>4|46=>212|45=>211|50=>216|5=>5|9=>9|66=>274|70=>278|76=>333|77=>334|n=>n,λn=>n⟩
def GL:SlLaysF0.n6 prog layL:=
 ⟨ζ,nI func108,nI func177,Ji func63,nI func233,nI func234,nI func235,nI func236,nI func237,nI func238,nI func239,nI func240,Ji func128,Ji func129,nI func271,Ji func187,Ji func188,nI func272,nI func273,nI func282,underlying0,isAgg0,sizeOf0,zeroValue0,underlying3,isAgg3,sizeOf3,zeroValue3,underlying4,isAgg4,sizeOf4,zeroValue4,underlying5,isAgg5,sizeOf5,zeroValue5,underlying9,isAgg9,sizeOf9,zeroValue9,underlying137,isAgg137,sizeOf137,zeroValue137,underlying198,isAgg198,sizeOf198,zeroValue198,underlying147,isAgg147,sizeOf147,zeroValue147,underlying211,isAgg211,sizeOf211,zeroValue211,underlying212,isAgg212,sizeOf212,zeroValue212,underlying216,isAgg216,sizeOf216,zeroValue216,underlying219,isAgg219,sizeOf219,zeroValue219,underlying221,isAgg221,sizeOf221,zeroValue221,underlying274,isAgg274,sizeOf274,zeroValue274,underlying278,isAgg278,sizeOf278,zeroValue278,underlying333,isAgg333,sizeOf333,zeroValue333,underlying334,isAgg334,sizeOf334,zeroValue334⟩
def aggL:∀w,(isAgg (layL.t 24)).run prog w=.ok true w:=isAgg76
def sizL:∀w,(Go.sizeOf (layL.t 24)).run prog w=.ok 9 w:=sizeOf76
abbrev layC:Ren:=⟨λ|6=>243|15=>63|14=>275|28=>128|29=>129|20=>286|21=>287|22=>288|23=>289|24=>290|25=>291|26=>292|27=>293|46=>296|47=>187|48=>188|49=>297|50=>298|57=>299|n=>n,λ|22=>325|24=>328|25=>330|3=>3|39=>147|0=>0|53=>219|55=>221|4=>4|46=>212|45=>211|50=>216|5=>5|9=>9|66=>274|70=>278|76=>333|77=>334|n=>n,λn=>n⟩
def GJ:SlLaysF0.n6 prog layC:=
 ⟨ζ,nI func243,nI func275,Ji func63,nI func286,nI func287,nI func288,nI func289,nI func290,nI func291,nI func292,nI func293,Ji func128,Ji func129,nI func296,Ji func187,Ji func188,nI func297,nI func298,nI func299,underlying0,isAgg0,sizeOf0,zeroValue0,underlying3,isAgg3,sizeOf3,zeroValue3,underlying4,isAgg4,sizeOf4,zeroValue4,underlying5,isAgg5,sizeOf5,zeroValue5,underlying9,isAgg9,sizeOf9,zeroValue9,underlying325,isAgg325,sizeOf325,zeroValue325,underlying330,isAgg330,sizeOf330,zeroValue330,underlying147,isAgg147,sizeOf147,zeroValue147,underlying211,isAgg211,sizeOf211,zeroValue211,underlying212,isAgg212,sizeOf212,zeroValue212,underlying216,isAgg216,sizeOf216,zeroValue216,underlying219,isAgg219,sizeOf219,zeroValue219,underlying221,isAgg221,sizeOf221,zeroValue221,underlying274,isAgg274,sizeOf274,zeroValue274,underlying278,isAgg278,sizeOf278,zeroValue278,underlying333,isAgg333,sizeOf333,zeroValue333,underlying334,isAgg334,sizeOf334,zeroValue334⟩
def aggC:∀w,(isAgg (layC.t 24)).run prog w=.ok true w:=isAgg328
def sizC:∀w,(Go.sizeOf (layC.t 24)).run prog w=.ok 5 w:=sizeOf328
abbrev Ui:Ren:=⟨λ|133=>250|128=>128|n=>n,λ|51=>219|3=>3|4=>4|46=>147|5=>5|9=>9|n=>n,λn=>n⟩
def KI:Lays.n133 prog Ui:=
 ⟨ζ,Ji func128,Ji func250,underlying3,isAgg3,sizeOf3,zeroValue3,underlying4,isAgg4,sizeOf4,zeroValue4,underlying5,isAgg5,sizeOf5,zeroValue5,underlying9,isAgg9,sizeOf9,zeroValue9,underlying147,isAgg147,sizeOf147,zeroValue147,underlying219,isAgg219,sizeOf219,zeroValue219⟩
abbrev Ro:Ren:=⟨λ|264=>255|n=>n,λ|53=>221|46=>147|n=>n,λn=>n⟩
def Gt:Lays.n264 prog Ro:=
 ⟨ζ,Ji func255,underlying147,isAgg147,sizeOf147,zeroValue147,underlying221,isAgg221,sizeOf221,zeroValue221⟩
end Go.Proofs.Tryz
namespace Go.Big
def dL (n:Nat):Nat:=if n=0 then 0 else n.log2+1
def wu (n:Nat):n<2^dL n:=by unfold dL;split;{subst_vars;decide};{exact Nat.lt_log2_self}
def Bg {n:Nat}(h:n≠0):2^(dL n-1)<=n:=by unfold dL;rw [Ã h];exact Nat.log2_self_le h
def JE {n b:Nat}(y:n<2^b)(u:b=0\/2^(b-1)<=n):dL n=b:=by rcases u with u|u;{subst u;have:n=0:=by{simpa using y};subst this;rfl};{have a:n≠0:=by{have:=ĳ (b-1);omega};have c:=wu n;have d:=Bg a;have e:¬dL n<b:=λh=>by{have:=ķ (n:=2) ω (show dL n<=b-1 by omega);omega};have f:¬b<dL n:=λh=>by{have:=ķ (n:=2) ω (show b<=dL n-1 by omega);omega};omega}
def mC {n b:Nat}:dL n<=b↔n<2^b:=by constructor;{intro h;exact ľ (wu n) (ķ ω h)};{intro h;rcases Ď b (dL n) with a|a;{have c:n≠0:=by{intro e;subst e;simp [dL] at a};have:=Bg c;have:=ķ (n:=2) ω (show b<=dL n-1 by omega);omega};{exact a}}
end Go.Big
namespace Go.Proofs.Tryz
open Go.Eng Go.Big Go.Proofs Go.Shelf
variable{V:Ó}
def jT (a k:Nat):((a:Nat):Int).fdiv (2^k)=((a / 2^k:Nat):Int):=χ
def FA {f args V v}(u:iF prog f)(h:Calls prog f args V.w λe w'=>e=.returned v/\w'=V.w):À f args V λr _=>r=v:=
 ⟨u,h.s λe w' ⟨a,b⟩=>by subst b;exact ⟨v,a,kv.refl _ _,rfl⟩⟩
def lt_bl:∀x:Nat,x<2^64->x<2^Lib.bitLen x:=by
 intro x
 induction x using Nat.strongRecOn<;>grind [Lib.bitLen_half]
def bl_eq {x}(h:x<2^64:=by omega):Lib.bitLen x=dL x:=
 Nat.le_antisymm (Lib.bitLen_le x _ (mC.2 h) (wu x)) (mC.2 (lt_bl x h))
theorem jf (x:Nat)(u:x<4294967296):À 250 #[Ô .u32 (x:Int)] V λr W=>r=Ô .i64 (32-(dL x:Int)):=by have h:=FA (V:=V) ⟨_,KI.f133,rfl,ζ⟩ (Any.bits_LeadingZeros32 KI (x:Int) V.w ω ω);rw [Ü,bl_eq] at h;exact h
def and64 (a:Nat)(u:a<18446744073709551616:=by omega):b_ .and .u64 (a:Int) 4294967295=((a%4294967296:Nat):Int):=by rw [b_,An];have b:(BitVec.ofInt IntKind.u64.bits ((a:Nat):Int) &&& BitVec.ofInt IntKind.u64.bits 4294967295).toNat=a%4294967296:=by{show (BitVec.ofInt 64 ((a:Nat):Int) &&& BitVec.ofInt 64 ((4294967295:Nat):Int)).toNat=_;rw [ř,ř,BitVec.toNat_and,Ŕ,Ŕ,Ĕ ω,Ĕ ω];have:=Nat.and_two_pow_sub_one_eq_mod a 32;exact this};omega
def WW (x y:Nat)(u:x<18446744073709551616)(z:y<18446744073709551616:=by omega):À 255 #[Ô .u64 (x:Int),Ô .u64 (y:Int)] V λr W=>r=æ #[Ô .u64 ((x*y / 18446744073709551616:Nat):Int),Ô .u64 ((x*y%18446744073709551616:Nat):Int)]:=
 FA (V:=V) ⟨_,Gt.f264,rfl,ζ⟩ (Any.bits_Mul64 Gt x y u z V.w)
def WU (x y c:Nat)(u:x<4294967296)(z:y<4294967296)(E:c<4294967296:=by omega):À 257 #[Ô .u32 (x:Int),Ô .u32 (y:Int),Ô .u32 (c:Int)] V λr W=>r=æ #[Ô .u32 (((x+y+c)%4294967296:Nat):Int),Ô .u32 (((x+y+c) / 4294967296:Nat):Int)]:=by refine vr V _ ⟨ω,λd e=>?_⟩;simp (disch:=omega) only [bq,kN,wS];have a:((x:Int)+y+c)%4294967296=(((x+y+c)%4294967296:Nat):Int):=ω;have b:((x:Int)+y+c) / 4294967296%4294967296=(((x+y+c) / 4294967296:Nat):Int):=ω;rw [a,b]
end Go.Proofs.Tryz
namespace Go.Proofs.Tryz
open Go.Eng Go.Big
variable{V:Ó}{p:OA}{c n r:Nat}{ds:List Nat}
def U1 (a b:Nat)(u:a<4294967296)(y:b<4294967296):b_ .or .u64 (b:Int) ((a:Int)*4294967296)=(b:Int)+(a:Int)*4294967296:=by have h:b_ .or .u64 (b:Int) ((a:Int)*4294967296)=b_ .or .u64 ((a:Int)*4294967296) (b:Int):=by{simp only [b_,BitVec.or_comm]};rw [h,KT a b u y];omega
def or64z (b:Nat)(u:b<4294967296):b_ .or .u64 0 (b:Int)=b:=by have:=KT 0 b ω u;simpa using this
def pg (h:RD V p n c ds)(hm:ds.length<=2^40:=by omega):À 194 #[pT p n c] V λr W=>r=æ #[Ô .u64 ((if val ds<18446744073709551616 then val ds else 0:Nat):Int),Õ (decide (val ds<18446744073709551616))]:=by refine LU V _ λv w=>(bu ra).s ?_;rintro r V2 y ⟨n,rfl,e⟩;rw [aZ h.gC] at e;generalize val ds=x at *;have A:=e.len;have B:(ai x).length<=2↔x<18446744073709551616:=aQ (k:=2);refine ⟨_,_,_,rfl,λa C D=>?_,λa=>?_⟩;{have a:¬x<18446744073709551616:=by{simp at a;omega};rw [Ã a,È a];rfl};{have l:x<18446744073709551616:=by{simp at a;omega};rw [Ä l,Ç l];have E:n<=2:=ω;refine ⟨λz V'=>0<=z.2/\z.2<=n/\z.1=(val ((ai x).take z.2.toNat):Int),λz=>n-z.2.toNat,⟨(0,0),by (try dsimp only);and_intros<;>trivial,ω,ω,ψ⟩,?_⟩;rintro ⟨u,i⟩ F o ⟨d,f,hu⟩;dsimp only at d f hu ⊢;subst hu;obtain ⟨i,rfl⟩:=č d;simp only [Ü];refine ⟨θ,λb=>?_,λb G H=>?_⟩;{have b:i<n:=by{simpa using b};refine (e.le o).rd i rfl ω ?_;have m:=(aO x).get (i:=i) ω;simp (disch:=omega) only [au];refine ⟨ω,(_,_),?_,by (try dsimp only);and_intros<;>trivial,?_⟩;{(try dsimp only);omega};{(try dsimp only);refine ⟨ω,ω,?_⟩;have g:((i:Int)+1).toNat=i+1:=ω;rw [g,aC _ _];have q:i=0\/i=1:=ω;rcases q with rfl|rfl;{simp (disch:=omega) only [bq];have j:(min ((32:Int)*((0:Nat):Int)).toNat IntKind.u64.bits)=0:=φ;rw [j];simp (disch:=omega) only [bq,Int.pow_zero,Int.mul_one,Qf4,gi,Nat.pow_zero,ŋ,Ĉ];exact or64z _ m};{have j:(min ((32:Int)*((1:Nat):Int)).toNat IntKind.u64.bits)=32:=φ;have a:0<(ai x).length:=ω;have s:(ai x).take 1=[(ai x)[0]]:=by{rw [Qz3 a];rfl};have t:((2:Int)^32)=4294967296:=φ;rw [j,s,t];simp (disch:=omega) only [bq];simp only [bP,gi,ī,Ę];rw [U1 _ _ m ((aO x).get (i:=0) a)];omega}}};{have b:i=n:=by{simp at b;omega};subst b;rw [ar,ag]}}
theorem lq (h:RD V p n c ds)(hm:ds.length<=2^40):À 191 #[pT p n c] V λr W=>r=Ô .i64 (dL (val ds):Int):=by have k:=bH h.gC;refine LR V _ λo q=>(bu ra).s ?_;rintro r V2 s ⟨n,rfl,g⟩;rw [aZ h.gC] at g;generalize val ds=x at *;have l:=g.len;refine ⟨_,_,_,rfl,λf t u=>?_,λf=>?_⟩;{have:ai x=[]:=Ĝ.1 (by simp at f;omega);have:=bR.1 this;subst this;rfl};{have f:0<n:=by{simp at f;omega};simp (disch:=omega) only [au];refine g.rd (n-1) ω ω λv w=>(jf _ ((aO x).get ω)).s λr y z rfl=>⟨_,rfl,λA B=>?_⟩;have C:=(aO x).get (i:=n-1) ω;have a:(ai x)[n-1]≠0:=by{have:=(lO x).last ω;simpa [l] using this};have D:dL (ai x)[n-1]<=32:=mC.2 ω;simp (disch:=omega) only [au];have key:dL x=32*(n-1)+dL (ai x)[n-1]:=by{have e:=jz (ai x) (n-1) ω;rw [ag,Ŀ ω] at e;simp only [gi,ī,Ę] at e;have b:=iV ((aO x).take (n-1));rw [ê,ğ ω] at b;have j:(4294967296:Nat)^(n-1)=2^(32*(n-1)):=by{rw [Wx1]};rw [j] at e b;generalize (ai x)[n-1]=d at *;have m:0<dL d:=by{unfold dL;rw [Ã a];omega};refine JE ?_ (.inr ?_);{rw [đ];have:2^(32*(n-1))*(d+1)<=2^(32*(n-1))*2^dL d:=Ņ _ (wu d);rw [į,ĝ] at this;omega};{rw [show 32*(n-1)+dL d-1=32*(n-1)+(dL d-1) from by omega,đ];have:2^(32*(n-1))*2^(dL d-1)<=2^(32*(n-1))*d:=Ņ _ (Bg a);omega}};rw [key];congr 1;omega}
def KL {E S t x y e Y B D:Nat}(h:E+B*D*c=S+B*x*Y)(u:t=c+x*y+e):E+B*D*(t%4294967296)+B*D*4294967296*(t / 4294967296)=S+B*D*e+B*x*(Y+D*y):=by have a:B*D*(t%4294967296)+B*D*4294967296*(t / 4294967296)=B*D*t:=by{rw [ń (B*D),<-į,Qg7]};rw [ň,a,u];grind
def ji {q m e xa xb}(ha:RD V p n c xa)(hb:RD V q m e xb)(hm:xa.length+xb.length<=2^40:=by omega):À 140 #[pT p n c,pT q m e] V λr W=>∃p' n' c',r=pT p' n' c'/\RN W p' n' c' (val xa*val xb):=by
 have la:=bH ha.gC;have lb:=bH hb.gC;refine Ot V _ λV1 l1=>(bu ra).s ?_;rintro r V2 l2 ⟨n,rfl,o⟩;rw [aZ ha.gC] at o;refine ⟨_,_,_,rfl,λV3 R=>(bu ra).s ?_⟩;rintro r V4 S ⟨m,rfl,F⟩;rw [aZ hb.gC] at F
 replace o:=o.le (R.m S)
 have T:=o.len;have Mr:=F.len;have u:val xa=val (ai (val xa)):=(ag _).symm;have v:val xb=val (ai (val xb)):=(ag _).symm;rw [u,v];clear u v;generalize ai (val xa)=xs at *;generalize ai (val xb)=ys at *;refine ⟨_,_,_,rfl,?_⟩;simp (disch:=omega) only [au,dU];have H:((n:Int)+m).toNat=n+m:=ω
 rw [H]
 refine ⟨ω,ω,ω,λz V'=>0<=z.1/\z.1<=n/\∃es:zA Nat,z.2=aN es/\es.length=n+m/\cK es /\
  val (es.take (z.1.toNat+m))=val (xs.take z.1.toNat)*val ys,λz=>n-z.1.toNat,⟨(0,aN (List.replicate (n+m) 0)),η,by (try dsimp only);omega,by (try dsimp only);omega,_,rfl,ψ,cK.rep _,by simp [Bs,Qr7]⟩,?_⟩
 rintro ⟨i,U⟩ V5 W ⟨w,I,es,rfl,J,g,y⟩;dsimp only at w I y ⊢;obtain ⟨i,rfl⟩:=č w;simp only [Ü] at y;refine ⟨θ,λs=>?_,λs=>?_⟩
 ·have s:i<n:=by simpa using s
  refine (o.le W).rd i rfl ω ?_;have Ed:=o.gC.get (i:=i) ω
  refine ⟨λz V'=>0<=z.1/\z.1<=4294967295/\0<=z.2.1/\z.2.1<=m/\∃a:zA Nat,z.2.2=aN a/\a.length=n+m/\cK a/\a.drop (i+z.2.1.toNat)=es.drop (i+z.2.1.toNat) /\
   val (a.take (i+z.2.1.toNat))+4294967296^(i+z.2.1.toNat)*z.1.toNat=val (es.take (i+z.2.1.toNat))+4294967296^i*xs[i]*val (ys.take z.2.1.toNat),λz=>m-z.2.1.toNat,
   ⟨(0,0,aN es),η,by (try dsimp only);omega,by (try dsimp only);omega,by (try dsimp only);omega,by (try dsimp only);omega,es,rfl,J,g,rfl,ψ⟩,?_⟩
  rintro ⟨G,k,U⟩ X Y ⟨A,K,B,L,a,rfl,C,h,d,hw⟩;dsimp only at A K B L d hw ⊢;obtain ⟨k,rfl⟩:=č B;obtain ⟨G,rfl⟩:=č A;simp only [Ü] at d hw;refine ⟨θ,λf=>?_,λf=>?_⟩
  ·have f:k<m:=by{simpa using f};refine (F.le ax).rd k rfl ω ?_;have Z:=F.gC.get (i:=k) ω;have P:=h.get (i:=i+k) ω;have M:a[i+k]'ω=es[i+k]'ω:=by{have Q:a[i+k]?=es[i+k]?:=by{have:=Æ (λl=>l[0]?) d;simpa [Qn5] using this};rw [ï ω,ï ω] at Q;exact ŏ Q};simp (disch:=omega) only [au];have j:((i:Int)+k).toNat=i+k:=ω;rw [j];refine ⟨⟨ω,ω⟩,((a[i+k]'ω:Nat):Int),by rw [Ĉ,ĝ];exact iT ω,⟨ω,ω⟩,by simp;omega,ω,?_⟩;have a0:xs[i]*ys[k]<=4294967295*4294967295:=Qg2 ω ω;have D:(xs[i]:Int)*(ys[k]:Int)=((xs[i]*ys[k]:Nat):Int):=ψ;obtain ⟨t,ht⟩:∃t:Nat,t=G+xs[i]*ys[k]+a[i+k]'ω:=⟨_,rfl⟩;rw [đ] at hw;have b:=KL hw ht;have e1:u64.wrap ((G:Int)+u64.wrap (u64.wrap (u64.wrap (xs[i]:Int)*u64.wrap (ys[k]:Int))+u64.wrap ((a[i+k]'ω:Nat):Int)))=(t:Int):=by{clear b;generalize xs[i]*ys[k]=pq at *;rw [bq (x:=(xs[i]:Int)) ω,bq (x:=(ys[k]:Int)) ω,D,bq (x:=((pq:Nat):Int)) ω];simp (disch:=omega) only [bq];omega};rw [e1,kN,wS];refine ⟨(_,_,_),?_,η,?_⟩;{(try dsimp only);omega};{(try dsimp only);have E:((k:Int)+1).toNat=k+1:=ω;refine ⟨ω,ω,ω,ω,a.set (i+k) (t%4294967296),?_,by simpa using C,h.set _ _ ω,?_,?_⟩;{rw [<-bS];simp};{rw [E,Qn0 ω];have:=Æ (List.drop 1) d;simpa [Qh9,Wy2,ň,Nat.add_left_comm] using this};{rw [E,show i+(k+1)=i+k+1 from by omega,aU _ _ _,aC es (i+k),aC ys k,<-M,ĥ];have e2:((t:Int) / 4294967296).toNat=t / 4294967296:=ω;rw [e2,đ,b]}}
  ·have f:k=m:=by{simp at f;omega};subst f;simp (disch:=omega) only [au];have j:((i:Int)+k).toNat=i+k:=ω;rw [j];refine ⟨⟨ω,ω⟩,by simp;omega,(_,_),?_,η,?_⟩;{(try dsimp only);omega};{(try dsimp only);have N:((i:Int)+1).toNat=i+1:=ω;refine ⟨ω,ω,a.set (i+k) G,?_,by simpa using C,h.set _ _ ω,?_⟩;{rw [<-bS,wY ω];simp};{rw [N,show i+1+k=i+k+1 from by omega,aU _ _ _,hw,y,aC xs i,ar (ds:=ys)];grind}}
 ·have s:i=n:=by{simp at s;omega};subst s;intro X Y bk O;refine (bu (RD.bh O g (n:=i+m) (c:=i+m) ω (Ù _))).s ?_;rintro r V7 l7 ⟨k,rfl,f⟩;refine ⟨_,_,_,rfl,λ_ V8 l8=>⟨_,_,_,rfl,?_⟩⟩;rw [aZ g] at f;rw [ar,ar] at y;rw [y] at f;exact ra
def De {x A d q rest B W:Nat}(u:A=d*B+rest)(h:d*q+r=rest*W+x):x+W*A=d*(q+W*B)+r:=by subst u;grind
def JU {xs}(O:RD V p n c xs)(hm:xs.length<=2^40)(d:Nat)(hd0:d≠0)(hd:d<4294967296):À 253 #[pT p n c,Ô .u32 (d:Int)] V λr W=>∃Z n' c',r=æ #[pT Z n' c',Ô .u32 ((val xs%d:Nat):Int)]/\RN W Z n' c' (val xs / d):=by
 have v:=O.len;refine IZ V _ ⟨ω,ω,ω,?_⟩;simp (disch:=omega) only [au,bq,Ü,dU]
 refine ⟨λz V'=>0<=z.1/\z.1<d/\-1<=z.2.1/\z.2.1<n/\∃es:zA Nat,z.2.2=aN es/\es.length=n/\cK es /\
   val (xs.drop (z.2.1+1).toNat)=d*val (es.drop (z.2.1+1).toNat)+z.1.toNat,λz=>(z.2.1+1).toNat,
   ⟨(0,(n:Int)-1,aN (List.replicate n 0)),η,by (try dsimp only);omega,by (try dsimp only);omega,by (try dsimp only);omega,by (try dsimp only);omega,_,rfl,ψ,cK.rep _,?_⟩,?_⟩
 ·(try dsimp only);rw [Ŀ ω,Ŀ ψ];rfl
 rintro ⟨rest,i,E⟩ V2 w ⟨f,g,h,j,es,rfl,m,b,a⟩;dsimp only at f g h j a ⊢;obtain ⟨rest,rfl⟩:=č f;refine ⟨θ,λe=>?_,λe=>?_⟩
 ·have e:0<=i:=by{simpa using e};obtain ⟨i,rfl⟩:=č e;have o:((i:Int)+1).toNat=i+1:=ω;rw [o] at a;simp only [Ü] at a;refine ⟨ω,(O.le w).rd i rfl ω ?_⟩;have x:=O.gC.get (i:=i) ω;have s:b_ .or .u64 (u64.wrap ((rest:Int)*2^32)) (u64.wrap ((xs[i]:Nat):Int))=((rest*4294967296+xs[i]:Nat):Int):=by{have y:((2:Int)^32)=4294967296:=φ;rw [y,bq ω,bq ω,KT _ _ ω x];omega};rw [s];have t:((rest*4294967296+xs[i]:Nat):Int).tdiv (d:Int)=(((rest*4294967296+xs[i]) / d:Nat):Int):=by{rw [Qj6 ω];omega};have A:((rest*4294967296+xs[i]:Nat):Int).tmod (d:Int)=(((rest*4294967296+xs[i])%d:Nat):Int):=by{rw [Qk9 ω];omega};rw [t,A];have F:(rest*4294967296+xs[i]) / d<4294967296:=by{rw [Qb8 ω];have:rest+1<=d:=ω;have:=Ă 4294967296 this;rw [Ľ 4294967296 d];omega};have G:(rest*4294967296+xs[i])%d<d:=ė _ ω;have B:=Qd5 (rest*4294967296+xs[i]) d;generalize (rest*4294967296+xs[i]) / d=q at *;generalize (rest*4294967296+xs[i])%d=r at *;simp (disch:=omega) only [bq,wY,au];refine ⟨ω,⟨ω,ω⟩,by simp;omega,ω,?_⟩;refine ⟨((r:Int),(i:Int)-1,aN (es.set i q)),?_,?_,?_⟩;{(try dsimp only);omega};{(try dsimp only);(and_intros<;>first|trivial|(rw [<-bS];simp))};{(try dsimp only);refine ⟨ω,ω,ω,ω,_,rfl,by simpa using m,b.set _ _ ω,?_⟩;have u:((i:Int)-1+1).toNat=i:=ω;rw [u,Ī ω,Ī (l:=es.set i q) (by simp;omega),Qg0,Qn0 ω];rw [bP,bP,Ü];exact (De a B)}
 ·have e:i=-1:=by{simp at e;omega};subst e;simp only [Ü] at a;have a:val xs=d*val es+rest:=by{simpa using a};intro H I J C;refine (bu (RD.bh C b (n:=n) (c:=n) ω (Ù _))).s ?_;rintro r K L ⟨k,rfl,D⟩;refine ⟨_,_,_,rfl,λ_ M N=>?_⟩;have s:val xs / d=val es:=by{rw [a,Wj3 ω,ŕ ω,Ę]};have t:val xs%d=rest:=by{rw [a,Wj4,Ĕ ω]};rw [wY ω,s,t];rw [aZ b] at D;exact ⟨_,_,_,rfl,ra⟩
def NJ (a b:Nat)(u:a<4294967296)(y:b<4294967296:=by omega):b_ .or .u32 (a:Int) (b:Int)=((a ||| b:Nat):Int):=by rw [b_,kN];have c:(BitVec.ofInt IntKind.u32.bits ((a:Nat):Int) ||| BitVec.ofInt IntKind.u32.bits (b:Int)).toNat=a ||| b:=by{show (BitVec.ofInt 32 ((a:Nat):Int) ||| BitVec.ofInt 32 (b:Int)).toNat=_;rw [ř,ř,Wj2,Ŕ,Ŕ,Ĕ ω,Ĕ ω]};have d:a ||| b<2^32:=Wz6 ω ω;rw [c];omega
def or_low {m:Nat}(h:c<2^r):c ||| m*2^r=c+m*2^r:=by rw [Nat.or_comm,<-Wk6,<-Wq6 h,Wy2]
def Lj {d:Nat}(u:d<4294967296)(z:r<32)(y:c<2^r):c ||| (d*2^r%4294967296)=c+d*2^r%4294967296/\c+d*2^r%4294967296<4294967296/\d*2^r / 4294967296<2^r/\d*2^r<18446744073709551616:=by have e:4294967296=2^(32-r)*2^r:=by{rw [<-đ,Qm3 ω]};have a:d*2^r%4294967296=(d%2^(32-r))*2^r:=by{rw [e,Nat.mul_mod_mul_right]};have f:d%2^(32-r)+1<=2^(32-r):=ė _ (ĳ _);have b:=Ă (2^r) f;have h:2^r<=2^31:=ķ ω ω;have g:d*2^r<4294967296*2^r:=Qc6 u (ĳ _);refine ⟨by rw [a,or_low y],?_,?_,ω⟩;{rw [a];rw [Ē,ŋ] at b;rw [<-e] at b;omega};{rw [Qb8 ω,Ľ (2^r)];exact g}
def FV (h:RD V p n c ds)(hm:ds.length<=2^40)(k:Nat)(hk:k<=1048576:=by omega):À 279 #[pT p n c,Ô .u64 (k:Int)] V λr W=>∃p' n' c',r=pT p' n' c'/\RN W p' n' c' (val ds*2^k)/\(val ds=0\/c'=(ai (val ds)).length+k / 32+1):=by
 have H:=bH h.gC;refine Ou V _ λW X=>(bu ra).s ?_;rintro r V2 Y ⟨n,rfl,s⟩;rw [aZ h.gC] at s;generalize hxv:val ds=x at *;have Z:=s.len;refine ⟨_,_,_,rfl,λq V3 l3=>?_,λq=>?_⟩
 ·have:ai x=[]:=Ĝ.1 (by simp at q;omega);have:=bR.1 this;subst this;rw [œ];exact ⟨_,_,_,rfl,RD.nil,.inl rfl⟩
 ·have q:0<n:=by simp at q;omega
  have E:cH (k:Int) 1048576=k:=by unfold cH;rw [Ã ω]
  have F:(k:Int).tdiv 32=((k / 32:Nat):Int):=by rw [Qj6 ω];omega
  have G:(k:Int).tmod 32=((k%32:Nat):Int):=by rw [Qk9 ω];omega
  rw [E,F,G]
  have t:x*2^k=4294967296^(k / 32)*x*2^(k%32):=by have:2^k=4294967296^(k / 32)*2^(k%32):=by{rw [show (4294967296:Nat)=2^32 from rfl,<-Wx1,<-đ,Qd5]};rw [this];grind
  rw [t];generalize hw:k / 32=w at *;have u:k%32<32:=ė _ ω;have I:w<=32768:=ω
  generalize k%32=r at *;clear E F G;simp (disch:=omega) only [au,bq,dU];have v:((n:Int)+w+1).toNat=n+w+1:=ω
  rw [v]
  refine ⟨ω,ω,ω,ω,ω,λz V'=>0<=z.1/\z.1<=n/\∃es:zA Nat,z.2=aN es/\es.length=n+w+1/\cK es/\(∀c,es[z.1.toNat+w]?=some c->c<2^r) /\
   val (es.take (z.1.toNat+w+1))=4294967296^w*val ((ai x).take z.1.toNat)*2^r,λz=>n-z.1.toNat,
   ⟨(0,aN (List.replicate (n+w+1) 0)),η,ω,ω,_,rfl,ψ,cK.rep _,?_,?_⟩,?_⟩
  ·intro c a;rw [Qs7] at a;split at a;{cases a;exact ĳ r};{cases a}
  ·simp [Qr7,Bs]
  rintro ⟨i,vs⟩ V4 J ⟨f,y,es,rfl,A,b,a,d⟩;dsimp only at f y a d ⊢;obtain ⟨i,rfl⟩:=č f;simp only [Ü] at a d;refine ⟨θ,λe=>?_,λe=>?_⟩
  ·have e:i<n:=by{simpa using e};refine (s.le J).rd i rfl ω ?_;have K:=(aO x).get (i:=i) ω;have B:=a (es[i+w]'ω) (ï _);have ⟨L,g2,M,g4⟩:=Lj K u B;have g:(min ((r:Nat):Int).toNat IntKind.u64.bits)=r:=by{show min _ 64=r;omega};have N:((2:Int)^r)=((2^r:Nat):Int):=ψ;rw [g,N];have hmul:(((ai x)[i]:Nat):Int)*((2^r:Nat):Int)=(((ai x)[i]*2^r:Nat):Int):=ψ;simp (disch:=omega) only [au];rw [bq (x:=(((ai x)[i]:Nat):Int)) ω,hmul,bq ω,kN,wS];have C:((i:Int)+w).toNat=i+w:=ω;have j:((i:Int)+w+1).toNat=i+w+1:=ω;rw [C,j];refine ⟨ω,⟨ω,ω⟩,((es[i+w]'ω:Nat):Int),by rw [Ĉ,ĝ];exact iT ω,⟨ω,ω⟩,by simp;omega,ω,⟨ω,ω⟩,by simp;omega,?_⟩;have O:(((ai x)[i]*2^r:Nat):Int)%4294967296=(((ai x)[i]*2^r%4294967296:Nat):Int):=ω;have P:(((ai x)[i]*2^r:Nat):Int) / 4294967296=(((ai x)[i]*2^r / 4294967296:Nat):Int):=ω;rw [O,P,NJ _ _ ω,L];have Q:=Qg7 ((ai x)[i]*2^r) 4294967296;have R:(ai x)[i]*2^r / 4294967296<4294967296:=ω;have D:val (List.take (i+1) (ai x))=val (List.take i (ai x))+4294967296^i*(ai x)[i]:=aC _ _;have l:val (es.take (i+w+1))=val (es.take (i+w))+4294967296^(i+w)*es[i+w]'ω:=aC _ _;generalize (ai x)[i]*2^r%4294967296=lo at *;generalize hhi:(ai x)[i]*2^r / 4294967296=hi at *;rw [wY ω];refine ⟨((i:Int)+1,aN ((es.set (i+w) (es[i+w]'ω+lo)).set (i+w+1) hi)),?_,?_,?_⟩;{(try dsimp only);omega};{(try dsimp only);(and_intros<;>first|trivial|(rw [<-bS,<-bS];simp))};{(try dsimp only);have m:((i:Int)+1).toNat=i+1:=ω;refine ⟨ω,ω,_,rfl,by simpa using A,(b.set _ _ ω).set _ _ ω,?_,?_⟩;{intro c o;rw [m,show i+1+w=i+w+1 from by omega,Qt4 (by simp;omega)] at o;cases o;exact M};{rw [m,show i+1+w+1=i+w+1+1 from by omega,aU _ _ _ (by simp;omega),aU _ _ _,D];rw [l] at d;have S:4294967296^(i+w+1)*hi=4294967296^(i+w)*(4294967296*hi):=by{rw [ĥ];grind};rw [S,į,<-ň,d,ň,<-į,Q,đ];grind}}
  ·have e:i=n:=by{simp at e;omega};subst e;intro V5 l5 bk T;refine (bu (RD.bh T b (n:=i+w+1) (c:=i+w+1) ω (Ù _))).s ?_;rintro r' V6 l6 ⟨k',rfl,U⟩;refine ⟨_,_,_,rfl,λ_ V7 l7=>⟨_,_,_,rfl,?_,.inr ω⟩⟩;rw [ar,ar,ag] at d;rw [aZ b,d] at U;exact ra
def Lk {d Y r:Nat}(u:d<4294967296)(y:r<32):(d+4294967296*Y) / 2^r=(d+4294967296*(Y%4294967296)) / 2^r%4294967296+4294967296*(Y / 2^r):=by
 have e:4294967296=2^r*2^(32-r):=by rw [<-đ,Nat.add_sub_cancel' ω]
 have c:=ĳ r;have k:=ĳ (32-r);generalize z:2^r=a at *;generalize E:2^(32-r)=b at *
 have f:∀Z,(d+4294967296*Z) / a=d / a+b*Z:=by intro Z;rw [e,ń,Qg5 _ _ c]
 rw [f,f]
 have g:d / a<b:=by rw [Qb8 c,Ľ,<-e];exact u
 have h:b*(Y%4294967296)%4294967296=b*(Y%a):=by rw [e,Ľ a b,Nat.mul_mod_mul_left,Nat.mod_mul_left_mod]
 have l:b*(Y%a)+b<=4294967296:=by have:Y%a+1<=a:=ė _ c;have:=Ņ b this;rw [į,ĝ,Ľ b a,<-e] at this;exact this
 have i:(d / a+b*(Y%4294967296))%4294967296=d / a+b*(Y%a):=by rw [Nat.add_mod,h,Ĕ (a:=d / a) ω,Ĕ ω]
 rw [i]
 have j:b*Y=b*(Y%a)+4294967296*(Y / a):=by
  conv=>lhs;rw [<-(Qg7 Y a)]
  rw [į,<-ń,Ľ b a,<-e]
 rw [j];omega
def wZ {xs}(h:cK xs)(i):val (xs.drop i)%4294967296=(xs[i]?).getD 0:=by rcases Ď i xs.length with a|a;{rw [Ī a,bP,ï a,Qh7,Wy8,Ĕ (h.get a)]};{rw [Ŀ a,ţ a];rfl}
def QE (h:RD V p n c ds)(hm:ds.length<=2^40)(k:Nat)(hk:k<18446744073709551616:=by omega):À 280 #[pT p n c,Ô .u64 (k:Int)] V λr W=>∃p' n' c',r=pT p' n' c'/\RN W p' n' c' (val ds / 2^k):=by
 have S:=bH h.gC;refine Ov V _ λZ l1=>(bu ra).s ?_;rintro r V2 l2 ⟨n,rfl,B⟩;rw [aZ h.gC] at B;generalize val ds=x at *;have hl:=B.len;have P:(k:Int).tdiv 32=((k / 32:Nat):Int):=by rw [Qj6 ω];omega
 have C:(k:Int).tmod 32=((k%32:Nat):Int):=by rw [Qk9 ω];omega
 refine ⟨_,_,_,rfl,?_⟩;rw [P,C]
 have q:x / 2^k=x / 4294967296^(k / 32) / 2^(k%32):=by rw [Nat.div_div_eq_div_mul,show (4294967296:Nat)=2^32 from rfl,<-Wx1,<-đ,Qd5]
 rw [q];have T:k / 32<576460752303423488:=ω
 generalize k / 32=w at *;have E:k%32<32:=ė _ ω;generalize k%32=r at *;clear P C q;refine ⟨ω,λf V3 l3=>?_,λf=>?_⟩
 ·have f:n<=w:=by{rw [bq ω,bq ω] at f;simp at f;omega};have:x / 4294967296^w=0:=ŕ (ľ (aQ.1 (Ù _)) (ķ ω ω));rw [this,Wj5];exact ⟨_,_,_,rfl,RD.nil⟩
 ·have f:w<n:=by
   rw [bq ω,bq ω] at f;simp at f;omega
  simp (disch:=omega) only [au,bq,dU];have F:((n:Int)-w).toNat=n-w:=ω
  rw [F]
  have G:x / 4294967296^w=val ((ai x).drop w):=by have e:val (ai x)=val ((ai x).take w++(ai x).drop w):=by{rw [Qj8]};have s:=iV ((aO x).take w);rw [eM,ag] at e;rw [ê,ğ ω] at e s;have g:∀y,y=val ((ai x).take w)+4294967296^w*val ((ai x).drop w)->y / 4294967296^w=val ((ai x).drop w):=by{intro y U;rw [U,Qg5 _ _ (Wx2 ω),ŕ s,Ĉ]};exact g x e
  rw [G]
  refine ⟨ω,ω,ω,ω,ω,λz V'=>0<=z.1/\z.1<=(n-w:Nat)/\∃es:zA Nat,z.2=aN es/\es.length=n-w/\cK es /\
   val (es.take z.1.toNat)+4294967296^z.1.toNat*(val ((ai x).drop (w+z.1.toNat)) / 2^r)=val ((ai x).drop w) / 2^r,λz=>(n-w)-z.1.toNat,
   ⟨(0,aN (List.replicate (n-w) 0)),η,ω,ω,_,rfl,ψ,cK.rep _,ψ⟩,?_⟩
  rintro ⟨i,vs⟩ V4 Q ⟨t,H,es,rfl,I,j,b⟩;dsimp only at t H b ⊢;obtain ⟨i,rfl⟩:=č t;simp only [Ü] at b;refine ⟨θ,λu=>?_,λu=>?_⟩
  ·have u:i<n-w:=by simpa using u
   simp (disch:=omega) only [au];refine (B.le Q).rd (w+i) ω ω ?_;have R:=(aO x).get (i:=w+i) ω;have v:=Lk (Y:=val ((ai x).drop (w+i+1))) R E;rw [wZ (aO x)] at v
   have d:(min ((r:Nat):Int).toNat IntKind.u64.bits)=r:=by show min _ 64=r;omega
   have m:val ((ai x).drop (w+i))=(ai x)[w+i]+4294967296*val ((ai x).drop (w+i+1)):=by rw [Ī ω,bP]
   rw [m] at b;rw [v] at b
   have ZL:∀D:Nat,D=((ai x)[w+i]+4294967296*((ai x)[w+i+1]?).getD 0) / 2^r%4294967296 ->
     ∃a:zA Nat,(aN es).set (0+i*1) (Ô .u32 (D:Int))=aN a/\a.length=n-w/\cK a /\
     val (a.take (i+1))+4294967296^(i+1)*(val ((ai x).drop (w+(i+1))) / 2^r)=val ((ai x).drop w) / 2^r:=by
    intro D W;refine ⟨es.set i D,by rw [<-bS];simp,by simpa using I,j.set _ _ ω,?_⟩;rw [aU _ _ _,<-b,W,ĥ,į,ň,ń,ň w i 1]
   have A:((i:Int)+1).toNat=i+1:=ω
   refine ⟨λo=>?_,λo=>?_⟩
   ·have o:w+i+1<n:=by{simp at o;omega};refine (B.le Q).rd (w+i+1) ω ω ?_;have J:=(aO x).get (i:=w+i+1) ω;have K:b_ .or .u64 (u64.wrap (((ai x)[w+i]:Nat):Int)) (u64.wrap (u64.wrap (((ai x)[w+i+1]:Nat):Int)*2^32))=(((ai x)[w+i]+4294967296*((ai x)[w+i+1]?).getD 0:Nat):Int):=by{have C:((2:Int)^32)=4294967296:=φ;rw [C,bq ω,bq (x:=(((ai x)[w+i+1]:Nat):Int)) ω,bq ω,U1 _ _ J R,ï ω,Qh7];omega};rw [K,d,jT,kN];refine ⟨ω,ω,⟨ω,ω⟩,by simp;omega,?_⟩;have ⟨a,L,M,N,O⟩:=ZL _ rfl;refine ⟨((i:Int)+1,aN a),?_,?_,?_⟩;{(try dsimp only);omega};{(try dsimp only);(and_intros<;>first|trivial|(rw [<-L];simp))};{(try dsimp only);exact ⟨ω,ω,a,rfl,M,N,by rw [A];exact O⟩}
   ·have o:n<=w+i+1:=by{simp at o;omega};have K:u64.wrap (((ai x)[w+i]:Nat):Int)=(((ai x)[w+i]+4294967296*((ai x)[w+i+1]?).getD 0:Nat):Int):=by{rw [bq ω,ţ ω];simp};rw [K,d,jT,kN];refine ⟨ω,⟨ω,ω⟩,by simp;omega,?_⟩;have ⟨a,L,M,N,O⟩:=ZL _ rfl;refine ⟨((i:Int)+1,aN a),?_,?_,?_⟩;{(try dsimp only);omega};{(try dsimp only);(and_intros<;>first|trivial|(rw [<-L];simp))};{(try dsimp only);exact ⟨ω,ω,a,rfl,M,N,by rw [A];exact O⟩}
  ·have u:i=n-w:=by{simp at u;omega};intro V5 l5 bk X;refine (bu (RD.bh X j (n:=n-w) (c:=n-w) ω (Ù _))).s ?_;rintro r' V6 l6 ⟨k',rfl,o⟩;refine ⟨_,_,_,rfl,λ_ V7 l7=>⟨_,_,_,rfl,?_⟩⟩;rw [ar,Ŀ (l:=ai x) (i:=w+i) ω] at b;have b:val es=val ((ai x).drop w) / 2^r:=by{rw [<-b,gi,Wj5,ī,Ę]};rw [aZ j,b] at o;exact ra
end Go.Proofs.Tryz
namespace Go.Big
variable{B G T W Y t' u0 u1 u2 v' v1 v2 ρ:Nat}
def Re (hY:Y=(v1*W+v2)*B+v')(hT:T=((u0*W+u1)*W+u2)*B+t')(u:t'<B)(y:G*v1+ρ=u0*W+u1)(z:ρ*W+u2<G*v2):T<G*Y:=by have a:(u0*W+u1)*W+u2+1<=G*(v1*W+v2):=by{grind [Nat.add_mul]};have b:=Ă B a;have c:G*(v1*W+v2)*B<=G*Y:=by{rw [hY,ń];exact Ņ _ (Qr3 _ _)};rw [Ē,ŋ] at b;omega
def Gj (hY:Y=(v1*W+v2)*B+v')(hT:T=((u0*W+u1)*W+u2)*B+t')(y:v'<B)(u:1<=v1)(z:0<W)(F:G*v1+ρ=u0*W+u1)(M:G*v2<=ρ*W+u2)(E:G<=W:=by omega):G*Y<T+Y:=by have a:G*(v1*W+v2)<=(u0*W+u1)*W+u2:=by{grind [Nat.add_mul]};have b:=Ă B a;have c:G*v'<=W*v':=Ă _ E;have d:=Nat.mul_lt_mul_of_pos_left y z;have e:W*B<=v1*W*B:=by{have:=Ă (W*B) u;grind};have f:(v1*W+v2)*B=v1*W*B+v2*B:=Ē _ _ _;have g:G*Y=G*(v1*W+v2)*B+G*v':=by{rw [hY,į,ń]};omega
def Gk (hY:Y=(v1*W+v2)*B+v')(hT:T=((u0*W+u1)*W+u2)*B+t')(u:v'<B)(h:T<W*Y):u0*W+u1<=v1*W+v2:=by rcases Ď (v1*W+v2) (u0*W+u1) with a|a;{exfalso;have b:(v1*W+v2+1)*W<=(u0*W+u1)*W:=Ă _ a;have c:=Ă B b;have d:W*Y<=W*((v1*W+v2+1)*B):=by{rw [hY,Ē (v1*W+v2) 1 B,ŋ];exact Ņ _ ω};grind};{exact a}
def T3 (hY:Y=(v1*W+v2)*B+v')(hT:T=((u0*W+u1)*W+u2)*B+t')(u:t'<B)(hu:u2<W)(y:G*v1+ρ=u0*W+u1)(z:ρ<v1):T<(G+1)*Y:=by have a:u0*W+u1+1<=(G+1)*v1:=by{rw [Ē,ŋ];omega};have b:=Ă (W*B) a;have c:(G+1)*v1*(W*B)<=(G+1)*Y:=by{rw [hY,ń];grind};have d:((u0*W+u1)*W+u2)*B+t'<(u0*W+u1+1)*(W*B):=by{have e:(u2+1)*B<=W*B:=Ă _ hu;grind};omega
def GS {F U c b g d u Y W S:Nat}{x:Int}(h:F+W*(g*Y)=U+W*S*(c+b))(y:c<4294967296)(z:b<=1)(hu:u<4294967296)(E:x=((u:Int)-((c+g*d)%4294967296:Nat)-b)%18446744073709551616):0<=x/\0<=x / 9223372036854775808/\x / 9223372036854775808<=1 /\ F+W*S*(x%4294967296).toNat+W*(g*(Y+S*d))=U+W*S*u+W*(S*4294967296)*((c+g*d) / 4294967296+(x / 9223372036854775808).toNat):=by have k:=Qg7 (c+g*d) 4294967296;have hm:(c+g*d)%4294967296<4294967296:=ė _ ω;generalize (c+g*d) / 4294967296=q at *;generalize (c+g*d)%4294967296=m at *;have key:∃o B:Nat,(x%4294967296).toNat=o/\(x / 9223372036854775808).toNat=B/\u+4294967296*B=o+m+b/\0<=x/\0<=x / 9223372036854775808/\x / 9223372036854775808<=1:=χ;obtain ⟨o,B,a,e,l,f,i,j⟩:=key;refine ⟨f,i,j,?_⟩;rw [a,e];have n:u+4294967296*(B+q)=o+b+(c+g*d):=ω;have p:W*S*u+W*(S*4294967296)*(q+B)=W*S*(u+4294967296*(B+q)):=χ;grind
def FC {F U c d u Y W S t:Nat}(h:F+W*S*c=U+W*Y)(y:t=c+u+d:=by omega):F+W*S*(t%4294967296)+W*(S*4294967296)*(t / 4294967296)=U+W*S*u+W*(Y+S*d):=by have a:W*S*(t%4294967296)+W*(S*4294967296)*(t / 4294967296)=W*S*t:=by{grind [Nat.mod_add_div]};grind
end Go.Big
namespace Go.Proofs.Tryz
open Go.Eng Go.Big
section
variable{G b c i j k:Nat}{fs gs ks us vs:List Nat}{rest:List Value}
theorem _root_.Go.Eng.RD.rd0 {V:un}{p:OA}{n:Nat}{ds:zA Nat}(h:RD V p n c ds){i:Int}{K:Int->Prop}(j:Nat)(u:i=j)(z:j<ds.length)(E:K ((ds[j]:Nat):Int)):(p.isSome=true)/\(0<=i/\i<(n:Int))/\∃x:Int,(∃a,af p j=some a/\V.at a (Ô .u32 x))/\K x:=by have:=h.rd (K:=K) j u z E;subst u;simpa only [Ü,ĝ] using this
theorem Yv (h:k<us.length):(aN us++rest)[0+k*1]?=some (Ô .u32 (us[k]:Int)):=by grind [List.getElem?_append_left,iT]
theorem Bm {x:Nat}(h:k<us.length:=by omega):(aN us++rest).set (0+k*1) (Ô .u32 (x:Int))=aN (us.set k x)++rest:=by rw [Ĉ,ĝ,List.set_append_left _ _ (by simpa using h),bS]
theorem Li {y m t s:Nat}(hm:(ai y).length=m)(E:0<m)(u:t=(ai y)[m-1]'ω)(z:s=32-dL t):s<32/\(ai (y*2^s)).length=m/\2147483648*4294967296^(m-1)<=y*2^s:=by have d:t<4294967296:=by{rw [u];exact (aO y).get _};have a:t≠0:=by{rw [u];have:=(lO y).last ω;simpa [hm] using this};have b:dL t<=32:=mC.2 ω;have f:0<dL t:=by{unfold dL;rw [Ã a];omega};have e:=jz (ai y) (m-1) ω;rw [ag,Ŀ ω,<-u] at e;simp only [gi,ī,Ę] at e;have c:=iV ((aO y).take (m-1));rw [ê,ğ ω] at c;have k:2^dL t*2^s=4294967296:=by{rw [<-đ,z,Nat.add_sub_cancel' b]};have g:2^(dL t-1)*2^s=2147483648:=by{rw [<-đ,show dL t-1+s=31 from by omega]};have h:2147483648*4294967296^(m-1)<=y*2^s:=by{have:2^(dL t-1)*2^s*4294967296^(m-1)<=t*2^s*4294967296^(m-1):=Ă _ (Ă _ (Bg a));rw [g] at this;have l:t*2^s*4294967296^(m-1)=4294967296^(m-1)*t*2^s:=χ;have n:4294967296^(m-1)*t*2^s<=y*2^s:=Ă _ ω;omega};refine ⟨ω,?_,h⟩;have i:y*2^s<4294967296^m:=by{have j:y<4294967296^(m-1)*(t+1):=by{rw [į,ĝ];omega};have o:4294967296^(m-1)*(t+1)*2^s<=4294967296^(m-1)*2^dL t*2^s:=Ă _ (Ņ _ (wu t));have p:4294967296^(m-1)*2^dL t*2^s=4294967296^m:=by{grind [Nat.pow_succ,Nat.sub_add_cancel]};have q:=Qc6 j (ĳ s);omega};have b1:=aQ.2 i;have b2:m-1<(ai (y*2^s)).length:=by{rw [zo];omega};omega
theorem top3 {us k}(h:k+2<us.length)(u:val (us.drop (k+3))=0):val us=((us[k+2]*4294967296+us[k+1])*4294967296+us[k])*4294967296^k+val (us.take k):=by have a:=jz us k ω;rw [Ī (i:=k+1) ω,Ī (i:=k+1+1) ω,bP,bP] at a;grind
theorem top2 {us k}(h:us.length=k+2:=by omega):val us=(us[k+1]*4294967296+us[k])*4294967296^k+val (us.take k):=by grind [jz,List.drop_eq_getElem_cons,bP,gi]
theorem bO (us k)(h:k<=us.length:=by omega):val us=val (us.take k)+4294967296^k*val (us.drop k):=by grind [List.take_append_drop,eM]
theorem kf {us k}(h:val us<4294967296^k)(u:k<=us.length:=by omega):val (us.drop k)=0:=by have:=bO us k u;rcases ĵ (val (us.drop k)) with e|e;{exact e};{have:4294967296^k*1<=4294967296^k*val (us.drop k):=Ņ _ e;omega}
theorem _root_.Go.Eng.RD.rdq {V p n ds}(h:RD V p n c ds){i:Int}{K:Int->Prop}(j:Nat)(u:i=j){d}(z:ds[j]?=some d)(E:K (d:Int)):(p.isSome=true)/\(0<=i/\i<(n:Int))/\∃x:Int,(∃a,af p (i.toNat*1)=some a/\V.at a (Ô .u32 x))/\K x:=by have ⟨b,e⟩:=Đ.1 z;exact h.rd j u b (by rw [e];exact E)
theorem lU {d}(h:us[k]?=some d):(aN us++rest)[0+k*1]?=some (Ô .u32 (d:Int)):=by grind [Yv]
structure Jv (us vs:List Nat) (j G i b c:Nat) (fs:List Nat):Prop where
 b1:b<=1
 c1:c<4294967296
 hi:i<=vs.length
 len:fs.length=us.length
 gC:cK fs
 dr:fs.drop (j+i)=us.drop (j+i)
 tk:fs.take j=us.take j
 eq:val (fs.take (j+i))+4294967296^j*(G*val (vs.take i))=val (us.take (j+i))+4294967296^j*4294967296^i*(c+b)
theorem Jv.read (h:Jv us vs j G i b c fs)(z:j+i<us.length):∃u,fs[j+i]?=some u/\us[j+i]?=some u:=by have:=Æ (λl=>l[0]?) h.dr;grind
theorem Jv.step (h:Jv us vs j G i b c fs)(hG:G<4294967296)(hdv:cK vs)(Ri:cK us)(hi:i<vs.length)(O:j+i<us.length):∃u d M od cn Z:Nat,vs[i]?=some d/\fs[j+i]?=some u/\u64.wrap ((c:Int)+u64.wrap ((G:Int)*u64.wrap (d:Int)))=(cn:Int)/\(cn:Int).fdiv (2^32)=(Z:Int) /\ (u64.wrap (u64.wrap (u64.wrap (u:Int)-b_ .and .u64 (cn:Int) 4294967295)-(b:Int))).fdiv (2^63)=(M:Int) /\ u32.wrap (u64.wrap (u64.wrap (u64.wrap (u:Int)-b_ .and .u64 (cn:Int) 4294967295)-(b:Int)))=(od:Int)/\od<4294967296 /\ Jv us vs j G (i+1) M Z (fs.set (j+i) od):=by have ⟨u,l,a⟩:=h.read O;obtain ⟨m,n,-,o,p,q,r,s⟩:=h;have C:=hdv.get (i:=i) hi;have t:=Ri u (ı a);have D:G*vs[i]<=4294967295*4294967295:=Qg2 ω ω;refine ⟨u,vs[i],?_⟩;have v:u64.wrap ((c:Int)+u64.wrap ((G:Int)*u64.wrap ((vs[i]:Nat):Int)))=((c+G*vs[i]:Nat):Int):=by{rw [bq (x:=((vs[i]:Nat):Int)) ω,<-Ř];generalize G*vs[i]=gd at *;rw [bq (x:=((gd:Nat):Int)) ω,bq ω];omega};have w:=GS (x:=((u:Int)-((c+G*vs[i])%4294967296:Nat)-b)%18446744073709551616) s n m t rfl;have hand:b_ .and .u64 ((c+G*vs[i]:Nat):Int) 4294967295=(((c+G*vs[i])%4294967296:Nat):Int):=and64 _;have e:u64.wrap (u64.wrap (u64.wrap (u:Int)-(((c+G*vs[i])%4294967296:Nat):Int))-(b:Int))=((u:Int)-((c+G*vs[i])%4294967296:Nat)-b)%18446744073709551616:=by{rw [bq (x:=(u:Int)) ω,An,An];omega};have y:(c+G*vs[i]) / 4294967296<4294967296:=by{generalize G*vs[i]=gd at *;omega};generalize ((u:Int)-((c+G*vs[i])%4294967296:Nat)-b)%18446744073709551616=N at *;obtain ⟨E,F,H,A⟩:=w;obtain ⟨M,f⟩:∃M:Nat,N / 9223372036854775808=M:=⟨(N / 9223372036854775808).toNat,ω⟩;obtain ⟨od,g⟩:∃od:Nat,N%4294967296=od:=⟨(N%4294967296).toNat,ω⟩;rw [f,g] at A;have B:od<4294967296:=ω;have k:M<=1:=ω;refine ⟨M,od,c+G*vs[i],(c+G*vs[i]) / 4294967296,ï hi,l,v,?_,?_,?_,B,k,y,hi,by simpa using o,p.set _ _ B,?_,?_,?_⟩;{rw [jT]};{rw [hand,e,Vz,f]};{rw [hand,e,kN,g]};{rw [Qn0 ω];have:=Æ (List.drop 1) q;simpa [ň] using this};{rw [Qh3,Qd7 (by simp;omega)];exact r};{have z:us[j+i]=u:=by{rw [ï O] at a;exact ŏ a};rw [show j+(i+1)=j+i+1 from by omega,aU _ _ _,aC us (j+i),aC vs i hi,ĥ,đ,z];exact A}
theorem TA {t a:Nat}(u:ks.take j=us.take j)(z:j<=ks.length)(hu:j<=us.length)(h:val ks+4294967296^j*a=val us+4294967296^j*t):val (ks.drop j)+a=val (us.drop j)+t:=by have b:=bO ks j z;have c:=bO us j hu;rw [u] at b;have:4294967296^j*(val (ks.drop j)+a)=4294967296^j*(val (us.drop j)+t):=by{rw [į,į];omega};grind [Nat.eq_of_mul_eq_mul_left]
theorem Jv.fin (h:Jv us vs j G vs.length b c fs)(Ri:cK us)(hj:j+vs.length<us.length)(hz:val (us.drop (j+vs.length+1))=0):∃u Z od:Nat,fs[j+vs.length]?=some u /\ (u64.wrap (u64.wrap (u64.wrap (u:Int)-(c:Int))-(b:Int))).fdiv (2^63)=(Z:Int) /\ u32.wrap (u64.wrap (u64.wrap (u64.wrap (u:Int)-(c:Int))-(b:Int)))=(od:Int)/\od<4294967296/\Z<=1 /\ cK (fs.set (j+vs.length) od)/\(fs.set (j+vs.length) od).length=us.length/\(fs.set (j+vs.length) od).take j=us.take j/\val ((fs.set (j+vs.length) od).drop (j+vs.length+1))=0 /\ val ((fs.set (j+vs.length) od).drop j)+G*val vs=val (us.drop j)+4294967296^(vs.length+1)*Z:=by have ⟨u,s,f⟩:=h.read hj;obtain ⟨t,i,-,v,w,y,z,l⟩:=h;have A:=Ri u (ı f);have B:us[j+vs.length]=u:=by{rw [ï hj] at f;exact ŏ f};rw [Ĥ] at l;have k:=GS (g:=G) (d:=0) (Y:=val vs) (x:=((u:Int)-((c+G*0)%4294967296:Nat)-b)%18446744073709551616) l i t A rfl;simp only [ī,Ę] at k;rw [Ĕ i,ŕ i,Ĉ] at k;have m:u64.wrap (u64.wrap (u64.wrap (u:Int)-(c:Int))-(b:Int))=((u:Int)-(c:Int)-b)%18446744073709551616:=by{rw [bq (x:=(u:Int)) ω,An,An];omega};generalize ((u:Int)-(c:Int)-b)%18446744073709551616=xx at *;obtain ⟨J,K,L,E⟩:=k;obtain ⟨Z,n⟩:∃Z:Nat,xx / 9223372036854775808=Z:=⟨(xx / 9223372036854775808).toNat,ω⟩;obtain ⟨od,o⟩:∃od:Nat,xx%4294967296=od:=⟨(xx%4294967296).toNat,ω⟩;rw [n,o] at E;simp only [Ü] at E;have F:od<4294967296:=ω;have p:Z<=1:=ω;obtain ⟨e,a⟩:∃e,e=fs.set (j+vs.length) od:=⟨_,rfl⟩;refine ⟨u,Z,od,s,by rw [m,Vz,n],by rw [m,kN,o],F,p,?_⟩;rw [<-a];have C:e.length=us.length:=by{rw [a];simpa using v};have D:cK e:=by{rw [a];exact w.set _ _ F};have q:e.take j=us.take j:=by{rw [a,Qh3,Qd7 (by simp;omega)];exact z};have r:e.drop (j+vs.length+1)=us.drop (j+vs.length+1):=by{rw [a,Qn0 ω];have:=Æ (List.drop 1) y;simpa using this};refine ⟨D,C,q,by rw [r];exact hz,TA q ω ω ?_⟩;have H:=bO e (j+vs.length+1);have I:=bO us (j+vs.length+1);have M:val (e.take (j+vs.length+1))=val (fs.take (j+vs.length))+4294967296^j*4294967296^vs.length*od:=by{rw [a,aU _ _ _,đ]};have N:val (us.take (j+vs.length+1))=val (us.take (j+vs.length))+4294967296^j*4294967296^vs.length*u:=by{rw [aC us (j+vs.length),đ,B]};rw [r,hz,ī,Ę] at H;rw [hz,ī,Ę] at I;have O:4294967296^j*(4294967296^vs.length*4294967296)*Z=4294967296^j*(4294967296^(vs.length+1)*Z):=by{rw [ĥ];grind};omega
structure Jo (ks vs:List Nat) (j i c:Nat) (gs:List Nat):Prop where
 c1:c<=1
 hi:i<=vs.length
 len:gs.length=ks.length
 gC:cK gs
 dr:gs.drop (j+i)=ks.drop (j+i)
 tk:gs.take j=ks.take j
 eq:val (gs.take (j+i))+4294967296^j*4294967296^i*c=val (ks.take (j+i))+4294967296^j*val (vs.take i)
theorem Jo.read (h:Jo ks vs j i c gs)(z:j+i<ks.length):∃u,gs[j+i]?=some u/\ks[j+i]?=some u:=by have:=Æ (λl=>l[0]?) h.dr;grind
theorem Jo.step (h:Jo ks vs j i c gs)(hdv:cK vs)(hdk:cK ks)(hi:i<vs.length)(z:j+i<ks.length):∃u d od cn E:Nat,vs[i]?=some d/\gs[j+i]?=some u/\u64.wrap ((c:Int)+u64.wrap (u64.wrap (u:Int)+u64.wrap (d:Int)))=(cn:Int)/\(cn:Int).fdiv (2^32)=(E:Int) /\ u32.wrap (cn:Int)=(od:Int)/\Jo ks vs j (i+1) E (gs.set (j+i) od):=by have ⟨u,b,a⟩:=h.read z;obtain ⟨p,-,e,f,g,k,l⟩:=h;have q:=hdv.get (i:=i) hi;have r:=hdk u (ı a);have m:ks[j+i]=u:=by{rw [ï z] at a;exact ŏ a};obtain ⟨t5,n⟩:∃t5,t5=c+u+vs[i]:=⟨_,rfl⟩;have o:u64.wrap ((c:Int)+u64.wrap (u64.wrap (u:Int)+u64.wrap ((vs[i]:Nat):Int)))=(t5:Int):=by{rw [bq (x:=((vs[i]:Nat):Int)) ω,bq (x:=(u:Int)) ω,bq (x:=(u:Int)+_) ω,bq ω];omega};refine ⟨u,vs[i],t5%4294967296,t5,t5 / 4294967296,ï hi,b,o,by rw [jT],by rw [kN];omega,ω,hi,by simpa using e,f.set _ _ ω,?_,?_,?_⟩;{rw [Qn0 ω];have:=Æ (List.drop 1) g;simpa [ň] using this};{rw [Qh3,Qd7 (by simp;omega)];exact k};{rw [show j+(i+1)=j+i+1 from by omega,aU _ _ _,aC ks (j+i),aC vs i hi,ĥ,đ,m];exact (FC l n)}
theorem Jo.fin (h:Jo ks vs j vs.length c gs)(hdk:cK ks)(N:j+vs.length<ks.length)(M:val (ks.drop (j+vs.length+1))=0):∃u od F:Nat,gs[j+vs.length]?=some u/\u32.wrap ((u:Int)+u32.wrap (c:Int))=(od:Int)/\F<=1 /\ cK (gs.set (j+vs.length) od)/\(gs.set (j+vs.length) od).length=ks.length/\(gs.set (j+vs.length) od).take j=ks.take j/\val ((gs.set (j+vs.length) od).drop (j+vs.length+1))=0 /\ val ((gs.set (j+vs.length) od).drop j)+4294967296^(vs.length+1)*F=val (ks.drop j)+val vs:=by have ⟨u,k,e⟩:=h.read N;obtain ⟨w,-,l,m,n,o,f⟩:=h;have y:=hdk u (ı e);have p:ks[j+vs.length]=u:=by{rw [ï N] at e;exact ŏ e};rw [Ĥ] at f;have q:=FC (d:=0) (u:=u) (Y:=val vs) (t:=c+u) f;simp only [ī,Ę] at q;have z:(c+u)%4294967296<4294967296:=ω;have r:(c+u) / 4294967296<=1:=ω;have hw:u32.wrap ((u:Int)+u32.wrap (c:Int))=(((c+u)%4294967296:Nat):Int):=by{rw [wY (x:=(c:Int)) ω,kN];omega};generalize (c+u)%4294967296=od at *;generalize (c+u) / 4294967296=F at *;obtain ⟨b,a⟩:∃b,b=gs.set (j+vs.length) od:=⟨_,rfl⟩;refine ⟨u,od,F,k,hw,r,?_⟩;rw [<-a];have s:b.length=ks.length:=by{rw [a];simpa using l};have v:cK b:=by{rw [a];exact m.set _ _ z};have g:b.take j=ks.take j:=by{rw [a,Qh3,Qd7 (by simp;omega)];exact o};have i:b.drop (j+vs.length+1)=ks.drop (j+vs.length+1):=by{rw [a,Qn0 ω];have:=Æ (List.drop 1) n;simpa using this};refine ⟨v,s,g,by rw [i];exact M,TA g ω ω ?_⟩;have A:=bO b (j+vs.length+1);have B:=bO ks (j+vs.length+1);have C:val (b.take (j+vs.length+1))=val (gs.take (j+vs.length))+4294967296^j*4294967296^vs.length*od:=by{rw [a,aU _ _ _,đ]};have D:val (ks.take (j+vs.length+1))=val (ks.take (j+vs.length))+4294967296^j*4294967296^vs.length*u:=by{rw [aC ks (j+vs.length),đ,p]};rw [i,M,ī,Ę] at A;rw [M,ī,Ę] at B;have E:4294967296^j*(4294967296^vs.length*4294967296)*F=4294967296^j*(4294967296^(vs.length+1)*F):=by{rw [ĥ];grind};omega
structure GK (v1 v2 v' u0 u1 u2 t' B T Y:Nat):Prop where
 hY:Y=(v1*4294967296+v2)*B+v'
 hT:T=((u0*4294967296+u1)*4294967296+u2)*B+t'
 yk:v'<B
 Ku:t'<B
 v1l:2147483648<=v1
 v1u:v1<4294967296
 v2u:v2<4294967296
 u0u:u0<4294967296
 u1u:u1<4294967296
 u2u:u2<4294967296
 lt:T<4294967296*Y
structure GI (v1 f T Y G ρ:Nat):Prop where
 r:ρ<4294967296
 g:G<=4294967297
 eq:G*v1+ρ=f
 lt:T<(G+1)*Y
structure GF (T Y G:Nat):Prop where
 g:G<4294967296
 lt:T<(G+1)*Y
 gt:G*Y<T+Y
section
variable {v1 v2 v' u0 u1 u2 t' B T Y G ρ:Nat}
theorem GK.start (h:GK v1 v2 v' u0 u1 u2 t' B T Y):GI v1 (u0*4294967296+u1) T Y ((u0*4294967296+u1) / v1) ((u0*4294967296+u1)%v1):=by have c:=Gk h.hY h.hT h.yk h.lt;have d:=h.v1l;have e:=h.v1u;have f:=h.v2u;have a:=Qd5 (u0*4294967296+u1) v1;have b:=ė (u0*4294967296+u1) (show 0<v1 by omega);refine ⟨ω,?_,by rw [Ľ];exact a,?_⟩;{have:(u0*4294967296+u1) / v1<4294967298:=by{rw [Qb8 ω];omega};omega};{rw [Ľ] at a;exact T3 h.hY h.hT h.Ku h.u2u a b}
theorem GK.Y9 (h:GK v1 v2 v' u0 u1 u2 t' B T Y)(u:4294967296<=G):T<G*Y:=ľ h.lt (Ă _ u)
theorem GK.dec (h:GK v1 v2 v' u0 u1 u2 t' B T Y)(hi:GI v1 (u0*4294967296+u1) T Y G ρ)(u:ρ*4294967296+u2<G*v2):T<G*Y:=Re h.hY h.hT h.Ku hi.eq u
theorem GK.last (h:GK v1 v2 v' u0 u1 u2 t' B T Y)(hi:GI v1 (u0*4294967296+u1) T Y G ρ)(u:G<4294967296)(z:G*v2<=ρ*4294967296+u2):GF T Y G:=
 ⟨u,hi.lt,Gj h.hY h.hT h.yk (by have:=h.v1l;omega) ω hi.eq z⟩
theorem GK.down (h:GK v1 v2 v' u0 u1 u2 t' B T Y)(hi:GI v1 (u0*4294967296+u1) T Y G ρ)(u:T<G*Y):1<=G/\(G-1)*v1+(ρ+v1)=u0*4294967296+u1/\T<(G-1+1)*Y:=by grind [hi.eq,Nat.add_mul]
theorem GK.Ze (h:GK v1 v2 v' u0 u1 u2 t' B T Y)(hi:GI v1 (u0*4294967296+u1) T Y G ρ)(u:T<G*Y)(z:4294967296<=ρ+v1):1<=G/\GF T Y (G-1):=by have ⟨b,a,c⟩:=h.down hi u;have e:=Gk h.hY h.hT h.yk h.lt;have g:=h.v2u;have f:G-1<4294967296:=by{rcases Ď (G-1) 4294967296 with d|d;{exact d};{have:=Ă v1 d;omega}};refine ⟨b,f,c,Gj h.hY h.hT h.yk ω ω a ?_⟩;have i:(G-1)*v2<=4294967295*4294967295:=Qg2 ω ω;omega
theorem GK.Zf (h:GK v1 v2 v' u0 u1 u2 t' B T Y)(hi:GI v1 (u0*4294967296+u1) T Y G ρ)(u:T<G*Y)(z:ρ+v1<4294967296):1<=G/\GI v1 (u0*4294967296+u1) T Y (G-1) (ρ+v1):=by have ⟨b,a,c⟩:=h.down hi u;have d:=hi.g;exact ⟨b,z,ω,a,c⟩
theorem GK.words (h:GK v1 v2 v' u0 u1 u2 t' B T Y):b_ .or .u64 (u64.wrap (u64.wrap (u0:Int)*2^32)) (u64.wrap (u1:Int))=((u0*4294967296+u1:Nat):Int) /\ u64.wrap (((u0*4294967296+u1:Nat):Int).tdiv (v1:Int))=(((u0*4294967296+u1) / v1:Nat):Int) /\ ((u0*4294967296+u1:Nat):Int).tmod (v1:Int)=(((u0*4294967296+u1)%v1:Nat):Int):=by have a:=h.u0u;have b:=h.u1u;have c:((2:Int)^32)=4294967296:=φ;refine ⟨?_,?_,?_⟩;{rw [c,bq (x:=(u0:Int)) ω,bq (x:=(u1:Int)) ω,bq ω,KT _ _ a b];omega};{rw [Qj6 ω,<-Int.natCast_ediv];have d:(u0*4294967296+u1) / v1<=u0*4294967296+u1:=Qc7 _ _;generalize (u0*4294967296+u1) / v1=qq at *;rw [bq ω]};{rw [Qk9 ω,<-Wk7]}
theorem GK.words2 (h:GK v1 v2 v' u0 u1 u2 t' B T Y)(hi:GI v1 (u0*4294967296+u1) T Y G ρ):u64.wrap ((G:Int)*(v2:Int))=((G*v2:Nat):Int)/\b_ .or .u64 (u64.wrap ((ρ:Int)*2^32)) (u64.wrap (u2:Int))=((ρ*4294967296+u2:Nat):Int) /\ u64.wrap ((ρ:Int)+v1)=((ρ+v1:Nat):Int)/\(1<=G->u64.wrap ((G:Int)-1)=((G-1:Nat):Int)):=by have a:=h.u2u;have b:=hi.r;have c:=hi.g;have f:=h.v2u;have d:=h.v1u;have e:((2:Int)^32)=4294967296:=φ;refine ⟨?_,?_,?_,?_⟩;{have d:G*v2<=4294967297*4294967295:=Qg2 c ω;rw [<-Ř,bq ω]};{rw [e,bq (x:=(ρ:Int)*4294967296) ω,bq ω,KT _ _ b a];omega};{rw [bq ω];omega};{intro h;rw [bq ω];omega}
end
end
section
variable{X Y c e n n8:Nat}{qs us:List Nat}{V:Ó}{p q:OA}
structure OI (X Y n n8:Nat) (j:Int) (us qs:List Nat):Prop where
 j0:-1<=j
 j1:j<(n+1-n8:Nat)
 ul:us.length=n+1
 ud:cK us
 ql:qs.length=n+1-n8
 qd:cK qs
 eq:X=val us+Y*(4294967296^(j+1).toNat*val (qs.drop (j+1).toNat))
 lt:val (us.drop (j+1).toNat)<Y
structure DK (Y n8 k v1 v2:Nat):Prop where
 hn8:n8=k+2
 len:(ai Y).length=n8
 g1:(ai Y)[k+1]?=some v1
 g2:(ai Y)[k]?=some v2
 l1:2147483648<=v1
 u1:v1<4294967296
 u2:v2<4294967296
 eq:Y=(v1*4294967296+v2)*4294967296^k+val ((ai Y).take k)
 lt:val ((ai Y).take k)<4294967296^k
 top:Y<4294967296^n8
theorem DK.of (u:(ai Y).length=n8)(E:2<=n8)(z:2147483648*4294967296^(n8-1)<=Y):∃k v1 v2,DK Y n8 k v1 v2:=by obtain ⟨k,g⟩:∃k,n8=k+2:=⟨n8-2,ω⟩;have a:=top2 (us:=ai Y) (k:=k);rw [ag] at a;have e:=iV ((aO Y).take k);rw [ê,ğ ω] at e;have b:=(aO Y).get (i:=k+1) ω;have c:=(aO Y).get (i:=k) ω;have d:2147483648<=(ai Y)[k+1]:=by{rcases Ď (ai Y)[k+1] 2147483648 with f|f;{exfalso;have h:((ai Y)[k+1]*4294967296+(ai Y)[k])+1<=2147483648*4294967296:=ω;have j:=Ă (4294967296^k) h;rw [Ē,ŋ] at j;have l:2147483648*4294967296^(k+1)=2147483648*4294967296*4294967296^k:=by{rw [ĥ];grind};rw [show n8-1=k+1 from by omega,l] at z;omega};{exact f}};exact ⟨k,_,_,g,u,ï _,ï _,d,b,c,a,e,by rw [<-u,<-aQ];exact Ù _⟩
theorem OI.start {x X Y n n8 s:Nat}(hX:X=x*2^s)(u:(ai x).length=n)(z:s<32)(hn8:2<=n8)(E:n8<=n)(hY:2147483648*4294967296^(n8-1)<=Y)(hXl:(ai X).length<=n+1:=by omega):OI X Y n n8 (((n+1-n8:Nat):Int)-1) ((ai X++[0,0]).take (n+1)) (List.replicate (n+1-n8) 0):=by have g:n<=(ai X).length:=by{rw [<-u,hX];exact aR (Nat.le_mul_of_pos_right _ (ĳ s))};have h:((ai X++[0,0]).take (n+1)).length=n+1:=by{simp;omega};have a:val ((ai X++[0,0]).take (n+1))=X:=by{have b:val (ai X++[0,0])=X:=by{rw [eM,ag];simp};have c:=bO (ai X++[0,0]) (n+1) (by simp;omega);have d:val ((ai X++[0,0]).drop (n+1))=0:=by{refine kf ?_ (by simp;omega);rw [b];exact aQ.1 ω};rw [d,ī,Ę,b] at c;exact c.symm};have e:(((n+1-n8:Nat):Int)-1+1).toNat=n+1-n8:=ω;refine ⟨ω,ω,h,(cK.append.2 ⟨aO X,by simp [cK]⟩).take _,ψ,cK.rep _,?_,?_⟩;{rw [e,Ŀ ψ,gi,ī,ī,Ę,a]};{rw [e];have b:=bO ((ai X++[0,0]).take (n+1)) (n+1-n8);rw [a] at b;have f:X<4294967296^n*2^s:=by{rw [hX];exact Qc6 (by rw [<-u];exact aQ.1 (Ù _)) (ĳ s)};have i:2^s<=2^31:=ķ ω ω;have c:4294967296^n*2^s<=4294967296^(n+1-n8)*Y:=by{have b1:4294967296^n=4294967296^(n+1-n8)*4294967296^(n8-1):=by{rw [<-đ];congr 1;omega};rw [b1,ń];refine Ņ _ ?_;have b2:2^s*4294967296^(n8-1)<=2147483648*4294967296^(n8-1):=Ă _ ω;rw [Ľ];omega};have d:4294967296^(n+1-n8)*val (((ai X++[0,0]).take (n+1)).drop (n+1-n8))<4294967296^(n+1-n8)*Y:=ω;exact Nat.lt_of_mul_lt_mul_left d}
theorem OI.body {k v1 v2 j:Nat}(h:OI X Y n n8 (j:Int) us qs)(u:DK Y n8 k v1 v2)(hjn:j+n8<=n):val (us.drop (j+n8+1))=0/\∃u0 u1 u2 t',us[j+n8]?=some u0/\us[j+n8-1]?=some u1/\us[j+n8-2]?=some u2/\GK v1 v2 (val ((ai Y).take k)) u0 u1 u2 t' (4294967296^k) (val (us.drop j)) Y:=by
 obtain ⟨-,-,f,a,g,l,m,o⟩:=h;have b:((j:Int)+1).toNat=j+1:=ω
 rw [b] at m o;have r:=u.hn8;have c:=u.top;have p:val (us.drop j)=us[j]+4294967296*val (us.drop (j+1)):=by rw [Ī ω,bP]
 have q:=a.get (i:=j) ω
 have d:val (us.drop (j+n8+1))=0:=by have:=kf (us:=us.drop (j+1)) (k:=n8) ω (by simp;omega);rw [Qh9] at this;rw [show j+n8+1=j+1+n8 from by omega];exact this
 have e:=iV ((a.drop j).take k);rw [ê,Į,ğ ω] at e
 refine ⟨d,us[j+n8],us[j+n8-1],us[j+n8-2],val ((us.drop j).take k),ï _,ï _,ï _,
  u.eq,?_,u.lt,e,u.l1,u.u1,u.u2,a.get _,a.get _,a.get _,ω⟩
 have:=top3 (us:=us.drop j) (k:=k) (by simp;omega) (by rw [Qh9,show j+(k+3)=j+n8+1 from by omega];exact d);simp only [Qp7] at this;rw [this];congr<;>omega
theorem OI.next {j H:Nat}{u:zA Nat}(h:OI X Y n n8 (j:Int) us qs)(hjn:j+n8<=n)(M:u.length=us.length)(hdh:cK u)(z:u.take j=us.take j)(E:val (u.drop j)+H*Y=val (us.drop j))(F:val (u.drop j)<Y)(hH:H<4294967296):OI X Y n n8 ((j:Int)-1) u (qs.set j H):=by obtain ⟨-,i,k,m,b,c,e,o⟩:=h;have d:((j:Int)+1).toNat=j+1:=ω;have a:((j:Int)-1+1).toNat=j:=ω;rw [d] at e;refine ⟨ω,ω,ω,hdh,by simpa using b,c.set _ _ hH,?_,by rw [a];exact F⟩;have f:=bO u j;have g:=bO us j;rw [z] at f;rw [<-E] at g;rw [a,Ī (l:=qs.set j H) (by simp;omega),Qg0,Qn0 ω,bP,e,f,g,ĥ];grind
theorem OI.done {x y s:Nat}(h:OI X Y n n8 (-1) us qs)(hX:X=x*2^s)(hY:Y=y*2^s)(u:n8<=n+1)(hYl:Y<4294967296^n8):val qs=x / y/\val (us.take n8) / 2^s=x%y:=by obtain ⟨-,-,f,j,g,i,a,b⟩:=h;have a:X=val us+Y*val qs:=by{simpa using a};have b:val us<Y:=by{simpa using b};have c:0<Y:=ω;have d:=kf (us:=us) (k:=n8) ω;have e:val (us.take n8)=val us:=by{have:=bO us n8;rw [d,ī,Ę] at this;exact this.symm};constructor;{rw [<-Nat.mul_div_mul_right x y (ĳ s),<-hX,<-hY,a,Qg5 _ _ c,ŕ b,Ĉ]};{have:x*2^s%(y*2^s)=val us:=by{rw [<-hX,<-hY,a,Wy8,Ĕ b]};rw [Nat.mul_mod_mul_right] at this;rw [e,<-this,Qf9 _ (ĳ s)]}
set_option maxHeartbeats 8000000 in
theorem MT {m:Nat}{x y:Nat}(ha:RN V p n c x)(hb:RN V q m e y)(hn:n<=2^40)(hm2:2<=m)(hle:y<=x):À 254 #[pT p n c,pT q m e] V λr W=>∃p1 n1 c1 p2 n2 c2,r=æ #[pT p1 n1 c1,pT p2 n2 c2]/\RN W p1 n1 c1 (x / y)/\RN W p2 n2 c2 (x%y):=by
 have l:=ha.len;have a3:=hb.len;have c6:m<=n:=by rw [l,a3];exact aR hle
 refine LW V _ ?_;simp (disch:=omega) only [au];refine hb.rd (m-1) ω ω λV1 l1=>(jf _ ((aO y).get ω)).s ?_;rintro r V2 l2 rfl;refine ⟨_,rfl,?_⟩;obtain ⟨t,I⟩:∃t,t=(ai y)[m-1]'ω:=⟨_,rfl⟩;rw [<-I];have c9:dL t<=32:=mC.2 (by rw [I];exact (aO y).get _);obtain ⟨s,hs⟩:∃s,s=32-dL t:=⟨_,rfl⟩;have es:(32-(dL t:Int))=(s:Int):=ω
 have ⟨Xz,o,T⟩:=Li a3.symm ω I hs;rw [es,bq ω];clear es c9;intro V3 l3;refine (FV ra ω s).s ?_;rintro r V4 l4 ⟨p4,n4,c4,rfl,h4,K⟩;rw [ag] at h4 K
 have d0:x≠0:=by intro A;subst A;rw [F5] at l;simp at l;omega
 have K:c4=n+1:=by rcases K with A|A;{exact Å A d0};{rw [A,<-l,ŕ Xz]}
 have a4:=h4.len;have a5:x*2^s<4294967296^n*2^s:=Qc6 (by rw [l];exact aQ.1 (Ù _)) (ĳ s);have d1:2^s<=2^31:=ķ ω ω
 have f5:n<=n4/\n4<=n+1:=by constructor;{rw [a4,l];exact aR (Nat.le_mul_of_pos_right _ (ĳ s))};{rw [a4,aQ,ĥ];have:4294967296^n*2^s<=4294967296^n*4294967296:=Ņ _ ω;omega}
 refine ⟨_,_,_,rfl,aN (ai (x*2^s)),h4.sl,by simp;omega,h4.cap,h4.KM,ω,ω,rfl,by simp [Value.oneCell'],?_⟩;intro sp c7 f0 f1;refine ⟨ū,λV5 l5=>(FV ra ω s).s ?_⟩;rintro r V6 l6 ⟨p8,f,c8,rfl,h8,-⟩;rw [ag] at h8;have a6:=h8.len;rw [o] at a6;subst a6;refine ⟨_,_,_,rfl,?_⟩;have ⟨k,v1,v2,L⟩:=DK.of o hm2 T;have hk:=L.hn8;have f6:=L.l1;have f2:=L.u1;have f3:=L.u2;have d2:=OI.start (Y:=y*2^s) rfl l.symm Xz hm2 c6 T;have w6:i64.wrap ((f:Int)-1)=(f:Int)-1:=au ω;have w7:i64.wrap ((f:Int)-2)=(f:Int)-2:=au ω;simp only [w6,w7];refine h8.rdq (k+1) ω L.g1 (h8.rdq k ω L.g2 ?_);have d3:((n:Int)+1).toNat=n+1:=ω
 have d4:(((n+1:Nat):Int)-(f:Int)).toNat=n+1-f:=ω
 have w1:i64.wrap ((n:Int)+1)=(n:Int)+1:=au ω;have w2:u64.wrap (v1:Int)=v1:=bq ω;have w3:u64.wrap (v2:Int)=v2:=bq ω;have w4:i64.wrap (((n+1:Nat):Int)-(f:Int))=((n+1:Nat):Int)-(f:Int):=au ω;have w5:i64.wrap (((n+1-f:Nat):Int)-1)=((n+1-f:Nat):Int)-1:=au ω;simp only [d3,w2,w3,w4,d4,w5,dU];obtain ⟨C,a7⟩:∃C,C=aN ((ai (x*2^s)++[0,0]).drop (n+1))++sp:=⟨_,rfl⟩
 have P:aN (ai (x*2^s))++([Ô .u32 0,Ô .u32 0]:zA um)++sp=aN ((ai (x*2^s)++[0,0]).take (n+1))++C:=by rw [a7,<-ě,<-zO,Qj8,zO];rfl
 rw [P];clear a7 P T a5 d1 K hs I;generalize hX:x*2^s=X at *;generalize hY:y*2^s=Y at *
 refine ⟨ω,ω,ω,λz V'=>∃us E:zA Nat,z.2.1=aN us++C/\z.2.2=aN E/\OI X Y n f z.1 us E,λz=>(z.1+1).toNat,
  ⟨(((n+1-f:Nat):Int)-1,aN ((ai X++[0,0]).take (n+1))++C,aN (List.replicate (n+1-f) 0)),?_,_,_,rfl,rfl,d2⟩,?_⟩
 ·(try dsimp only);and_intros<;>first|exact True.intro|rfl
 rintro ⟨j,row,f4⟩ V7 l7 ⟨us,E,rfl,rfl,B⟩;dsimp only at B ⊢;have f7:=B.j0;have f8:=B.j1;have f9:=B.ul;have g0:=B.ql;refine ⟨θ,λM=>?_,λM=>?_⟩
 ·have M:0<=j:=by simpa using M
  obtain ⟨j,rfl⟩:=č M;have U:j+f<=n:=ω
  have ⟨hz,u0,u1,u2,t',a8,a9,b0,D⟩:=B.body L U;obtain ⟨eb,b5,b6⟩:=D.words;have w8:i64.wrap ((j:Int)+f)=((j+f:Nat):Int):=by rw [au ω];omega
  have w9:i64.wrap (((j+f:Nat):Int)-1)=((j+f-1:Nat):Int):=by rw [au ω];omega
  have d5:i64.wrap (((j+f:Nat):Int)-2)=((j+f-2:Nat):Int):=by rw [au ω];omega
  have d6:i64.wrap ((j:Int)-1)=(j:Int)-1:=au ω;simp only [w8,w9,d5,d6,Ü];refine ⟨ū,_,lU a8,ω,ū,_,lU a9,ω,ω,?_⟩;rw [eb,b5,b6];clear eb b5 b6
  refine ⟨λg V'=>∃G:Nat,g=(G:Int)/\GF (val (us.drop j)) Y G,
   ⟨λz V'=>∃G ρ:Nat,z=((G:Int),(ρ:Int))/\GI v1 (u0*4294967296+u1) (val (us.drop j)) Y G ρ,λz=>z.1.toNat,
    ⟨((((u0*4294967296+u1) / v1:Nat):Int),(((u0*4294967296+u1)%v1:Nat):Int)),by and_intros<;>first|exact True.intro|rfl,_,_,rfl,D.start⟩,?_⟩,?_⟩
  ·rintro _ V8 l8 ⟨G,ρ,rfl,Q⟩;have ⟨T_,W,d7,N⟩:=D.words2 Q;dsimp only;have t1:∀a:Nat,((((a / 2^32:Nat):Int) != 0)=true↔4294967296<=a)/\((((a / 2^32:Nat):Int) != 0)=false↔a<4294967296):=by{intro a;constructor;{rw [bne_iff_ne];omega};{rw [bne_eq_false_iff_eq];omega}};simp only [d7,jT];refine ⟨θ,ω,λh=>have h:=(t1 _).1.1 h;⟨ω,λw=>have w:=(t1 _).1.1 w;?_,λw=>have w:=(t1 _).2.1 w;?_⟩,λh=>have h:=(t1 _).2.1 h;⟨ω,ū,_,lU b0,λI=>⟨ω,λw=>have w:=(t1 _).1.1 w;?_,λw=>have w:=(t1 _).2.1 w;?_⟩,λI=>?_⟩⟩;{have ⟨g1,g2⟩:=D.Ze Q (D.Y9 h) w;(exact ⟨((G-1:Nat):Int),by rw [N g1];(try dsimp only);and_intros<;>first|exact True.intro|rfl,G-1,rfl,g2⟩)};{have ⟨g1,g2⟩:=D.Zf Q (D.Y9 h) w;(exact ⟨(((G-1:Nat):Int),((ρ+v1:Nat):Int)),by (try dsimp only);omega,by rw [N g1];(try dsimp only);and_intros<;>first|exact True.intro|rfl,G-1,ρ+v1,rfl,g2⟩)};{have h1:=D.dec Q (by rw [T_,W,Ñ] at I;omega);have ⟨g1,g2⟩:=D.Ze Q h1 w;(exact ⟨((G-1:Nat):Int),by rw [N g1];(try dsimp only);and_intros<;>first|exact True.intro|rfl,G-1,rfl,g2⟩)};{have h1:=D.dec Q (by rw [T_,W,Ñ] at I;omega);have ⟨g1,g2⟩:=D.Zf Q h1 w;(exact ⟨(((G-1:Nat):Int),((ρ+v1:Nat):Int)),by (try dsimp only);omega,by rw [N g1];(try dsimp only);and_intros<;>first|exact True.intro|rfl,G-1,ρ+v1,rfl,g2⟩)};{have h1:G*v2<=ρ*4294967296+u2:=by{rw [T_,W,Ò] at I;omega};(exact ⟨(G:Int),by and_intros<;>first|exact True.intro|rfl,G,rfl,D.last Q h h1⟩)}
  ·rintro _ V9 l9 ⟨G,rfl,Z⟩;have b7:=Z.g;clear D a8 a9 b0;have o:=L.len;have b8:=ag Y
   refine ⟨θ,λz V'=>∃(b c i:Nat)(fs:zA Nat),z=((b:Int),(c:Int),(i:Int),aN fs++C)/\Jv us (ai Y) j G i b c fs,λz=>f-z.2.2.1.toNat,
     ⟨(0,0,0,aN us++C),by and_intros<;>first|exact True.intro|rfl,0,0,0,us,rfl,ω,ω,ω,rfl,B.ud,rfl,rfl,ψ⟩,?_⟩
   rintro _ gx d8 ⟨b,c,i,fs,rfl,hS⟩;dsimp only;simp only [Ü];have hi:=hS.hi;have g3:=hS.len;refine ⟨θ,λh=>?_,λh=>?_⟩
   ·have h:i<f:=by{simpa using h};obtain ⟨u,d,ob,od,cn,cb,q1,q2,q3,q4,q5,R,q7,d9⟩:=hS.step b7 (aO Y) B.ud ω ω;refine (h8.le ax).rdq i rfl q1 ?_;have e1:i64.wrap ((j:Int)+i)=((j+i:Nat):Int):=by{rw [au ω];omega};have e2:i64.wrap ((i:Int)+1)=((i+1:Nat):Int):=by{rw [au ω];omega};rw [q3,e1,e2,Ü];refine ⟨ū,_,lU q2,ū,by simp;omega,ω,ω,?_⟩;rw [q4,q5,R];refine ⟨((ob:Int),(cb:Int),((i+1:Nat):Int),aN (fs.set (j+i) od)++C),by (try dsimp only);omega,?_,_,_,_,_,rfl,d9⟩;(try dsimp only);(and_intros<;>first|exact True.intro|rfl|exact Bm)
   ·have h:i=(ai Y).length:=by simp at h;omega
    subst h;obtain ⟨u,ob,od,q1,q2,q3,q4,q5,R,q7,q8,q9,F⟩:=hS.fin B.ud ω (by rw [o];exact hz);rw [o] at q1 R q7 q8 q9 F;rw [b8] at F;refine ⟨ū,_,lU q1,ū,by simp;omega,ū,by simp;omega,ω,?_⟩;rw [q2,q3,Bm,wY (x:=(G:Int)) ω];generalize fs.set (j+f) od=ks at *;have a0:∀H:Nat,(aN E).set (0+j*1) (Ô .u32 (H:Int))=aN (E.set j H):=by intro H;rw [Ĉ,ĝ,bS]
    rw [a0];refine ⟨λh0=>?_,λh0=>?_⟩
    ·have h0:ob=0:=by{simpa using h0};rw [h0,ī,Ę] at F;have b9:=Z.lt;rw [Ē,ŋ] at b9;(refine ⟨((j:Int)-1,aN ks++C,aN (E.set j G)),by (try dsimp only);omega,by and_intros<;>first|exact True.intro|rfl,ks,E.set j G,rfl,rfl,?_⟩;exact B.next U q7 R q8 F ω b7)
    ·have h0:ob=1:=by
      have:ob≠0:=by simpa using h0
      omega
     rw [h0,ĝ] at F
     have S:∀ls:zA Nat,ls.length=n+1->cK ls->val (ls.drop (j+f+1))=0->val (ls.drop j)<4294967296^(f+1):=by intro ls h1 h2 M;have a1:=bO (ls.drop j) (f+1) (by simp;omega);rw [Qh9,show j+(f+1)=j+f+1 from by omega,M,ī,Ę] at a1;have a2:=iV ((h2.drop j).take (f+1));rw [ê,Į,ğ ω] at a2;omega
     have g4:=S ks ω R q9
     have e3:1<=G:=by rcases ĵ G with A|A;{subst A;omega};{exact A}
     have g5:G*Y=(G-1)*Y+Y:=by conv=>lhs;rw [<-Qm3 e3,Ē,ŋ]
     have g6:=Z.gt;have c0:u32.wrap ((G:Int)-1)=((G-1:Nat):Int):=by rw [wY ω];omega
     refine ⟨ū,(G:Int),by rw [Ĉ,ĝ,iT (by simp;omega),Qg0],ū,by simp;omega,?_⟩;have O:(aN (E.set j G)).set (0+j*1) (Ô .u32 ((G-1:Nat):Int))=aN (E.set j (G-1)):=by rw [Ĉ,ĝ,bS,List.set_set]
     rw [c0,O]
     refine ⟨λz V'=>∃(c' i2:Nat)(gs:zA Nat),z=((c':Int),(i2:Int),aN gs++C)/\Jo ks (ai Y) j i2 c' gs,λz=>f-z.2.1.toNat,
      ⟨(0,0,aN ks++C),by and_intros<;>first|exact True.intro|rfl,0,0,ks,rfl,ω,ω,rfl,R,rfl,rfl,ψ⟩,?_⟩
     rintro _ fu dM ⟨c',i2,gs,rfl,hA⟩;dsimp only;simp only [Ü];have g7:=hA.hi;have g8:=hA.len;refine ⟨θ,λh=>?_,λh=>?_⟩
     ·have h:i2<f:=by{simpa using h};obtain ⟨u,d,od,cn,cb,r1,r2,r3,r4,r5,e4⟩:=hA.step (aO Y) R ω ω;refine (h8.le ax).rdq i2 rfl r1 ?_;have e5:i64.wrap ((j:Int)+i2)=((j+i2:Nat):Int):=by{rw [au ω];omega};have e6:i64.wrap ((i2:Int)+1)=((i2+1:Nat):Int):=by{rw [au ω];omega};rw [e5,e6,Ü];refine ⟨ū,_,lU r2,ū,by simp;omega,ω,?_⟩;rw [r3,r4,r5];refine ⟨((cb:Int),((i2+1:Nat):Int),aN (gs.set (j+i2) od)++C),by (try dsimp only);omega,?_,_,_,_,rfl,e4⟩;(try dsimp only);(and_intros<;>first|exact True.intro|rfl|exact Bm)
     ·have h:i2=(ai Y).length:=by{simp at h;omega};subst h;obtain ⟨u,od,kp,r1,r2,r3,r4,r5,r6,r7,r8⟩:=hA.fin R ω (by rw [o];exact q9);rw [o] at r1 r4 r5 r6 r7 r8;rw [b8] at r8;refine ⟨ū,_,lU r1,ū,by simp;omega,?_⟩;rw [r2,Bm];have g9:=S _ ω r4 r7;generalize gs.set (j+f) od=hs at *;have c3:kp=1:=by{rcases ĵ kp with A|A;{rw [A,ī] at r8;omega};{omega}};rw [c3,ĝ] at r8;(refine ⟨((j:Int)-1,aN hs++C,aN (E.set j (G-1))),by (try dsimp only);omega,by and_intros<;>first|exact True.intro|rfl,hs,E.set j (G-1),rfl,rfl,?_⟩;exact B.next U ω r4 (by rw [r6,q8]) ω ω ω)
 ·have M:j=-1:=by{simp at M;omega};subst M;have ⟨hq,hr⟩:=B.done hX.symm hY.symm ω L.top;have c5:=B.qd;have Ri:=B.ud;intro V8 l8 h5 e7 e8 e9 J;have h6:RD V8 (some ⟨e7,0,none⟩) f c7 (us.take f):=by{refine ⟨by simp;omega,ω,λi v hv=>⟨_,rfl,?_⟩,Ri.take f,λA=>nomatch A⟩;rw [add_zero'];refine dX e9 ?_;rw [GZ,ĩ] at hv;split at hv;{rename_i b9;rw [Ĳ (by simp;omega)];exact hv};{cases hv}};refine ⟨ū,λV9 l9=>?_⟩;refine (bu (RD.bh (ds:=E) e8 c5 (n:=n+1-f) (c:=n+1-f) ω (Ù _) |>.le l9)).s ?_;rintro r gx d8 ⟨k1,rfl,g1⟩;refine ⟨_,_,_,rfl,λfu dM=>?_⟩;rw [Ü];refine (QE ra (by simp;omega) s).s ?_;rintro r iD eN ⟨p2,n2,c2,rfl,g2⟩;refine ⟨_,_,_,rfl,λkE fw=>⟨_,_,_,_,_,_,rfl,?_,?_⟩⟩;{rw [aZ c5] at g1;unfold RN;rw [<-hq];exact g1.le ax};{rw [hr] at g2;exact ra}
theorem pf {m xa Z}(ha:RD V p n c xa)(hb:RD V q m e Z)(hm:xa.length<=2^40)(hn:Z.length<=2^40)(h0:val Z≠0):À 192 #[pT p n c,pT q m e] V λr W=>∃p1 n1 c1 p2 n2 c2,r=æ #[pT p1 n1 c1,pT p2 n2 c2,Õ true]/\RN W p1 n1 c1 (val xa / val Z)/\RN W p2 n2 c2 (val xa%val Z):=by have la:=bH ha.gC;have lb:=bH hb.gC;refine Fa V _ λN O=>(bu ra).s ?_;rintro r V2 P ⟨n,rfl,d⟩;rw [aZ ha.gC] at d;refine ⟨_,_,_,rfl,λQ G=>(bu ra).s ?_⟩;rintro r R H ⟨m,rfl,f⟩;rw [aZ hb.gC] at f;replace d:=d.le (G.m H);generalize val xa=x at *;generalize val Z=y at *;have I:=d.len;have S:=f.len;refine ⟨_,_,_,rfl,λo=>?_,λo T s=>(FR ra ra ω).s ?_⟩;{exfalso;have:ai y=[]:=Ĝ.1 (by simp at o;omega);exact h0 (bR.1 this)};rintro r U t rfl;rw [ag,ag];replace d:=d.le (s.m t);replace f:=f.le (s.m t);refine ⟨_,rfl,λb u v=>(qY ra).s ?_,λb=>⟨λg=>?_,λg u v=>?_⟩⟩;{rintro r w z ⟨A,B,C,rfl,h⟩;have b:x<y:=by{simpa [iJ] using b};refine ⟨_,_,_,rfl,λD a=>⟨_,_,_,_,_,_,rfl,?_,?_⟩⟩;{rw [ŕ b];exact RD.nil};{rw [Ĕ b];exact h.le a}};{have g:m=1:=by{simp at g;omega};subst g;refine f.rd0 0 rfl ω λu v=>?_;have E:=(aO y).get (i:=0) ω;have j:y=(ai y)[0]'ω:=by{have e:=jz (ai y) 0 ω;rw [ag,Ŀ ω] at e;simpa using e};rw [<-j] at E ⊢;refine (JU ra ω y h0 E).s ?_;rintro r w z ⟨A,B,C,rfl,h⟩;rw [ag] at h ⊢;have F:x%y<y:=ė _ ω;refine qyW ⟨rfl,λD a=>?_⟩;rw [bq ω];refine (fD _ ω).s ?_;rintro r W X ⟨J,K,L,rfl,k⟩;exact ⟨_,_,_,rfl,λY M=>⟨_,_,_,_,_,_,rfl,ra,k.le M⟩⟩};{have b:y<=x:=by{simpa [<-Ww8,iJ] using b};have l:2<=m:=by{have:¬(m:Int)=1:=by{simpa using g};have:ai y≠[]:=λe=>h0 (bR.1 e);have:(ai y).length≠0:=λe=>this (Ĝ.1 e);omega};refine (MT ra ra ω l b).s ?_;rintro r w z ⟨A,B,C,J,K,L,rfl,h,k⟩;exact qyZ ⟨rfl,λD a=>⟨_,_,_,_,_,_,rfl,ra,k.le a⟩⟩}
theorem Ck (x y):Nat.gcd y (x%y)=Nat.gcd x y:=by rw [Ť x y,Nat.gcd_rec y x,Ť]
theorem FU {m xa xb}(ha:RD V p n c xa)(hb:RD V q m e xb)(hm:xa.length<=2^40)(hn:xb.length<=2^40:=by omega):À 142 #[pT p n c,pT q m e] V λr W=>∃p1 n1 c1,r=pT p1 n1 c1/\RN W p1 n1 c1 (Nat.gcd (val xa) (val xb)):=by
 have la:=bH ha.gC;have lb:=bH hb.gC;refine Oq V _ λV1 T=>(lr (ha.le T) hm).s ?_;rintro r V2 l2 ⟨p1,n1,c1,rfl,f⟩;refine ⟨_,_,_,rfl,λV3 U=>(lr (hb.le ax) hn).s ?_⟩;rintro r V4 W ⟨X,Y,Z,rfl,i⟩
 replace f:=f.le (U.m W)
 refine ⟨_,_,_,rfl,λz k V'=>∃x y:Nat,RN V' z.1 z.2.1 z.2.2.1 x/\RN V' z.2.2.2.1 z.2.2.2.2.1 z.2.2.2.2.2 y/\Nat.gcd x y=Nat.gcd (val xa) (val xb)/\k=y/\(ai x).length<=2^40/\(ai y).length<=2^40,
  ⟨(p1,n1,c1,X,Y,Z),val xb,σ,val xa,val xb,f,i,rfl,rfl,ω,ω⟩,?_⟩
 rintro ⟨p,n,c,q,m,e⟩ k V5 l5 ⟨x,y,f,i,A,hk,J,g⟩;dsimp only at f i ⊢;have a0:=f.len;have Q:=i.len;rw [<-A];have stop:m=0->y=0:=λh=>bR.1 (Ĝ.1 ω)
 have more:∀j:un,V5.Le j->m≠0->À 192 #[pT p n c,pT q m e] j λr B=>∃p1 n1 c1 p2 n2 c2,r=æ #[pT p1 n1 c1,pT p2 n2 c2,Õ true]/\RN B p2 n2 c2 (x%y)/\x%y<y/\Nat.gcd y (x%y)=Nat.gcd (val xa) (val xb)/\(ai (x%y)).length<=2^40/\j.Le B:=by intro j u h;have K:y≠0:=by{intro e0;subst e0;rw [F5] at Q;simp at Q;omega};have d:x%y<y:=ė _ ω;refine (pf (f.le u) (i.le u) J g (by rw [ag];exact K)).s ?_;rintro r B L ⟨M,N,O,G,H,I,rfl,R,v⟩;rw [ag,ag] at v;exact qyZ ⟨rfl,v,d,by rw [Ck,A],Ą (aR) g,L⟩
 refine ⟨θ,λS=>⟨λl V6 P=>?_,λl j u=>(more j u ?_).s ?_⟩,λS=>⟨λC=>⟨λl V6 P=>?_,λl j u=>(more j u ?_).s ?_⟩,λC iD eN=>?_⟩⟩
 ·rw [stop (by simp at l;omega),Qg1];rw [stop (by simp at l;omega)] at A;exact ⟨_,_,_,rfl,f.le P⟩
 ·simp at l;omega
 ·rintro r B L ⟨M,N,O,G,H,I,rfl,v,d,o,s,l9⟩;exact qyK ⟨rfl,(q,m,e,G,H,I),x%y,ω,σ,y,x%y,i.le ax,v,o.m A.symm,rfl,g,s⟩
 ·rw [stop (by simp at l;omega),Qg1];exact ⟨_,_,_,rfl,f.le P⟩
 ·simp at l;omega
 ·rintro r B L ⟨M,N,O,G,H,I,rfl,v,d,o,s,l9⟩;exact qyK ⟨rfl,(q,m,e,G,H,I),x%y,ω,σ,y,x%y,i.le ax,v,o.m A.symm,rfl,g,s⟩
 ·have a1:n<=2:=by simp at S;omega
  have a2:m<=2:=by simp at C;omega
  have D:x<18446744073709551616:=(aQ (k:=2)).1 ω;have E:y<18446744073709551616:=(aQ (k:=2)).1 ω;refine (pg (f.le eN)).s ?_;rintro r kE fw rfl;rw [ag,Ä D];refine ⟨_,_,rfl,λmg hZ=>(pg (i.le ax)).s ?_⟩;rintro r mz eH rfl;rw [ag,Ä E]
  refine ⟨_,_,rfl,λz V'=>∃a b:Nat,z=((a:Int),(b:Int))/\Nat.gcd a b=Nat.gcd x y/\a<18446744073709551616/\b<18446744073709551616,λz=>z.2.toNat,
   ⟨((x:Int),(y:Int)),σ,x,y,rfl,rfl,D,E⟩,?_⟩
  rintro _ mh fP ⟨a,b,rfl,t,a3,F⟩;dsimp only;refine ⟨θ,λw=>?_,λw mX gX=>?_⟩
  ·have w:b≠0:=by{rw [bne_iff_ne] at w;omega};have d:a%b<b:=ė _ ω;have e4:(a:Int).tmod (b:Int)=((a%b:Nat):Int):=by{rw [Qk9 ω,<-Wk7]};rw [e4];exact ⟨ω,((b:Int),((a%b:Nat):Int)),by (try dsimp only);rw [Ü,Ü];exact d,σ,b,a%b,rfl,by rw [Ck,t],F,Nat.lt_trans d F⟩
  ·have w:b=0:=by{rw [bne_eq_false_iff_eq] at w;omega};subst w;rw [Qg1] at t;refine (fD _ ω).s ?_;rintro r nM gy ⟨M,N,O,rfl,R⟩;refine ⟨_,_,_,rfl,λqh iX=>⟨_,_,_,rfl,?_⟩⟩;rw [<-t];exact R.le iX
end
end Go.Proofs.Tryz
namespace Go.Big
def bJ (b:Bool)(ds:List Nat):Int:=if b then -(val ds:Int) else val ds
end Go.Big
namespace Go.Eng
open Go.Big
def RI (V:Ó)(v:Value)(z:Int):Prop:=∃p n c,v=.agg #[.bool (decide (z<0)),.slice p n c]/\RD V p n c (ai z.natAbs)
theorem RI.le {V V' v z}(h:RI V v z)(l:V.Le V'):RI V' v z:=by obtain ⟨p,n,c,e,h⟩:=h;exact ⟨p,n,c,e,ra⟩
def RI.mk {V:un}{b:ut}{p:OA}{n c:Nat}{z:Int}(u:b=decide (z<0))(h:RD V p n c (ai z.natAbs)):RI V (dB #[Õ b,pT p n c]) z:=⟨p,n,c,by rw [u],h⟩
end Go.Eng
namespace Go.Proofs.Tryz
open Go.Eng Go.Big
variable{c n:Nat}{V:Ó}{p:OA}{ds:List Nat}
theorem nP:dL n=0↔n=0:=by unfold dL;split<;>simp_all
theorem fJ (b ds):(bJ b ds).natAbs=val ds:=by unfold bJ;cases b<;>simp
theorem KB (b ds):bJ b ds<0↔b=true/\val ds≠0:=by unfold bJ;cases b;{simp};{simp;omega}
theorem aX (z:Int):bJ (decide (z<0)) (ai z.natAbs)=z:=by unfold bJ;rw [ag];by_cases h:z<0;{rw [Ç h,Ä rfl];omega};{rw [È h,Ã φ];omega}
theorem Uc (b ds):bJ (!b) ds=-bJ b ds:=by unfold bJ;cases b<;>simp
theorem uT (ds):bJ false ds=val ds:=rfl
theorem iM {x}(h:n=(ai x).length):0<n↔x≠0:=by rw [h];constructor;{intro a b;subst b;simp at a};{intro a;rcases ĵ (ai x).length with e|e;{exact Å (bR.1 (Ĝ.1 e)) a};{exact e}}
theorem nT (b){x}(h:RN V p n c x):À 256 #[Õ b,pT p n c] V λr W=>RI W r (if b then -(x:Int) else x):=by have f:=iM h.len;refine xr V _ ⟨λa e d=>?_,λa e d=>?_⟩;{rw [Ä a];refine RI.mk ?_ ?_;{rw [ļ,Ñ,Ñ];omega};{rw [Ŧ,ħ];exact h.le d}};{rw [a,Ã φ];refine RI.mk ?_ ?_;{symm;rw [Ò];omega};{rw [ħ];exact h.le d}}
theorem lg (b)(h:RD V p n c ds)(hm:ds.length<=2^40):À 195 #[dB #[Õ b,pT p n c]] V λr W=>RI W r (bJ b ds):=by refine AD V _ λi j=>(lr ra hm).s ?_;rintro r V2 k ⟨l,m,o,rfl,a⟩;have q:=iM a.len;have f:=KB b ds;refine ⟨_,_,_,rfl,λd g e=>RI.mk ?_ ?_,λd g e=>RI.mk ?_ ?_⟩;{rw [ļ,Ñ,Ñ,f];simp [d];omega};{rw [fJ];exact a.le e};{symm;rw [Ò,f];simp [d]};{rw [fJ];exact a.le e}
def qC (b:Bool)(ds:List Nat):Bool:=decide (ai (val ds)=ds)&&(!b||decide (ds≠[]))
theorem jh (b)(h:RD V p n c ds)(hm:ds.length<=2^40):À 229 #[dB #[Õ b,pT p n c]] V λr W=>r=Õ (qC b ds):=by refine xo V _ λl m=>(Hq ra hm).s λr V2 o rfl=>⟨_,rfl,λd=>⟨λa f g=>?_,λa f g=>?_⟩,λd f g=>?_⟩;{simp [qC,d];simp at a;simp [a]};{have j:=h.len;simp [qC,d];simp at a;simp [a];rw [ļ,Ñ];simp;constructor;{intro i k;subst k;simp at j;omega};{intro i;rcases ĵ ds.length with e|e;{exact Å (Ĝ.1 e) i};{omega}}};{simp [qC,d]}
theorem mD (n)(u:-9223372036854775808<=n)(z:n<=9223372036854775807:=by omega):À 202 #[Jq n] V λr W=>RI W r n:=by refine vq V _ ⟨λa d f=>?_,λa d f=>?_⟩;{have a:n<0:=by{simpa using a};have e:u64.wrap (0-u64.wrap n)=-n:=by{rw [An,An];omega};rw [e];refine (fD _ ω).s ?_;rintro r V2 g ⟨h,i,j,rfl,b⟩;refine ⟨_,_,_,rfl,λk c=>⟨_,_,_,rfl,?_⟩⟩;rw [show n.natAbs=(-n).toNat from by omega];exact b.le c};{have a:0<=n:=by{simpa using a};rw [bq ω];refine (fD _ ω).s ?_;rintro r V2 g ⟨h,i,j,rfl,b⟩;refine ⟨_,_,_,rfl,λk c=>⟨_,_,_,rfl,?_⟩⟩;rw [show n.natAbs=n.toNat from by omega];exact b.le c}
theorem qW (b)(h:RD V p n c ds)(hm:ds.length<=2^40):À 144 #[dB #[Õ b,pT p n c]] V λr W=>r=Jq (bJ b ds).sign:=by refine AE V _ λk l=>(lq ra hm).s ?_;rintro r V2 m rfl;have f:(bJ b ds)=0↔val ds=0:=by{rw [<-fJ b ds];omega};have g:=KB b ds;refine ⟨_,rfl,λa i j=>?_,λa=>⟨λd i j=>?_,λd i j=>?_⟩⟩;{have:val ds=0:=nP.1 (by simp at a;omega);rw [f.2 this];rfl};{have:val ds≠0:=λe=>by{simp [nP.2 e] at a};rw [Qd2 (g.2 ⟨d,this⟩)]};{have:val ds≠0:=λe=>by{simp [nP.2 e] at a};have:0<bJ b ds:=by{have:=f;have:¬bJ b ds<0:=by{rw [g];simp [d]};omega};rw [Qf8 this]}
theorem Em (b)(h:RD V p n c ds)(hm:ds.length<=2^40):À 136 #[dB #[Õ b,pT p n c]] V λr W=>RI W r (-bJ b ds):=by refine DM V _ λd e=>(lg (!b) ra hm).s ?_;rintro r V2 f ⟨g,i,j,rfl,a⟩;rw [Uc] at a ⊢;exact qyW ⟨rfl,λk l=>⟨_,_,_,rfl,ra⟩⟩
theorem jD (b1 b2){q m e z E}(F:RD V p n c z)(M:RD V q m e E)(hm:z.length+E.length<=2^40:=by omega):À 199 #[dB #[Õ b1,pT p n c],dB #[Õ b2,pT q m e]] V λr W=>RI W r (bJ b1 z*bJ b2 E):=by refine DL V _ λd f=>(ji ra ra hm).s ?_;rintro r V2 g ⟨h,i,j,rfl,k⟩;refine ⟨_,_,_,rfl,λl o=>(nT _ ra).s ?_⟩;rintro r s t ⟨u,v,w,rfl,a⟩;have b:(if (!(b1==b2))=true then -((val z*val E:Nat):Int) else ((val z*val E:Nat):Int))=bJ b1 z*bJ b2 E:=by{unfold bJ;cases b1<;>cases b2<;>simp [Wk1,Wx3]};rw [b] at a ⊢;exact qyW ⟨rfl,λx y=>⟨_,_,_,rfl,ra⟩⟩
theorem El (b1 b2){q m e E F}(ha:RD V p n c E)(hb:RD V q m e F)(hm:E.length<=2^40)(M:F.length<=2^40:=by omega):À 248 #[dB #[Õ b1,pT p n c],dB #[Õ b2,pT q m e]] V λr W=>RI W r (bJ b1 E+bJ b2 F):=by
 have fin:∀{b:ut} {x:Nat} {f:un} {g:OA} {i j:Nat},RN f g i j x->(if b then -(x:Int) else x)=bJ b1 E+bJ b2 F ->
   À 256 #[Õ b,pT g i j] f λr W=>∃(N:ut)(O:OA)(Z S6:Nat),r=dB #[Õ N,pT O Z S6]/\∀k:un,W.Le k->RI k (dB #[Õ N,pT O Z S6]) (bJ b1 E+bJ b2 F):=by
  intro b x f g i j h he;refine (nT b h).s ?_;rintro r o s ⟨t,u,v,rfl,a⟩;rw [he] at a ⊢;exact qyW ⟨rfl,λw y=>⟨_,_,_,rfl,ra⟩⟩
 refine DJ V _ ⟨λd f z=>(QD ra ra hm M).s ?_,λd f z=>(FW ra ra hm M).s ?_⟩
 ·rintro r V2 A ⟨g,i,j,rfl,B⟩;have d:b1=b2:=by{simpa using d};subst d;exact ⟨_,_,_,rfl,λk l=>fin ra (by unfold bJ;cases b1<;>simp;omega)⟩
 ·rintro r V2 A ⟨g,i,j,rfl,B⟩;have d:b2=!b1:=by{cases b1<;>cases b2<;>simp_all};subst d;refine qyW ⟨rfl,λa k l=>fin ra ?_,λa k l=>(FW ra ra M hm).s ?_⟩;{have a:val F<=val E:=by{simpa using a};unfold bJ;cases b1<;>simp<;>omega};{rintro r o s ⟨t,u,v,rfl,C⟩;have a:val E<val F:=by{simpa using a};exact qyW ⟨rfl,λw y=>fin ra (by unfold bJ;cases b1<;>simp<;>omega)⟩}
theorem zY (b)(h:RD V p n c ds)(hm:ds.length<=2^40)(u:val ds<4611686018427387904):À 193 #[dB #[Õ b,pT p n c]] V λr W=>r=æ #[Jq (bJ b ds),Õ true]:=by refine yN V _ λg i=>(pg ra hm).s ?_;rintro r V2 j rfl;rw [Ä ω,Ç (show val ds<18446744073709551616 by omega)];refine ⟨_,_,rfl,λ_=>⟨λd=>⟨λa k l=>?_,λa=>?_⟩,λd=>⟨λ_=>⟨λa=>⟨λf m o=>?_,λf=>?_⟩,λa=>?_⟩,λa=>nomatch a⟩⟩,λd=>nomatch d⟩;{subst d;have e:i64.wrap (u64.wrap (0-(val ds:Int)))=-(val ds:Int):=by{rw [An,IntKind.wrap_i64];omega};rw [e];rfl};{simp at a;omega};{subst d;rw [au ω];rfl};{simp at f;omega};{simp [d] at a}
end Go.Proofs.Tryz
namespace Go.Eng
open Go.Big
variable{q:Rat}
def Wd (q:Rat):Prop:=q.num.natAbs<4611686018427387904/\q.den<4611686018427387904
def RR (V:Ó)(v:Value)(q:Rat):Prop:=
 (v=.agg #[.int .i64 q.num,.int .i64 ((q.den:Int)-1),.pointer none]/\Wd q) \/
 (∃a b p n c u n' z,v=.agg #[.int .i64 0,.int .i64 0,.pointer (some a)]/\V.at (a.add 0) (.bool b)/\V.at (a.add 1) (.slice p n c)/\V.at (a.add 2) (.slice u n' z) /\
  RI V (.agg #[.bool b,.slice p n c]) q.num/\RD V u n' z (ai q.den)/\¬Wd q)
theorem RR.le {V V' v}(h:RR V v q)(l:V.Le V'):RR V' v q:=by rcases h with h|⟨a,b,p,n,c,d,f,g,e,i,j,k,m,r,o⟩;{exact .inl h};{exact .inr ⟨a,b,p,n,c,d,f,g,e,l.at i,l.at j,l.at k,m.le l,ra,o⟩}
def Sz (k:Nat)(q:Rat):Prop:=q.num.natAbs<2^k/\q.den<2^k
theorem Sz.s {k m}(h:Sz k q)(hm:k<=m):Sz m q:=
 ⟨ľ h.1 (ķ ω hm),ľ h.2 (ķ ω hm)⟩
theorem ah {n k:Nat}(h:n<2^k:=by omega):(ai n).length<=k:=by rw [aQ];exact ľ h (Nat.pow_le_pow_left ω k)
theorem RR.shape {V v}(h:RR V v q):∃(n d:Int)(p:OA),v=dB #[Jq n,Jq d,qvZ p]:=by rcases h with ⟨e,-⟩|⟨a,b,p,n,c,f,g,i,e,-⟩;{exact ⟨_,_,_,e⟩};{exact ⟨_,_,_,e⟩}
theorem RR.ex {V r}{K:Int->Int->OA->Prop}(g:RR V r q)(h:∀t:Int×Int×OA,RR V (dB #[Jq t.1,Jq t.2.1,qvZ t.2.2]) q->K t.1 t.2.1 t.2.2):∃a b c,r=dB #[Jq a,Jq b,qvZ c]/\K a b c:=by obtain ⟨a,b,c,rfl⟩:=g.shape;exact ⟨a,b,c,rfl,h (a,b,c) g⟩
end Go.Eng
namespace Go.Proofs.Tryz
open Go.Eng Go.Big
def Hg (n:Nat):decide ((dL n:Int)<=62)=decide (n<4611686018427387904):=by have:=@mC n 62;rw [ļ,Ñ,Ñ];omega
def Ry {z:Int}{d:Nat}(u:d≠0)(E:Nat.gcd z.natAbs d=1):(mkRat z d).num=z/\(mkRat z d).den=d:=by have:Nat.gcd d z.natAbs=1:=by{rw [Ť];exact E};rw [Qs8,Ww4,Ã u,Ã u,this];simp
def dw {V:un}(b:ut){p q:OA}{n c m e:Nat}{xs ys:zA Nat}(hx:RD V p n c xs)(hy:RD V q m e ys)(hm:xs.length<=2^40)(hn:ys.length<=2^40:=by omega):À 132 #[dB #[Õ b,pT p n c],pT q m e] V λr W=>RR W r (mkRat (bJ b xs) (val ys)):=by
 have zero:∀V':un,RR V' (dB #[Ô .i64 0,Ô .i64 0,qvZ none]) 0:=λV'=>.inl ⟨rfl,by unfold Wd;decide⟩;refine DA V _ λt C=>(lq ra hn).s ?_;rintro r V2 D rfl;refine ⟨_,rfl,λE u l3=>?_,λE F G=>(qW b ra hm).s ?_⟩
 ·have:val ys=0:=nP.1 (by simp at E;omega);rw [this,Rat.mkRat_zero];exact zero _
 rintro r k v rfl;have l:val ys≠0:=λe=>by simp [nP.2 e] at E
 refine ⟨_,rfl,λH V6 l6=>?_,λH V7 X=>?_⟩
 ·have:bJ b xs=0:=Qm6.1 (by simpa using H);rw [this,Rat.zero_mkRat];exact zero _
 have a0:bJ b xs≠0:=λe=>by simp [e] at H
 have o:val xs≠0:=by rw [<-fJ b xs];omega
 replace hx:=hx.le (C.m (D.m (G.m (v.m X))))
 replace hy:=hy.le (C.m (D.m (G.m (v.m X))))
 refine (FU hx hy hm hn).s ?_;rintro r V8 Y ⟨Z,n3,c3,rfl,hg⟩
 replace hx:=hx.le Y
 replace hy:=hy.le Y
 have I:Nat.gcd (val xs) (val ys)<=val ys:=Ww5 ω (ŝ _ _);have h:(ai (Nat.gcd (val xs) (val ys))).length<=2^40:=Ą (aR I) (by have:=bH hy.gC;omega)
 have J:Nat.gcd (val xs) (val ys)≠0:=by intro K;exact o (Nat.eq_zero_of_gcd_eq_zero_left K)
 refine ⟨_,_,_,rfl,λV9 L=>(lq ra h).s ?_⟩;rintro r gx i rfl;rw [ag]
 replace hx:=hx.le (L.m i)
 replace hy:=hy.le (L.m i)
 replace hg:=hg.le (L.m i)
 refine ⟨_,rfl,λz V'=>∃(us d:zA Nat),z.2.2.2.1=b/\RD V' z.2.2.2.2.1 z.2.2.2.2.2.1 z.2.2.2.2.2.2 us/\RD V' z.1 z.2.1 z.2.2.1 d/\us.length<=2^40/\d.length<=2^40/\val d≠0 /\
  Nat.gcd (val us) (val d)=1/\mkRat (bJ b xs) (val ys)=mkRat (bJ b us) (val d),⟨λy fu dM=>?_,λy=>?_⟩,?_⟩
 ·refine (pf ra ra hm h (by rw [ag];exact J)).s ?_;rintro r iD eN ⟨p4,n4,c4,p5,n5,c5,rfl,g1,g2⟩;refine qyK ⟨rfl,λkE fw=>(pf ra ra hn h (by rw [ag];exact J)).s ?_⟩;rintro r mg hZ ⟨p6,n6,c6,p7,n7,c7,rfl,g3,g4⟩;rw [ag] at g1 g3;have e1:val (ai (val xs / Nat.gcd (val xs) (val ys)))=val xs / Nat.gcd (val xs) (val ys):=ag _;have M:val (ai (val ys / Nat.gcd (val xs) (val ys)))=val ys / Nat.gcd (val xs) (val ys):=ag _;have d2:=ŝ (val xs) (val ys)
  have N:val ys / Nat.gcd (val xs) (val ys)≠0:=by intro K;have:=Wy3 d2;rw [K,œ] at this;exact l this.symm
  refine qyK ⟨rfl,(p6,n6,c6,b,p4,n4,c4),σ,_,_,rfl,ra,g3,?_,?_,?_,?_,?_⟩
  ·exact Ą (aR (Qc7 _ _)) (by have:=bH hx.gC;omega)
  ·exact Ą (aR (Qc7 _ _)) (by have:=bH hy.gC;omega)
  ·rw [M];exact N
  ·rw [e1,M];exact Nat.gcd_div_gcd_div_gcd_of_pos_left ω
  ·rw [M]
   have k2:bJ b xs=bJ b (ai (val xs / Nat.gcd (val xs) (val ys)))*(Nat.gcd (val xs) (val ys):Nat):=by have k3:(val xs:Int)=((val xs / Nat.gcd (val xs) (val ys):Nat):Int)*(Nat.gcd (val xs) (val ys):Nat):=by{rw [<-Ř,Wy3 (Ń (val xs) (val ys))]};unfold bJ;rw [e1];cases b;{simpa using k3};{simp only [Ï];rw [Wk1,<-k3]}
   conv=>lhs;rw [((Wy3 d2).symm),k2]
   exact Rat.mkRat_mul_right J
 ·have O:Nat.gcd (val xs) (val ys)=1:=by{have f:¬(1<dL (Nat.gcd (val xs) (val ys))):=by{simp at y;omega};have:=@mC (Nat.gcd (val xs) (val ys)) 1;omega};exact ⟨(q,m,e,b,p,n,c),σ,xs,ys,rfl,hx,hy,hm,hn,l,O,rfl⟩
 ·rintro ⟨q,m,e,g,p,n,c⟩ mz eH ⟨us,d,s,hu,hv,P,j,Q,R,hq⟩;dsimp only at s hu hv ⊢;subst s;rw [hq];have ⟨S,a⟩:=Ry (z:=bJ g us) Q (by rw [fJ];exact R);generalize mkRat (bJ g us) (val d)=w at *
  have T:Wd w↔val us<4611686018427387904/\val d<4611686018427387904:=by unfold Wd;rw [S,a,fJ]
  have Y9:∀t:un,mz.Le t->¬Wd w->À 195 #[dB #[Õ g,pT p n c]] t λr V2=>∃(SQ:ut)(U5:OA)(UD S6:Nat),r=dB #[Õ SQ,pT U5 UD S6] /\
    (∀u:un,V2.Le u->À 196 #[pT q m e] u λr F=>∃(p3_:OA)(n3_ c3_:Nat),r=pT p3_ n3_ c3_ /\
    (∀k:un,F.Le k->∀A:Nat,k.bh A (.cells #[Õ SQ,pT U5 UD S6,pT p3_ n3_ c3_] 227 (0,0))->RR k (dB #[Ô .i64 0,Ô .i64 0,qvZ (some ⟨A,0,none⟩)]) w)):=by
   intro t C hw;refine (lg g ra P).s ?_;rintro r V2 D U;obtain ⟨p2,n2,c2,rfl,y⟩:=U;have U:RI V2 (dB #[Õ (decide (bJ g us<0)),pT p2 n2 c2]) (bJ g us):=⟨_,_,_,rfl,y⟩;refine qyW ⟨rfl,λu l3=>(lr ra j).s ?_⟩;rintro r F G ⟨Z,n3,c3,rfl,f⟩;refine ⟨_,_,_,rfl,λk v A W=>.inr ⟨⟨A,0,none⟩,decide (bJ g us<0),p2,n2,c2,Z,n3,c3,rfl,?_,?_,?_,?_,?_,hw⟩⟩
   ·rw [add_zero'];exact dX (xs:=[_,_,_]) W rfl
   ·rw [add_zero'];exact dX (xs:=[_,_,_]) W rfl
   ·rw [add_zero'];exact dX (xs:=[_,_,_]) W rfl
   ·rw [S];exact U.le ax
   ·rw [a];exact f.le v
  refine ⟨θ,λmh fP=>(lq ra P).s ?_⟩;rintro r mX gX rfl;refine ⟨_,rfl,λf nM gy=>(lq ra j).s ?_,λf Wl Nt=>Y9 Wl ax ?_⟩
  ·rintro r qh iX rfl;rw [Hg,Ñ] at f;refine ⟨_,rfl,λB jZ gG=>?_,λB Bw zC=>Y9 Bw ax ?_⟩;{rw [Hg,Ñ] at B;refine (zY g ra P f).s ?_;rintro r qN mo rfl;refine ⟨_,_,rfl,λtR oB=>(pg ra j).s ?_⟩;rintro r sO mL rfl;rw [Ä ω];refine ⟨_,_,rfl,λEc oC=>.inl ⟨?_,T.2 ⟨f,B⟩⟩⟩;rw [au (x:=((val d:Nat):Int)) ω,au ω,S,a]};{rw [Hg,Ò] at B;rw [T];omega}
  ·rw [Hg,Ò] at f;rw [T];omega
end Go.Proofs.Tryz
namespace Go.Eng
open Go.Big
def RI.inv {V:un}{b:ut}{p:OA}{n c:Nat}{z:Int}(h:RI V (dB #[Õ b,pT p n c]) z):b=decide (z<0)/\RD V p n c (ai z.natAbs):=by obtain ⟨d,f,g,e,a⟩:=h;simp at e;obtain ⟨rfl,rfl,rfl,rfl⟩:=e;exact ⟨rfl,a⟩
end Go.Eng
namespace Go.Proofs.Tryz
open Go.Eng Go.Big
variable{V:Ó}{v:Value}{q x y:Rat}{k:Nat}
theorem gV (h:RR V v q)(E:Sz k q)(F:k<=2^40:=by omega):À 143 #[v] V λr W=>RI W r q.num:=by rcases h with ⟨rfl,hw⟩|⟨a,b,p,n,c,t,u,w,rfl,e,f,x,i,y,hw⟩;{have:=hw.1;refine ur V _ ⟨π,λ_ j l=>(mD _ ω).s ?_⟩;rintro r V2 m ⟨p,n,c,rfl,g⟩;exact qyW ⟨rfl,λo s=>⟨_,_,_,rfl,ra⟩⟩};{obtain ⟨rfl,z⟩:=i.inv;refine ur V _ ⟨λ_=>⟨rfl,rfl,decide (q.num<0),p,n,c,a.add 0,rfl,?_,?_,λj l=>(lg _ ra (Ą (ah E.1) F)).s ?_⟩,λd=>nomatch d⟩;{exact e};{simpa [Addr.add] using f};{rintro r V2 m ⟨p,n,c,rfl,g⟩;rw [aX] at g ⊢;exact qyW ⟨rfl,λo s=>⟨_,_,_,rfl,ra⟩⟩}}
theorem fV (h:RR V v q)(E:Sz k q)(F:k<=2^40:=by omega):À 141 #[v] V λr W=>∃p n c,r=pT p n c/\RN W p n c q.den:=by rcases h with ⟨rfl,hw⟩|⟨a,b,p,n,c,o,s,t,rfl,u,w,e,x,y,hw⟩;{have:=hw.2;have z:=q.den_nz;refine uk V _ ⟨π,λ_ f i=>?_⟩;rw [au ω,bq ω];refine (fD _ ω).s ?_;rintro r V2 j ⟨p,n,c,rfl,g⟩;rw [show ((q.den:Int)-1+1).toNat=q.den from by omega] at g;exact ⟨_,_,_,rfl,λl m=>⟨_,_,_,rfl,ra⟩⟩};{refine uk V _ ⟨λ_=>⟨rfl,rfl,_,_,_,⟨_,rfl,e⟩,λf i=>(lr ra (Ą (ah E.2) F)).s ?_⟩,λd=>nomatch d⟩;rintro r V2 j ⟨p,n,c,rfl,g⟩;rw [ag] at g;exact ⟨_,_,_,rfl,λl m=>⟨_,_,_,rfl,ra⟩⟩}
theorem ld (n)(u:-9223372036854775808<n)(z:n<=9223372036854775807:=by omega):À 139 #[Jq n] V λr W=>r=Ô .u64 (n.natAbs:Int):=by refine LM V _ ⟨λa b c=>?_,λa b c=>?_⟩;{have a:n<0:=by{simpa using a};rw [au ω,bq ω];congr 1;omega};{have a:0<=n:=by{simpa using a};rw [bq ω];congr 1;omega}
theorem BN (x y:Nat)(u:x<18446744073709551616)(E:y<18446744073709551616:=by omega):À 138 #[Ô .u64 (x:Int),Ô .u64 (y:Int)] V λr W=>r=Ô .u64 (Nat.gcd x y:Int):=by
 refine LN V _ ⟨λz V'=>∃a b:Nat,z=((a:Int),(b:Int))/\Nat.gcd a b=Nat.gcd x y,λz=>z.2.toNat,
  ⟨((x:Int),(y:Int)),σ,x,y,rfl,rfl⟩,?_⟩
 rintro _ g h ⟨a,b,rfl,c⟩;dsimp only;refine ⟨θ,λd=>?_,λd i j=>?_⟩
 ·have d:b≠0:=by{rw [bne_iff_ne] at d;omega};have e:a%b<b:=ė _ ω;have f:(a:Int).tmod (b:Int)=((a%b:Nat):Int):=by{rw [Qk9 ω,<-Wk7]};rw [f];exact ⟨ω,((b:Int),((a%b:Nat):Int)),by (try dsimp only);rw [Ü,Ü];exact e,σ,b,a%b,rfl,by rw [Ck,c]⟩
 ·have d:b=0:=by{rw [bne_eq_false_iff_eq] at d;omega};subst d;rw [Qg1] at c;rw [c]
theorem iH (a b)(E:a.natAbs<4611686018427387904)(F:b.natAbs<4611686018427387904:=by omega):À 197 #[Jq a,Jq b] V λr W=>∃z:Int,r=æ #[Jq z,Õ (decide ((a*b).natAbs<4611686018427387904))]/\((a*b).natAbs<4611686018427387904->z=a*b):=by refine EV V _ λj k=>(ld a ω).s ?_;rintro r V2 l rfl;refine ⟨_,rfl,λm n=>(ld b ω).s ?_⟩;rintro r o q rfl;refine ⟨_,rfl,λs t=>(WW _ _ ω).s ?_⟩;rintro r u v rfl;have f:a*b=if (decide (a<0)==decide (b<0)) then ((a.natAbs*b.natAbs:Nat):Int) else -((a.natAbs*b.natAbs:Nat):Int):=by{rw [Ř];by_cases c:a<0<;>by_cases d:b<0;{rw [Ç c,Ç d,show (a.natAbs:Int)=-a from by omega,show (b.natAbs:Int)=-b from by omega];simp [Wk1,Wx3]};{rw [Ç c,È d,Ã φ,show (a.natAbs:Int)=-a from by omega,show (b.natAbs:Int)=b from by omega];simp [Wk1]};{rw [È c,Ç d,Ã φ,show (a.natAbs:Int)=a from by omega,show (b.natAbs:Int)=-b from by omega];simp [Wx3]};{rw [È c,È d,show (a.natAbs:Int)=a from by omega,show (b.natAbs:Int)=b from by omega];simp}};rw [(ł a b)];generalize a.natAbs*b.natAbs=p at *;refine ⟨_,_,rfl,λe g i=>?_,λe=>⟨λc g i=>?_,λc=>⟨λd g i=>?_,λd g i=>?_⟩⟩⟩;{have e:18446744073709551616<=p:=by{rw [bne_iff_ne] at e;omega};rw [È ω];exact ⟨_,rfl,λh=>ω⟩};{have c:4611686018427387904<=p:=by{rw [Ñ] at c;omega};rw [È ω];exact ⟨_,rfl,λh=>ω⟩};{have e:p / 18446744073709551616=0:=by{rw [bne_eq_false_iff_eq] at e;omega};have c:p<4611686018427387904:=by{rw [Ò] at c;omega};rw [Ç c,au (x:=((p%18446744073709551616:Nat):Int)) ω,au ω];refine ⟨_,rfl,λ_=>?_⟩;have d:(decide (a<0)==decide (b<0))=false:=by{simpa using d};rw [f,d,Ã φ];omega};{have e:p / 18446744073709551616=0:=by{rw [bne_eq_false_iff_eq] at e;omega};have c:p<4611686018427387904:=by{rw [Ò] at c;omega};rw [Ç c,au (x:=((p%18446744073709551616:Nat):Int)) ω];refine ⟨_,rfl,λ_=>?_⟩;have d:(decide (a<0)==decide (b<0))=true:=by{simpa using d};rw [f,d,Ä rfl];omega}
theorem tS (n:Int)(d:Nat)(F:n.natAbs<4611686018427387904)(M:d<4611686018427387904)(z:d≠0):À 198 #[Ô .i64 n,Ô .i64 (d:Int)] V λr W=>RR W r (mkRat n d):=by refine Dz V _ λm o=>(ld n ω).s ?_;rintro r V2 p rfl;rw [bq (x:=(d:Int)) ω];refine ⟨_,rfl,λq s=>(BN _ _ ω).s ?_⟩;rintro r t u rfl;have g:Nat.gcd n.natAbs d<=d:=Ww5 ω (ŝ _ _);have v:0<Nat.gcd n.natAbs d:=Wz7 _ ω;have c:=Qs8 n d;have a:=Ww4 n d;rw [Ã z,Ť] at c a;have b:(Nat.gcd n.natAbs d:Int)∣n:=Int.ofNat_dvd_left.2 (Ń _ _);have h:d / Nat.gcd n.natAbs d<=d:=Qc7 _ _;have i:(n / (Nat.gcd n.natAbs d:Int)).natAbs<=n.natAbs:=by{rw [Qt5 b,ħ];exact Qc7 _ _};have f:Wd (mkRat n d):=by{unfold Wd;rw [c,a];omega};refine ⟨_,rfl,?_⟩;rw [au (x:=((Nat.gcd n.natAbs d:Nat):Int)) ω];refine ⟨λe=>⟨ω,ω,λj k=>.inl ⟨?_,f⟩⟩,λe j k=>.inl ⟨?_,f⟩⟩;{rw [c,a];have l:(d:Int).tdiv (Nat.gcd n.natAbs d:Int)=((d / Nat.gcd n.natAbs d:Nat):Int):=by{rw [Qj6 ω,<-Int.natCast_ediv]};rw [(Int.tdiv_eq_ediv_of_dvd b),l];generalize n / (Nat.gcd n.natAbs d:Int)=nn at *;generalize d / Nat.gcd n.natAbs d=E at *;rw [au ω,au (x:=(E:Int)) ω,au ω]};{have e:Nat.gcd n.natAbs d=1:=by{rw [Ò] at e;omega};rw [c,a,e,au ω];simp}
theorem mkRat_one (z):mkRat z 1=(z:Rat):=by apply Rat.ext;{rw [Qs8];simp};{rw [Ww4];simp}
theorem RD.one {u ty m}(h:V.bh u (.cells #[Ô .u32 1] ty m)):RD V (some ⟨u,0,none⟩) 1 1 [1]:=
 RD.bh (ds:=[1]) h (by simp [cK]) rfl (Ù _)
theorem oZ (b){p n c ds}(h:RD V p n c ds)(hm:ds.length<=2^40):À 230 #[dB #[Õ b,pT p n c]] V λr W=>RR W r (bJ b ds:Rat):=by refine EU V _ λi j k f=>(dw b ra (RD.one f) hm ψ).s ?_;rintro r V2 l a;have e:mkRat (bJ b ds) (val [1])=(bJ b ds:Rat):=mkRat_one _;rw [e] at a;obtain ⟨n,d,p,rfl⟩:=a.shape;exact ⟨_,_,_,rfl,λ_ m g=>a.le g⟩
theorem Cr {z:Int}(h:z.natAbs<4611686018427387904):Wd (z:Rat):=⟨h,by show (1:Nat)<_;decide⟩
theorem uI (n)(O:-9223372036854775808<=n)(Z:n<=9223372036854775807:=by omega):À 232 #[Jq n] V λr W=>RR W r (n:Rat):=by have Y9:∀a:un,V.Le a->À 202 #[Jq n] a λd V2=>∃z:ut,∃(E:OA)(F M:Nat),d=dB #[Õ z,pT E F M]/\(∀b:un,V2.Le b->∀bk3_:Nat,b.bh bk3_ (.cells #[Ô .u32 1] 219 (0,0))->À 132 #[dB #[Õ z,pT E F M],pT (some ⟨bk3_,0,none⟩) 1 1] b λf h=>∃x4_:Int,∃x5_:Int,∃p6_:OA,f=dB #[Jq x4_,Jq x5_,qvZ p6_]/\∀J7_:C->um,(∀N:un,h.Le N->RR N (dB #[Jq x4_,Jq x5_,qvZ p6_]) (n:Rat))):=by{intro a j;refine (mD n O Z).s ?_;rintro r V2 s ⟨p,m,c,rfl,g⟩;refine qyW ⟨rfl,λb t u l=>(dw _ ra (RD.one l) (Ą (ah (k:=64)) ω) ψ).s ?_⟩;rintro r h v i;have e:mkRat (bJ (decide (n<0)) (ai n.natAbs)) (val [1])=(n:Rat):=by{rw [aX];exact mkRat_one _};grind [i.shape,i.le]};refine LH V _ ⟨λ_=>Y9,λo=>⟨λ_=>Y9,λq a j=>.inl ⟨rfl,Cr ?_⟩⟩⟩;rw [Ò] at o q;omega
theorem fC (h:RR V v q)(z:Sz k q)(E:k<=2^40:=by omega):À 78 #[v] V λr W=>r=Jq q.num.sign:=by rcases h with ⟨rfl,hw⟩|⟨a,b,p,n,c,j,l,m,rfl,o,s,t,i,u,hw⟩;{refine sH V _ ⟨π,λ_=>⟨λh e f=>?_,λh=>⟨λg e f=>?_,λg e f=>?_⟩⟩⟩;{rw [Qd2 (by simpa using h)]};{rw [Qf8 (by simpa using g)]};{have:q.num=0:=by{rw [Ò] at h g;omega};rw [this];rfl}};{obtain ⟨rfl,w⟩:=i.inv;refine sH V _ ⟨λ_=>⟨rfl,rfl,decide (q.num<0),p,n,c,a.add 0,rfl,?_,?_,λe f=>(qW _ ra (Ą (ah z.1) E)).s ?_⟩,π⟩<;>grind [Addr.add,aX]}
theorem JL (h:RR V v q):À 231 #[v] V λr W=>r=Õ (decide (q=0)):=by rcases h with ⟨rfl,hw⟩|⟨a,b,p,n,c,f,g,i,rfl,j,k,l,m,o,hw⟩;{grind [sI,Rat.num_eq_zero]};{refine sI _ _ _ V _ ⟨π,λ_ s t=>?_⟩;congr 1;symm;rw [Ò];intro e;subst e;exact hw ⟨φ,φ⟩}
theorem oX (h:RR V v q){k}(M:Sz k q)(N:k<=2^40):À 71 #[v] V λr W=>RR W r (-q):=by rcases h with ⟨rfl,hw⟩|⟨a,b,p,n,c,f,i,j,rfl,m,o,s,t,u,hw⟩;{have:=hw.1;refine uq V _ ⟨π,λ_ w x=>.inl ⟨?_,by unfold Wd;rw [Qt8,Wv9,Ŧ];exact hw⟩⟩;rw [au ω,Qt8,Wv9,Int.zero_sub]};{obtain ⟨rfl,D⟩:=t.inv;refine uq V _ ⟨λ_=>⟨rfl,rfl,decide (q.num<0),p,n,c,a.add 0,rfl,?_,?_,rfl,rfl,f,i,j,⟨_,rfl,s⟩,λw x=>(Em _ ra (Ą (ah M.1) N)).s ?_⟩,π⟩;{exact m};{simpa [Addr.add] using o};{rintro r V2 E l;rw [aX] at l;obtain ⟨y,z,A,rfl,g⟩:=l;refine qyW ⟨rfl,λF B C e=>.inr ⟨⟨C,0,none⟩,decide (-q.num<0),y,z,A,f,i,j,rfl,?_,?_,?_,?_,?_,?_⟩⟩;{rw [add_zero'];exact dX (xs:=[_,_,_]) e rfl};{rw [add_zero'];exact dX (xs:=[_,_,_]) e rfl};{rw [add_zero'];exact dX (xs:=[_,_,_]) e rfl};{exact ⟨_,_,_,rfl,g.le B⟩};{exact u.le ax};{unfold Wd;rw [Qt8,Wv9,Ŧ];exact hw}}}
theorem _root_.Go.Eng.Sz.neg (h:Sz k q):Sz k (-q):=by unfold Sz;rw [Qt8,Wv9,Ŧ];exact h
theorem CJ (z:Int)(g:Nat)(h:(g:Int)∣z):(z / g).natAbs<=z.natAbs:=by rw [Qt5 h,ħ];exact Qc7 _ _
theorem _root_.Go.Eng.Sz.mkRat {k z d}(u:z.natAbs<2^k)(E:d<2^k)(F:0<k):Sz k (mkRat z d):=by have a:1<2^k:=Qd8 ω;unfold Sz;rw [Qs8,Ww4];split;{exact ⟨ĳ k,a⟩};{refine ⟨ś (CJ _ _ (Int.ofNat_dvd_left.2 (ŝ _ _))) u,ś (Qc7 _ _) E⟩}
theorem cz {a b m:Nat}(u:a<2^k)(z:b<2^m):a*b<2^(k+m):=by rw [đ];exact Wq7 u z
theorem Bx {m}(u:Sz k x)(z:Sz m y):(x.num*y.den).natAbs<2^(k+m)/\(y.num*x.den).natAbs<2^(k+m)/\(x.num*y.den+y.num*x.den).natAbs<2^(k+m+1)/\x.den*y.den<2^(k+m):=by have a:(x.num*y.den).natAbs<2^(k+m):=by{rw [ł,ħ];exact cz u.1 z.2};have b:(y.num*x.den).natAbs<2^(k+m):=by{rw [ł,ħ,Wy2];exact cz z.1 u.2};refine ⟨a,b,?_,cz u.2 z.2⟩;rw [ĥ];omega
theorem _root_.Go.Eng.Sz.add {m}(u:Sz k x)(z:Sz m y):Sz (k+m+1) (x+y):=by obtain ⟨-,-,a,b⟩:=Bx u z;rw [Rat.add_def'];grind [Go.Eng.Sz.mkRat]
theorem _root_.Go.Eng.Sz.sub {m}(u:Sz k x)(z:Sz m y):Sz (k+m+1) (x-y):=by rw [Qs9];exact u.add z.neg
theorem _root_.Go.Eng.Sz.mul {m}(u:Sz k x)(z:Sz m y):Sz (k+m+1) (x*y):=by rw [Wj6];refine (Go.Eng.Sz.mkRat (k:=k+m+1) ?_ ?_ ω);{rw [ł];exact ľ (cz u.1 z.1) (ķ ω ω)};{exact ľ (cz u.2 z.2) (ķ ω ω)}
theorem Hk {w:um}(hx:RR V v x)(hy:RR V w y){k m:Nat}(hk:Sz k x)(hm:Sz m y)(hkm:k+m<2^40):À 185 #[v,w] V λr W=>RR W r (x+y):=by
 obtain ⟨M,N,O,rfl⟩:=hx.shape;obtain ⟨P,s1,s2,rfl⟩:=hy.shape;have f:=Rat.add_def' x y;obtain ⟨b1,b2,b3,b4⟩:=Bx hk hm
 have gen:(∀V46:un,V.Le V46->À 143 #[dB #[Ô .i64 M,Ô .i64 N,qvZ O]] V46 λl Q=>∃b53_:ut,∃(U6:OA)(UE S7:Nat),l=dB #[Õ b53_,pT U6 UE S7]/\(∀V48:un,Q.Le V48->À 141 #[dB #[Ô .i64 P,Ô .i64 s1,qvZ s2]] V48 λo R=>∃(p55_:OA)(n55_ c55_:Nat),o=pT p55_ n55_ c55_/\(∀V50:un,R.Le V50->À 199 #[dB #[Õ b53_,pT U6 UE S7],dB #[Õ false,pT p55_ n55_ c55_]] V50 λq S=>∃b56_:ut,∃(U7:OA)(UF S8:Nat),q=dB #[Õ b56_,pT U7 UF S8]/\(∀V52:un,S.Le V52->À 143 #[dB #[Ô .i64 P,Ô .i64 s1,qvZ s2]] V52 λs T=>∃b58_:ut,∃(p59_:OA)(n59_ c59_:Nat),s=dB #[Õ b58_,pT p59_ n59_ c59_]/\(∀V54:un,T.Le V54->À 141 #[dB #[Ô .i64 M,Ô .i64 N,qvZ O]] V54 λt U=>∃(U8:OA)(UG S9:Nat),t=pT U8 UG S9/\(∀V56:un,U.Le V56->À 199 #[dB #[Õ b58_,pT p59_ n59_ c59_],dB #[Õ false,pT U8 UG S9]] V56 λu W=>∃b61_:ut,∃(U9:OA)(UH S_:Nat),u=dB #[Õ b61_,pT U9 UH S_]/\(∀V58:un,W.Le V58->À 248 #[dB #[Õ b56_,pT U7 UF S8],dB #[Õ b61_,pT U9 UH S_]] V58 λz X=>∃b63_:ut,∃(p64_:OA)(n64_ c64_:Nat),z=dB #[Õ b63_,pT p64_ n64_ c64_]/\(∀V60:un,X.Le V60->À 141 #[dB #[Ô .i64 M,Ô .i64 N,qvZ O]] V60 λA Y=>∃(p65_:OA)(n65_ c65_:Nat),A=pT p65_ n65_ c65_/\(∀V62:un,Y.Le V62->À 141 #[dB #[Ô .i64 P,Ô .i64 s1,qvZ s2]] V62 λB Z=>∃(U_:OA)(n66_ c66_:Nat),B=pT U_ n66_ c66_/\(∀V64:un,Z.Le V64->À 140 #[pT p65_ n65_ c65_,pT U_ n66_ c66_] V64 λC a0=>∃(p67_:OA)(n67_ c67_:Nat),C=pT p67_ n67_ c67_/\(∀V66:un,a0.Le V66->À 132 #[dB #[Õ b63_,pT p64_ n64_ c64_],pT p67_ n67_ c67_] V66 λD a1=>∃x68_:Int,∃x69_:Int,∃p70_:OA,D=dB #[Ô .i64 x68_,Ô .i64 x69_,qvZ p70_]/\(∀V68:un,a1.Le V68->RR V68 (dB #[Ô .i64 x68_,Ô .i64 x69_,qvZ p70_]) (x+y))))))))))))):=by intro j l1;refine (gV ra hk).s ?_;rintro r V2 l2 ⟨p1,n1,c1,rfl,H⟩;refine qyW ⟨rfl,λV3 I=>(fV ra hm).s ?_⟩;rintro r V4 l4 ⟨p2,n2,c2,rfl,J⟩;have q1:=ah hk.1;have q2:=ah hk.2;have q3:=ah hm.1;have q4:=ah hm.2;refine ⟨_,_,_,rfl,λV5 l5=>(jD _ false ra ra).s ?_⟩;rintro r V6 l6 h6;rw [aX,uT,ag] at h6;obtain ⟨p3,n3,c3,rfl,E⟩:=h6;refine qyW ⟨rfl,λV7 l7=>(gV ra hm).s ?_⟩;rintro r V8 l8 ⟨p4,n4,c4,rfl,g4⟩;refine qyW ⟨rfl,λV9 l9=>(fV ra hk).s ?_⟩;rintro r gx a2 ⟨p5,n5,c5,rfl,g5⟩;refine ⟨_,_,_,rfl,λfu dM=>(jD _ false ra ra).s ?_⟩;rintro r iD eN F;rw [aX,uT,ag] at F;obtain ⟨p6,n6,c6,rfl,g6⟩:=F;have q5:=ah b1;have q6:=ah b2;refine qyW ⟨rfl,λkE fw=>(El _ _ ra ra ω).s ?_⟩;rintro r mg hZ Wq;rw [aX,aX] at Wq;obtain ⟨p7,n7,c7,rfl,g7⟩:=Wq;refine qyW ⟨rfl,λmz eH=>(fV ra hk).s ?_⟩;rintro r mh fP ⟨p8,n8,c8,rfl,g8⟩;refine ⟨_,_,_,rfl,λmX gX=>(fV ra hm).s ?_⟩;rintro r nM gy ⟨p9,n9,c9,rfl,g9⟩;refine ⟨_,_,_,rfl,λqh iX=>(ji ra ra).s ?_⟩;rintro r jZ gG ⟨a9,b0,b5,rfl,a3⟩;rw [ag,ag] at a3;have q7:=ah b3;have q8:=ah b4;refine ⟨_,_,_,rfl,λqN mo=>(dw _ ra ra ω).s ?_⟩;rintro r tR oB g;rw [aX,ag,<-f] at g;obtain ⟨n,d,p,rfl⟩:=g.shape;exact ⟨_,_,_,rfl,λsO mL=>g.le mL⟩
 have lift:∀j:un,V.Le j->∀V2:un,j.Le V2->V.Le V2:=λ_ h _ h'=>h.m h';rcases hx with ⟨ex,wx⟩|⟨a,b,p,n,c,p',n',c',ex,-,-,-,-,-,wx⟩
 ·rcases hy with ⟨G,wy⟩|⟨a,b,p,n,c,p',n',c',G,-,-,-,-,-,wy⟩
  ·simp only [Value.agg.injEq] at ex G;obtain ⟨rfl,rfl,rfl⟩:=ex;obtain ⟨rfl,rfl,rfl⟩:=G;obtain ⟨a4,b6⟩:=wx;obtain ⟨a5,b7⟩:=wy;have e1:i64.wrap ((x.den:Int)-1+1)=x.den:=by rw [au ω];omega
   have e2:i64.wrap ((y.den:Int)-1+1)=y.den:=by rw [au ω];omega
   refine nG V _ ⟨λ_=>⟨λ_ _=>True,⟨λ_=>⟨λK=>⟨λL j l1=>?_,λL=>?_⟩,λK=>?_⟩,π⟩,λ_ j l1 _=>⟨θ,λV2 l2=>gen V2 ax⟩⟩,π⟩
   ·have K:x.den=1:=by{rw [Ë] at K;omega};have L:y.den=1:=by{rw [Ë] at L;omega};rw [au ω];refine (uI _ ω).s ?_;rintro r V2 l2 i;have e:((x.num+y.num:Int):Rat)=x+y:=by{rw [f,K,L];simp only [Int.natCast_one,Int.mul_one];exact (mkRat_one _).symm};rw [e] at i;obtain ⟨n,d,p,rfl⟩:=i.shape;exact ⟨_,_,_,rfl,λV3 I=>i.le I⟩
   all_goals
    rw [e1,e2];refine λV4 l4=>(iH _ _ a4).s ?_;rintro r V5 l5 ⟨z1,rfl,a6⟩;refine ⟨_,_,rfl,λV6 l6=>(iH _ _ a5).s ?_⟩;rintro r V7 l7 ⟨z2,rfl,a7⟩;refine ⟨_,_,rfl,λV8 l8=>(iH _ _ ω).s ?_⟩;rintro r V9 l9 ⟨z3,rfl,a8⟩;refine ⟨_,_,rfl,λH=>⟨λJ=>⟨λE=>⟨λg4=>⟨λg5 gx a2=>?_,λ_=>⟨(),σ,trivial⟩⟩,λ_=>⟨(),σ,trivial⟩⟩,λ_=>⟨(),σ,trivial⟩⟩,λ_=>⟨(),σ,trivial⟩⟩,λ_=>⟨(),σ,trivial⟩⟩;rw [Ñ] at H J E g4 g5;have k1:=a6 H;have k2:=a7 J;have k3:=a8 E;rw [<-k1] at H;rw [<-k2] at J;rw [<-Ř,ħ] at E;rw [<-Ř] at k3;rw [au ω] at g4 g5 ⊢;rw [k3];refine (tS _ _ ω E (Ō x.den_nz y.den_nz)).s ?_;rintro r fu dM i;rw [k1,k2,<-f] at i;obtain ⟨n,d,p,rfl⟩:=i.shape;exact ⟨_,_,_,rfl,λV3 I=>i.le I⟩
  ·simp only [Value.agg.injEq] at ex G;obtain ⟨rfl,rfl,rfl⟩:=ex;obtain ⟨rfl,rfl,rfl⟩:=G;exact nG V _ ⟨λ_=>⟨λ_ _=>True,⟨π,λ_=>⟨(),σ,trivial⟩⟩,λ_ j l1 _=>⟨θ,λV2 l2=>gen V2 ax⟩⟩,π⟩
 ·simp only [Value.agg.injEq] at ex;obtain ⟨rfl,rfl,rfl⟩:=ex;exact nG V _ ⟨π,λ_=>gen⟩
end Go.Proofs.Tryz
namespace Go.Big
variable{x y:Rat}
def cT (x y:Rat):Int:=(x-y).num.sign
def eG (x y:Rat):Rat:=mkRat (Nat.gcd (x.num.natAbs*y.den) (y.num.natAbs*x.den):Nat) (x.den*y.den)
def KO {q:Rat}:q.num<0↔q<0:=by have:=@Wy9 q;rw [<-Rat.not_le,<-this];omega
def KP {q:Rat}:0<q.num↔0<q:=by rw [Rat.lt_iff_le_and_ne,<-(@Wy9 q)];constructor;{intro h;exact ⟨ω,λe=>by rw [<-e] at h;simp at h⟩};{rintro ⟨h,a⟩;have:q.num≠0:=λe=>a ((@Ŝ q).1 e).symm;omega}
def HB:x<y↔cT x y=-1:=by unfold cT;rw [Wx4,KO,Rat.lt_iff_sub_pos x y,<-Rat.neg_sub y x];constructor;{intro h;have:=Rat.neg_lt_neg h;simpa using this};{intro h;have:=Rat.neg_lt_neg h;rw [Rat.neg_neg] at this;simpa using this}
def HA:y<x↔cT x y=1:=by unfold cT;rw [Int.sign_eq_one_iff_pos,KP,Rat.lt_iff_sub_pos y x]
def iK:x=y↔cT x y=0:=by unfold cT;rw [Qm6,Ŝ];constructor;{intro h;subst h;exact Rat.sub_self};{intro h;have:=Æ (·+ y) h;simpa [Rat.sub_add_cancel,Rat.zero_add] using this}
end Go.Big
namespace Go.Proofs.Tryz
open Go.Eng Go.Big
variable{V:Ó}{v w:Value}{q x y:Rat}{c e k m n:Nat}{p:OA}{ds xs ys:List Nat}
def O2 (z:RR V v x)(E:RR V w y){k m}(F:Sz k x)(hm:Sz m y)(hkm:k+m<2^40):À 130 #[v,w] V λr W=>RR W r (x-y):=by obtain ⟨e,f,g,rfl⟩:=z.shape;obtain ⟨h,s1,s2,rfl⟩:=E.shape;refine ET V _ λi j=>(oX ra hm ω).s λr V2 l b=>RR.ex b λ_ b=>λo q=>(Hk ra ra F hm.neg hkm).s ?_;rintro r s t a;rw [<-Qs9] at a;obtain ⟨n,d,p,rfl⟩:=a.shape;exact ⟨_,_,_,rfl,λu c=>a.le c⟩
def fU (Z:RR V v x)(hy:RR V w y)(hk:Sz k x)(hm:Sz m y)(hkm:k+m<2^40:=by omega):À 64 #[v,w] V λr W=>r=Jq (cT x y):=by obtain ⟨u,z,A,rfl⟩:=Z.shape;obtain ⟨B,s1,s2,rfl⟩:=hy.shape;have gen:∀mg:un,V.Le mg->À 130 #[dB #[Jq u,Jq z,qvZ A],dB #[Jq B,Jq s1,qvZ s2]] mg λd C=>∃x9_:Int,∃x10_:Int,∃p11_:OA,d=dB #[Jq x9_,Jq x10_,qvZ p11_]/\(∀mh:un,C.Le mh->À 78 #[dB #[Jq x9_,Jq x10_,qvZ p11_]] mh λf D=>∃x12_:Int,f=Jq x12_/\(∀nM:un,D.Le nM->Value.int .i64 x12_=Jq (cT x y))):=by{intro i j;refine (O2 ra ra hk hm hkm).s λr V2 M s=>RR.ex s λ_ s=>λN O=>(fC ra (hk.sub hm)).s ?_;rintro r P Q rfl;exact ⟨_,rfl,λ_ _=>rfl⟩};rcases Z with ⟨ex,E⟩|⟨a,b,p,n,c,F,G,H,ex,-,-,-,-,-,E⟩;{rcases hy with ⟨g,I⟩|⟨a,b,p,n,c,F,G,H,g,-,-,-,-,-,I⟩;{simp only [Value.agg.injEq,ť,ō,Value.int.injEq,Value.pointer.injEq,Î,Í] at ex g;obtain ⟨rfl,rfl,rfl⟩:=ex;obtain ⟨rfl,rfl,rfl⟩:=g;have l:x.den=y.den->((x<y↔x.num<y.num)/\(y<x↔y.num<x.num)/\(x=y↔x.num=y.num)):=by{intro e;have t:(0:Int)<y.den:=by{have:=y.den_nz;omega};refine ⟨?_,?_,λh=>by rw [h],λh=>Rat.ext h e⟩;{rw [Rat.lt_iff,e];exact ⟨λh=>Wy1 h ω,λh=>Wx5 h t⟩};{rw [Rat.lt_iff,e];exact ⟨λh=>Wy1 h ω,λh=>Wx5 h t⟩}};refine nH V _ ⟨λ_=>⟨λ_=>⟨λo=>?_,λ_=>gen⟩,π⟩,π⟩;have o:x.den=y.den:=by{rw [Ë] at o;omega};have ⟨J,K,L⟩:=l o;refine ⟨λh i j=>?_,λh=>⟨λq i j=>?_,λq i j=>?_⟩⟩;{rw [HB.1 (J.2 (by simpa using h))]};{rw [HA.1 (K.2 (by simpa using q))]};{rw [iK.1 (L.2 (by rw [Ò] at h q;omega))]}};{simp only [Value.agg.injEq,ť,ō,Value.int.injEq,Value.pointer.injEq,Î,Í] at ex g;obtain ⟨rfl,rfl,rfl⟩:=ex;obtain ⟨rfl,rfl,rfl⟩:=g;exact nH V _ ⟨λ_=>⟨π,λ_=>gen⟩,π⟩}};{simp only [Value.agg.injEq,ť,ō,Value.int.injEq,Value.pointer.injEq,Î,Í] at ex;obtain ⟨rfl,rfl,rfl⟩:=ex;exact nH V _ ⟨π,λ_=>gen⟩}
def nR (u:RR V v x)(z:RR V w y)(E:Sz k x)(hm:Sz m y)(hkm:k+m<2^40:=by omega):À 66 #[v,w] V λr W=>r=Õ (decide (x=y)):=by obtain ⟨a,b,c,rfl⟩:=u.shape;obtain ⟨d,s1,s2,rfl⟩:=z.shape;refine Ar V _ λe f=>(fU ra ra E hm hkm).s λr V2 g rfl=>⟨_,rfl,λh i=>?_⟩;congr 1;rw [ļ,Ë,Ñ,iK]
def Kn (u:Sz k x)(z:Sz m y):x.num.natAbs*y.den<2^(k+m)/\y.num.natAbs*x.den<2^(k+m)/\Nat.gcd (x.num.natAbs*y.den) (y.num.natAbs*x.den)<2^(k+m)/\x.den*y.den<2^(k+m):=by have a:=cz u.1 z.2;have b:y.num.natAbs*x.den<2^(k+m):=by{rw [Wy2];exact cz z.1 u.2};refine ⟨a,b,?_,cz u.2 z.2⟩;rcases ĵ (x.num.natAbs*y.den) with e|e;{rw [e,Wz8];exact b};{exact ś (Ww5 e (Ń _ _)) a}
def gU (u:Sz k x)(z:Sz m y):Sz (k+m+1) (eG x y):=by obtain ⟨-,-,a,b⟩:=Kn u z;have c:2^(k+m)<=2^(k+m+1):=ķ ω ω;exact Go.Eng.Sz.mkRat (by rw [ħ];omega) ω ω
def k_ (hx:RR V v x)(hy:RR V w y)(hk:Sz k x)(hm:Sz m y)(hkm:k+m<2^40:=by omega):À 73 #[v,w] V λr W=>RR W r (eG x y):=by obtain ⟨C,D,E,rfl⟩:=hx.shape;obtain ⟨F,s1,s2,rfl⟩:=hy.shape;obtain ⟨b1,b2,b3,b4⟩:=Kn hk hm;have q1:=ah hk.1;have q2:=ah hk.2;have q3:=ah hm.1;have q4:=ah hm.2;have q5:=ah b1;have q6:=ah b2;have q7:=ah b3;have q8:=ah b4;have gen:(∀V78:un,V.Le V78->À 141 #[dB #[Jq C,Jq D,qvZ E]] V78 λg G=>∃(p52_:OA)(n52_ c52_:Nat),g=pT p52_ n52_ c52_/\(∀V80:un,G.Le V80->À 141 #[dB #[Jq F,Jq s1,qvZ s2]] V80 λi H=>∃(p53_:OA)(n53_ c53_:Nat),i=pT p53_ n53_ c53_/\(∀V82:un,H.Le V82->À 140 #[pT p52_ n52_ c52_,pT p53_ n53_ c53_] V82 λj I=>∃(U6:OA)(UE S7:Nat),j=pT U6 UE S7/\(∀V84:un,I.Le V84->À 143 #[dB #[Jq C,Jq D,qvZ E]] V84 λl J=>∃b55_:ut,∃(p56_:OA)(n56_ c56_:Nat),l=dB #[Õ b55_,pT p56_ n56_ c56_]/\(∀V86:un,J.Le V86->À 141 #[dB #[Jq F,Jq s1,qvZ s2]] V86 λo K=>∃(U7:OA)(UF S8:Nat),o=pT U7 UF S8/\(∀V88:un,K.Le V88->À 140 #[pT p56_ n56_ c56_,pT U7 UF S8] V88 λq L=>∃(p58_:OA)(n58_ c58_:Nat),q=pT p58_ n58_ c58_/\(∀V90:un,L.Le V90->À 143 #[dB #[Jq F,Jq s1,qvZ s2]] V90 λs M=>∃b59_:ut,∃(U8:OA)(UG S9:Nat),s=dB #[Õ b59_,pT U8 UG S9]/\(∀V92:un,M.Le V92->À 141 #[dB #[Jq C,Jq D,qvZ E]] V92 λt N=>∃(p61_:OA)(n61_ c61_:Nat),t=pT p61_ n61_ c61_/\(∀V94:un,N.Le V94->À 140 #[pT U8 UG S9,pT p61_ n61_ c61_] V94 λu O=>∃(U9:OA)(UH S_:Nat),u=pT U9 UH S_/\(∀V96:un,O.Le V96->À 142 #[pT p58_ n58_ c58_,pT U9 UH S_] V96 λz P=>∃(p63_:OA)(n63_ c63_:Nat),z=pT p63_ n63_ c63_/\(∀V98:un,P.Le V98->À 132 #[dB #[Õ false,pT p63_ n63_ c63_],pT U6 UE S7] V98 λA Q=>∃x64_:Int,∃x65_:Int,∃U_:OA,A=dB #[Jq x64_,Jq x65_,qvZ U_]/\(∀V100:un,Q.Le V100->RR V100 (dB #[Jq x64_,Jq x65_,qvZ U_]) (eG x y))))))))))))):=by{intro X Y;refine (fV ra hk).s ?_;rintro r V2 Z ⟨p1,n1,c1,rfl,g1⟩;refine ⟨_,_,_,rfl,λV3 l3=>(fV ra hm).s ?_⟩;rintro r V4 l4 ⟨p2,n2,c2,rfl,g2⟩;refine ⟨_,_,_,rfl,λV5 l5=>(ji ra ra).s ?_⟩;rintro r V6 l6 ⟨p3,n3,c3,rfl,g3⟩;rw [ag,ag] at g3;refine ⟨_,_,_,rfl,λV7 l7=>(gV ra hk).s ?_⟩;rintro r V8 l8 ⟨p4,n4,c4,rfl,g4⟩;refine qyW ⟨rfl,λV9 l9=>(fV ra hm).s ?_⟩;rintro r gx a0 ⟨p5,n5,c5,rfl,g5⟩;refine ⟨_,_,_,rfl,λfu dM=>(ji ra ra).s ?_⟩;rintro r iD eN ⟨p6,n6,c6,rfl,g6⟩;rw [ag,ag] at g6;refine ⟨_,_,_,rfl,λkE fw=>(gV ra hm).s ?_⟩;rintro r mg hZ ⟨p7,n7,c7,rfl,g7⟩;refine qyW ⟨rfl,λmz eH=>(fV ra hk).s ?_⟩;rintro r mh fP ⟨p8,n8,c8,rfl,g8⟩;refine ⟨_,_,_,rfl,λmX gX=>(ji ra ra).s ?_⟩;rintro r nM gy ⟨p9,n9,c9,rfl,g9⟩;rw [ag,ag] at g9;refine ⟨_,_,_,rfl,λqh iX=>(FU ra ra ω).s ?_⟩;rintro r jZ gG ⟨a1,a2,a3,rfl,R⟩;rw [ag,ag] at R;refine ⟨_,_,_,rfl,λqN mo=>(dw false ra ra ω).s ?_⟩;rintro r tR oB f;rw [uT,ag,ag] at f;obtain ⟨n,d,p,rfl⟩:=f.shape;exact ⟨_,_,_,rfl,λsO mL=>f.le mL⟩};rcases hx with ⟨ex,wx⟩|⟨a,b,p,n,c,p',n',c',ex,-,-,-,-,-,wx⟩;{rcases hy with ⟨B,wy⟩|⟨a,b,p,n,c,p',n',c',B,-,-,-,-,-,wy⟩;{simp only [Value.agg.injEq,ť,ō,Value.int.injEq,Value.pointer.injEq,Î,Í] at ex B;obtain ⟨rfl,rfl,rfl⟩:=ex;obtain ⟨rfl,rfl,rfl⟩:=B;obtain ⟨S,a4⟩:=wx;obtain ⟨T,a5⟩:=wy;refine sG V _ ⟨λ_=>⟨λ_=>⟨λU=>⟨λ_ _=>True,⟨λW X Y=>?_,λ_=>⟨(),σ,trivial⟩⟩,λ_ X Y _=>⟨θ,λV2 Z=>gen V2 ax⟩⟩,λ_=>gen⟩,π⟩,π⟩;have U:x.den=1:=by{rw [Ë] at U;omega};have W:y.den=1:=by{rw [Ë] at W;omega};refine (ld _ ω).s ?_;rintro r V2 Z rfl;refine ⟨_,rfl,λV3 l3=>(ld _ ω).s ?_⟩;rintro r V4 l4 rfl;refine ⟨_,rfl,λV5 l5=>(BN _ _ ω).s ?_⟩;rintro r V6 l6 rfl;refine ⟨_,rfl,λV7 l7=>.inl ?_⟩;have e:eG x y=((Nat.gcd x.num.natAbs y.num.natAbs:Nat):Int):=by{unfold eG;rw [U,W,ĝ,ĝ,ĝ];exact mkRat_one _};have hl:Nat.gcd x.num.natAbs y.num.natAbs<4611686018427387904:=by{rcases ĵ x.num.natAbs with e|e;{rw [e,Wz8];exact T};{exact ś (Ww5 e (Ń _ _)) S}};rw [e,au ω];exact ⟨rfl,Cr (by rw [ħ];exact hl)⟩};{simp only [Value.agg.injEq,ť,ō,Value.int.injEq,Value.pointer.injEq,Î,Í] at ex B;obtain ⟨rfl,rfl,rfl⟩:=ex;obtain ⟨rfl,rfl,rfl⟩:=B;exact sG V _ ⟨λ_=>⟨π,λ_=>gen⟩,π⟩}};{simp only [Value.agg.injEq,ť,ō,Value.int.injEq,Value.pointer.injEq,Î,Í] at ex;obtain ⟨rfl,rfl,rfl⟩:=ex;exact sG V _ ⟨π,λ_=>gen⟩}
def RA (V:Ó)(v:Value)(q:Rat):Prop:=∃p n c u n' z,v=.agg #[.bool (decide (q.num<0)),.slice p n c,.slice u n' z]/\RD V p n c (ai q.num.natAbs)/\RD V u n' z (ai q.den)
def RA.le {V V'}(h:RA V v q)(l:V.Le V'):RA V' v q:=by obtain ⟨p,n,c,a,b,d,e,f,g⟩:=h;exact ⟨p,n,c,a,b,d,e,ra,ra⟩
def MR (b){q}(z:RD V p n c xs)(E:RD V q m e ys)(hm:xs.length<=2^40)(u:ys.length<=2^40:=by omega):À 67 #[dB #[Õ b,pT p n c,pT q m e]] V λr W=>RR W r (mkRat (bJ b xs) (val ys)):=by refine Ol V _ λd f=>(dw b ra ra hm u).s λr V2 g h=>RR.ex h λ_ h=>λi a=>h.le a
def FQ (h:RA V v q)(u:Sz k q)(z:k<=2^40):À 67 #[v] V λr W=>RR W r q:=by obtain ⟨p,n,c,d,e,f,rfl,a,b⟩:=h;have g:=ah u.1;have i:=ah u.2;refine (MR _ a b ω).s ?_;rintro r V' _ h;rw [aX,ag,Qr2] at h;exact h
def vG (h:RR V v q)(z:Sz k q)(E:k<=2^40):À 131 #[v] V λr W=>RA W r q:=by obtain ⟨a,b,c,rfl⟩:=h.shape;refine EP V _ λd e=>(gV ra z E).s ?_;rintro r V2 f ⟨g,i,j,rfl,l⟩;refine qyW ⟨rfl,λm n=>(fV ra z E).s ?_⟩;rintro r o p ⟨s,t,u,rfl,w⟩;exact ⟨_,_,_,rfl,λx y=>⟨_,_,_,_,_,_,rfl,ra,ra⟩⟩
def O1 (hx:RR V v x)(hy:RR V w y){k m}(hk:Sz k x)(hm:Sz m y)(hkm:k+m<2^40):À 137 #[v,w] V λr W=>RR W r (x*y):=by obtain ⟨C,D,E,rfl⟩:=hx.shape;obtain ⟨F,s1,s2,rfl⟩:=hy.shape;have f:=Wj6 x y;have b1:(x.num*y.num).natAbs<2^(k+m):=by{rw [ł,đ];exact Wq7 hk.1 hm.1};have b2:x.den*y.den<2^(k+m):=by{rw [đ];exact Wq7 hk.2 hm.2};have q1:=ah hk.1;have q2:=ah hk.2;have q3:=ah hm.1;have q4:=ah hm.2;have q5:=ah b1;have q6:=ah b2;refine ER V _ ⟨λG=>⟨λ_ _=>True,⟨λH=>?_,λ_=>⟨(),σ,trivial⟩⟩,λ_ V8 I _=>⟨rfl,λJ i=>?_⟩⟩,λ_ J K=>?_⟩;{rcases hx with ⟨ex,A⟩|⟨a,b,p,n,c,L,M,N,ex,-,-,-,-,-,A⟩;{rcases hy with ⟨g,B⟩|⟨a,b,p,n,c,L,M,N,g,-,-,-,-,-,B⟩;{simp only [Value.agg.injEq,ť,ō,Value.int.injEq,Value.pointer.injEq,Î,Í] at ex g;obtain ⟨rfl,rfl,rfl⟩:=ex;obtain ⟨rfl,rfl,rfl⟩:=g;obtain ⟨j,O⟩:=A;obtain ⟨l,P⟩:=B;have Q:i64.wrap ((x.den:Int)-1+1)=x.den:=by{rw [au ω];omega};have R:i64.wrap ((y.den:Int)-1+1)=y.den:=by{rw [au ω];omega};rw [Q,R];intro V1 l1;refine (iH _ _ j l).s ?_;rintro r V2 l2 ⟨z1,rfl,o⟩;refine ⟨_,_,rfl,λV3 l3=>(iH _ _ ω).s ?_⟩;rintro r V4 l4 ⟨z2,rfl,q⟩;refine ⟨_,_,rfl,λt1=>⟨λt2 V5 l5=>?_,λ_=>⟨(),σ,trivial⟩⟩,λ_=>⟨(),σ,trivial⟩⟩;have t1:=Á t1;have t2:=Á t2;rw [o t1,q t2];have S:((x.den:Int)*(y.den:Int))=((x.den*y.den:Nat):Int):=(Ř ..).symm;rw [S] at t2 ⊢;refine (tS _ _ t1 (by rwa [ħ] at t2) (Ō x.den_nz y.den_nz)).s ?_;rintro r V6 l6 s;rw [<-f] at s;obtain ⟨n,d,p,rfl⟩:=s.shape;exact ⟨_,_,_,rfl,λV7 T=>s.le T⟩};{simp only [Value.agg.injEq,ť,ō,Value.int.injEq,Value.pointer.injEq,Î,Í] at g;obtain ⟨rfl,rfl,rfl⟩:=g;cases H}};{simp only [Value.agg.injEq,ť,ō,Value.int.injEq,Value.pointer.injEq,Î,Í] at ex;obtain ⟨rfl,rfl,rfl⟩:=ex;cases G}};{have K:=I.m i;refine (gV ra hk).s ?_;rintro r U t ⟨W,X,Y,rfl,Z⟩;refine qyW ⟨rfl,λfu dM=>(gV ra hm).s ?_⟩;rintro r iD eN ⟨p2,n2,c2,rfl,g2⟩;refine qyW ⟨rfl,λkE fw=>(jD _ _ ra ra).s ?_⟩;rintro r mg hZ h;rw [aX,aX] at h;obtain ⟨p3,n3,c3,rfl,g3⟩:=h;refine qyW ⟨rfl,λmz eH=>(fV ra hk).s ?_⟩;rintro r mh fP ⟨p4,n4,c4,rfl,g4⟩;refine ⟨_,_,_,rfl,λmX gX=>(fV ra hm).s ?_⟩;rintro r nM gy ⟨p5,n5,c5,rfl,g5⟩;refine ⟨_,_,_,rfl,λqh iX=>(ji ra ra).s ?_⟩;rintro r jZ gG ⟨p6,n6,c6,rfl,u⟩;rw [ag,ag] at u;refine ⟨_,_,_,rfl,λqN mo=>(dw _ ra ra ω).s ?_⟩;rintro r tR oB e;rw [aX,ag,<-f] at e;obtain ⟨n,d,p,rfl⟩:=e.shape;exact ⟨_,_,_,rfl,λsO z=>e.le z⟩};{skip;refine (gV ra hk).s ?_;rintro r U t ⟨W,X,Y,rfl,Z⟩;refine qyW ⟨rfl,λfu dM=>(gV ra hm).s ?_⟩;rintro r iD eN ⟨p2,n2,c2,rfl,g2⟩;refine qyW ⟨rfl,λkE fw=>(jD _ _ ra ra).s ?_⟩;rintro r mg hZ h;rw [aX,aX] at h;obtain ⟨p3,n3,c3,rfl,g3⟩:=h;refine qyW ⟨rfl,λmz eH=>(fV ra hk).s ?_⟩;rintro r mh fP ⟨p4,n4,c4,rfl,g4⟩;refine ⟨_,_,_,rfl,λmX gX=>(fV ra hm).s ?_⟩;rintro r nM gy ⟨p5,n5,c5,rfl,g5⟩;refine ⟨_,_,_,rfl,λqh iX=>(ji ra ra).s ?_⟩;rintro r jZ gG ⟨p6,n6,c6,rfl,u⟩;rw [ag,ag] at u;refine ⟨_,_,_,rfl,λqN mo=>(dw _ ra ra ω).s ?_⟩;rintro r tR oB e;rw [aX,ag,<-f] at e;obtain ⟨n,d,p,rfl⟩:=e.shape;exact ⟨_,_,_,rfl,λsO z=>e.le z⟩}
def inv_neg (h:q.num<0):(q⁻¹).num=-(q.den:Int)/\(q⁻¹).den=q.num.natAbs:=by show (Rat.inv q).num=_/\(Rat.inv q).den=_;unfold Rat.inv;rw [dif_pos h];exact ⟨rfl,rfl⟩
def inv_pos {q:Rat}(h:0<q.num:=by omega):(q⁻¹).num=(q.den:Int)/\(q⁻¹).den=q.num.natAbs:=by show (Rat.inv q).num=_/\(Rat.inv q).den=_;unfold Rat.inv;rw [dif_neg ω,dif_pos h];exact ⟨rfl,rfl⟩
def inv_zero (h:q.num=0):q⁻¹=0:=by have:q=0:=Ŝ.1 h;subst this;exact Rat.inv_zero
def il (h:Sz k q):Sz k q⁻¹:=by rcases Qp8 q.num 0 with a|a|a;{have ⟨b,c⟩:=inv_neg a;refine ⟨?_,?_⟩;{rw [b,Ŧ];exact h.2};{rw [c];exact h.1}};{rw [inv_zero a];exact ⟨ĳ _,ś (Qt0 q.den_nz) h.2⟩};{have ⟨b,c⟩:=inv_pos a;exact ⟨by rw [b];exact h.2,by rw [c];exact h.1⟩}
def sz (h:Sz k q:=by (apply Sz.s;(focus repeat' first|assumption|apply Sz.add|apply Sz.sub|apply Sz.mul|apply Sz.neg|apply il);omega)):Sz k q:=h
def O0 (h:RR V v q)(Z:Sz k q)(hk:k<=2^40:=by omega):À 74 #[v] V λr W=>RR W r q⁻¹:=by rcases h with ⟨rfl,hw⟩|⟨a,b,p,n,c,o,s,t,rfl,y,z,A,B,E,hw⟩;{obtain ⟨l,m⟩:=hw;have F:=q.den_nz;refine uo V _ ⟨π,λ_=>⟨λg G H=>?_,λg=>⟨λj I J=>?_,λj K L=>?_⟩⟩⟩;{have g:=Á g;have ⟨f,i⟩:=inv_neg g;refine .inl ⟨?_,?_⟩;{rw [f,i,au (x:=(q.den:Int)-1+1) ω,au (x:=0-q.num) ω,au (x:=0-((q.den:Int)-1+1)) ω,au ω];congr 4;{omega};{congr 1;omega}};{unfold Wd;rw [f,i,Ŧ];exact ⟨m,l⟩}};{have j:q.num=0:=by{simpa using j};rw [inv_zero j];exact .inl ⟨rfl,φ,φ⟩};{have g:=Â g;have j:q.num≠0:=by{simpa using j};have ⟨f,i⟩:=inv_pos (q:=q);refine .inl ⟨?_,?_⟩;{rw [f,i,au (x:=(q.den:Int)-1+1) ω,au ω];congr 4;{omega};{congr 1;omega}};{unfold Wd;rw [f,i];exact ⟨m,l⟩}}};{obtain ⟨rfl,M⟩:=B.inv;have N:=ah Z.1;have O:=ah Z.2;refine uo V _ ⟨λ_=>⟨rfl,rfl,rfl,decide (q.num<0),⟨a.add 0,by simp [af,Addr.add],y⟩,rfl,rfl,o,s,t,⟨a.add 2,rfl,A⟩,rfl,rfl,rfl,p,n,c,⟨a.add 1,by simp [af,Addr.add],z⟩,λP Q=>(dw _ ra ra ω).s ?_⟩,λd=>nomatch d⟩;rintro r V2 R h;have e:mkRat (bJ (decide (q.num<0)) (ai q.den)) (val (ai q.num.natAbs))=q⁻¹:=by{rw [ag];have C:bJ (decide (q.num<0)) (ai q.den)=if q.num<0 then -(q.den:Int) else (q.den:Int):=by{unfold bJ;rw [ag];by_cases g:q.num<0<;>simp [g]};rw [C];rcases Qp8 q.num 0 with d|d|d;{have ⟨f,i⟩:=inv_neg d;rw [Ä d,<-f,<-i,Qr2]};{rw [inv_zero d,d];simp};{have ⟨f,i⟩:=inv_pos d;rw [Ã ω,<-f,<-i,Qr2]}};rw [e] at h;obtain ⟨u,v,w,rfl⟩:=h.shape;exact ⟨_,_,_,rfl,λS D=>h.le D⟩}
def A6 (u:RR V v x)(z:RR V w y){k m}(E:Sz k x)(hm:Sz m y)(hkm:k+m<2^40):À 135 #[v,w] V λr W=>RR W r (x*y⁻¹):=by obtain ⟨c,d,e,rfl⟩:=u.shape;obtain ⟨f,s1,s2,rfl⟩:=z.shape;refine ES V _ λh i=>(O0 ra hm).s λr V2 j b=>RR.ex b λ_ b=>λl n=>(O1 ra ra E (il hm) hkm).s λr o p a=>RR.ex a λ_ a=>λq g=>a.le g
def Y7 (a b:Nat)(u:a<4294967296)(z:b<4294967296):b_ .and .u32 (a:Int) (b:Int)=((a &&& b:Nat):Int):=by have c:(BitVec.ofInt IntKind.u32.bits ((a:Nat):Int) &&& BitVec.ofInt IntKind.u32.bits ((b:Nat):Int)).toNat=a &&& b:=by{show (BitVec.ofInt 32 ((a:Nat):Int) &&& BitVec.ofInt 32 ((b:Nat):Int)).toNat=_;rw [ř,ř,BitVec.toNat_and,Ŕ,Ŕ,Ĕ ω,Ĕ ω]};have d:a &&& b<2^32:=Qp2 a ω;rw [b_,kN,c];omega
def or32 (a b:Nat)(u:a<4294967296)(z:b<4294967296):b_ .or .u32 (a:Int) (b:Int)=((a ||| b:Nat):Int):=by have c:(BitVec.ofInt IntKind.u32.bits ((a:Nat):Int) ||| BitVec.ofInt IntKind.u32.bits ((b:Nat):Int)).toNat=a ||| b:=by{show (BitVec.ofInt 32 ((a:Nat):Int) ||| BitVec.ofInt 32 ((b:Nat):Int)).toNat=_;rw [ř,ř,Wj2,Ŕ,Ŕ,Ĕ ω,Ĕ ω]};have d:a ||| b<2^32:=Wz6 ω ω;rw [b_,kN,c];omega
def Wf (a b:Nat)(u:a<4294967296)(z:b<4294967296):b_ .xor .u32 (a:Int) (b:Int)=((a ^^^ b:Nat):Int):=by have c:(BitVec.ofInt IntKind.u32.bits ((a:Nat):Int) ^^^ BitVec.ofInt IntKind.u32.bits ((b:Nat):Int)).toNat=a ^^^ b:=by{show (BitVec.ofInt 32 ((a:Nat):Int) ^^^ BitVec.ofInt 32 ((b:Nat):Int)).toNat=_;rw [ř,ř,BitVec.toNat_xor,Ŕ,Ŕ,Ĕ ω,Ĕ ω]};have d:a ^^^ b<2^32:=Qd9 ω ω;rw [b_,kN,c];omega
def top32 (h:n<4294967296):n / 2147483648=if n.testBit 31 then 1 else 0:=by rw [Qg3];have:(2:Nat)^31=2147483648:=φ;rw [this];split;{rename_i a;simp at a;omega};{rename_i a;simp at a;omega}
def OW {n:Nat}(h:n<4294967296:=by omega):n.testBit 31=decide (2147483648<=n):=by rw [Qg3];have:(2:Nat)^31=2147483648:=φ;rw [this];congr 1;simp;omega
def S3 (x y c:Nat)(u:x<4294967296)(z:y<4294967296)(E:c<=1){d:Nat}(F:(d:Int)=((x:Int)-y-c)%4294967296):(((4294967295 ^^^ x) &&& y) ||| ((4294967295 ^^^ (x ^^^ y)) &&& d)) / 2147483648=if x<y+c then 1 else 0:=by have j:(4294967295 ^^^ x)<2^32:=Qd9 ω ω;have b:x ^^^ y<2^32:=Qd9 ω ω;have k:=Qd9 ω b;have e:(4294967295 ^^^ x) &&& y<2^32:=Qp2 _ ω;have f:(4294967295 ^^^ (x ^^^ y)) &&& d<2^32:=Qp2 _ ω;rw [top32 (Wz6 e f)];have a:d<4294967296:=ω;rw [Nat.testBit_or,Nat.testBit_and,Nat.testBit_and,Wj7,Wj7,Wj7,OW u,OW z,OW a,OW (n:=4294967295)];by_cases g:2147483648<=x<;>by_cases h:2147483648<=y<;>by_cases i:2147483648<=d<;>simp [g,h,i]<;>omega
def WZ (x y c:Nat)(u:x<4294967296)(z:y<4294967296)(E:c<=1:=by omega):À 259 #[Ô .u32 (x:Int),Ô .u32 (y:Int),Ô .u32 (c:Int)] V λr W=>∃d b:Nat,r=æ #[Ô .u32 (d:Int),Ô .u32 (b:Int)]/\d<4294967296/\b<=1/\d+(y+c)=x+4294967296*b:=by refine vu V _ ⟨ω,λn o=>?_⟩;obtain ⟨d,g⟩:∃d:Nat,(d:Int)=((x:Int)-y-c)%4294967296:=⟨(((x:Int)-y-c)%4294967296).toNat,ω⟩;have a:d<4294967296:=ω;have h:u32.wrap (u32.wrap ((x:Int)-y)-c)=(d:Int):=by{rw [kN,kN];omega};have i:IntKind.u32.max=((4294967295:Nat):Int):=rfl;have j:(4294967295 ^^^ x)<2^32:=Qd9 ω ω;have f:x ^^^ y<2^32:=Qd9 ω ω;have k:(4294967295 ^^^ (x ^^^ y))<2^32:=Qd9 ω f;have l:(4294967295 ^^^ x) &&& y<2^32:=Qp2 _ ω;have m:(4294967295 ^^^ (x ^^^ y)) &&& d<2^32:=Qp2 _ ω;rw [h,i,Wf _ _ ω u,Y7 _ _ j z,Wf _ _ u z,Wf _ _ ω f,Y7 _ _ k a,or32 _ _ l m,jT];have e:(2:Nat)^31=2147483648:=φ;rw [e,S3 x y c u z E g];refine ⟨d,_,rfl,a,?_,?_⟩;{split<;>omega};{split<;>omega}
def WV (hi lo y:Nat)(u:hi<y)(z:lo<4294967296)(E:y<4294967296):À 207 #[Ô .u32 (hi:Int),Ô .u32 (lo:Int),Ô .u32 (y:Int)] V λr W=>r=æ #[Ô .u32 (((hi*4294967296+lo) / y:Nat):Int),Ô .u32 (((hi*4294967296+lo)%y:Nat):Int)]:=by have key:∀b:un,Value.tuple #[Ô .u32 (u32.wrap (u64.wrap ((b_ .or .u64 (u64.wrap ((u64.wrap (hi:Int))*2^32)) (u64.wrap (lo:Int))).tdiv (u64.wrap (y:Int))))),Ô .u32 (u32.wrap ((b_ .or .u64 (u64.wrap ((u64.wrap (hi:Int))*2^32)) (u64.wrap (lo:Int))).tmod (u64.wrap (y:Int))))]=æ #[Ô .u32 (((hi*4294967296+lo) / y:Nat):Int),Ô .u32 (((hi*4294967296+lo)%y:Nat):Int)]:=by{intro _;have c:((2:Int)^32)=4294967296:=φ;have d:u64.wrap (hi:Int)=hi:=bq ω;have e:u64.wrap (lo:Int)=lo:=bq ω;have a:u64.wrap (y:Int)=y:=bq ω;have f:u64.wrap ((hi:Int)*4294967296)=(hi:Int)*4294967296:=bq ω;rw [d,c,f,e,a,KT _ _ ω z];have g:(hi:Int)*4294967296+lo=((hi*4294967296+lo:Nat):Int):=ω;rw [g,<-Int.ofNat_tdiv,<-Wv4];have m:(hi*4294967296+lo) / y<4294967296:=by{rw [Qb8 ω];have:(hi+1)*4294967296<=y*4294967296:=Ă _ u;omega};have n:(hi*4294967296+lo)%y<y:=ė _ ω;generalize (hi*4294967296+lo) / y=q at *;generalize (hi*4294967296+lo)%y=r at *;have i:u64.wrap (q:Int)=q:=bq ω;have j:u32.wrap (q:Int)=q:=wY ω;have k:u32.wrap (r:Int)=r:=wY ω;rw [i,j,k]};have a:u64.wrap (y:Int)=y:=bq ω;refine vt V _ ⟨λ_=>⟨λh=>?_,λ_=>⟨ω,by rw [a];omega,by rw [a];omega,λb l=>key b⟩⟩,λ_=>⟨ω,by rw [a];omega,by rw [a];omega,λb l=>key b⟩⟩;simp at h;omega
def dZ (h:RD V p n c ds)(hm:ds.length<=4611686018427387904:=by omega):À 149 #[pT p n c] V λr W=>∃k,r=pT p k c/\RD W p k c (c_ ds):=by have j:=h.len;have l:=h.cap;refine Md V _ ?_;(refine ⟨λz V'=>0<=z/\z<=n/\c_ (ds.take z.toNat)=c_ ds,λz=>z.toNat,⟨n,by and_intros<;>first|exact True.intro|rfl,ω,ω,?_⟩,?_⟩);{simp [j]};{rintro k o e ⟨f,m,d⟩;obtain ⟨k,rfl⟩:=č f;dsimp only at m d ⊢;simp only [Ü] at d;refine ⟨rfl,λa=>?_,λa=>?_⟩;{have a:0<k:=by{simpa using a};have w:i64.wrap ((k:Int)-1)=((k-1:Nat):Int):=by{rw [au ω];omega};simp only [w];have g:ds.take k=ds.take (k-1)++[ds[k-1]]:=by{rw [<-Qz3 ω,Qm3 a]};refine (h.le e).rd (k-1) rfl ω ⟨λb=>?_,λb=>?_⟩;{have b:ds[k-1]=0:=by{simpa using b};(refine ⟨_,?_,by and_intros<;>first|exact True.intro|rfl,?_,?_,?_⟩);{(try dsimp only);omega};{(try dsimp only);omega};{(try dsimp only);omega};{(try dsimp only);rw [<-d,g,b,ki];rfl}};{have b:ds[k-1]≠0:=by{simpa using b};refine ⟨ū,λV2 i=>⟨k,rfl,?_⟩⟩;rw [<-d,g,vl _ _ b,<-g];exact ((h.le e).le i).take ω}};{have a:k=0:=by{simpa using a};subst a;refine ⟨ū,λV2 i=>⟨0,rfl,?_⟩⟩;rw [<-d];exact ((h.le e).le i).take ω}}
theorem fF (u:Nat)(E:u<18446744073709551616:=by omega):À 148 #[Ô .u64 (u:Int)] V λr W=>∃q k z,r=pT q k z/\RN W q k z u:=by refine Me V _ ⟨ω,λe g f a=>?_⟩;rw [wS,kN,wY ω] at a;have a:e.bh f (.cells (aN [u%4294967296,u / 4294967296]).toArray 219 (0,0)):=by{simpa [aN] using a};have b:cK [u%4294967296,u / 4294967296]:=by{simp [cK];omega};refine (dZ (RD.bh a b (n:=2) (c:=2) rfl (Ù _)) ψ).s ?_;rintro r V2 h ⟨k,rfl,d⟩;refine ⟨_,_,_,rfl,λ_ i j=>⟨_,_,_,rfl,?_⟩⟩;rw [aZ b] at d;have:val [u%4294967296,u / 4294967296]=u:=by{simp;omega};rw [this] at d;exact ra
def sR:À 150 #[] V λr W=>∃q k u,r=pT q k u/\RN W q k u 1:=by refine OE V _ λb e c a=>⟨_,_,_,rfl,?_⟩;have d:ai 1=[1]:=Xe ω;unfold RN;rw [d];have a:b.bh c (.cells (aN [1]).toArray 219 (0,0)):=by{simpa [aN] using a};exact RD.bh a (by simp [cK]) rfl (Ù _)
def R5 (x:Int):Int:=if 0<x then 1 else if x<0 then -1 else 0
def MW (x):À 258 #[Jq x] V λr W=>r=Jq (R5 x):=by refine Mg V _ ⟨λh a b=>?_,λh=>⟨λc a b=>?_,λc a b=>?_⟩⟩;{grind [R5]};{grind [R5]};{grind [R5]}
def kU {q x y}(M:RN V p n c x)(N:RN V q m e y)(hm:(ai x).length<=2^40)(O:(ai y).length<=2^40:=by omega):À 204 #[pT p n c,pT q m e] V λr W=>r=Jq (nX x y):=by have v:=M.len;have A:=N.len;refine Oy V _ ⟨λg D E=>?_,λg=>?_⟩;{have w:i64.wrap ((n:Int)-m)=(n:Int)-m:=au ω;simp only [w];refine (MW _).s λr V2 F rfl=>⟨_,rfl,λG H=>?_⟩;have g:n≠m:=by{simp at g;omega};congr 1;rcases Ď n m with h|h;{have:=oF (a:=x) (b:=y);rw [nX,Ä this,R5,Ã ω,Ä ω]};{have:=oF (a:=y) (b:=x);rw [nX,Ã ω,Ä this,R5,Ä ω]}};{have g:n=m:=by{simp at g;omega};subst g;have w:i64.wrap ((n:Int)-1)=(n:Int)-1:=au ω;simp only;(refine ⟨λz V'=>-1<=z/\z<n/\(ai x).drop (z+1).toNat=(ai y).drop (z+1).toNat,λz=>(z+1).toNat,⟨_,by and_intros<;>first|exact True.intro|rfl,ω,ω,?_⟩,?_⟩);{(try dsimp only);rw [Ŀ ω,Ŀ ω]};{rintro i I j ⟨k,o,s⟩;dsimp only at k o s ⊢;refine ⟨θ,λd=>?_,λd J K=>?_⟩;{have d:0<=i:=by{simpa using d};obtain ⟨i,rfl⟩:=č d;have w:i64.wrap ((i:Int)-1)=(i:Int)-1:=au ω;simp only [w];have f:(ai x).drop (i+1)=(ai y).drop (i+1):=s;refine (M.le j).rd i rfl ω ((N.le j).rd i rfl ω ⟨λt B C=>?_,λt=>?_⟩);{have:=mO (aO y) ω ω f.symm (by simpa using t);rw [ag,ag] at this;rw [nX,Ã ω,Ä this]};{refine (M.le j).rd i rfl ω ((N.le j).rd i rfl ω ⟨λu B C=>?_,λu=>?_⟩);{have:=mO (aO x) ω ω f (by simpa using u);rw [ag,ag] at this;rw [nX,Ä this]};{(refine ⟨_,?_,by and_intros<;>first|exact True.intro|rfl,?_,?_,?_⟩);{(try dsimp only);omega};{(try dsimp only);omega};{(try dsimp only);omega};{(try dsimp only);have:((i:Int)-1+1).toNat=i:=ω;rw [this,Ī ω,Ī (l:=ai y) ω,f];congr 1;simp at t u;omega}}}};{have d:i=-1:=by{simp at d;omega};subst d;have:ai x=ai y:=by{simpa using s};have:=vV this;subst this;simp [nX]}}}
def Ut (a b:Nat):ct (a:Int) (b:Int)=((max a b:Nat):Int):=by unfold ct;split<;>omega
def QG {q}(Z:RD V p n c xs)(hy:RD V q m e ys)(hm:xs.length<=2^40)(hn:ys.length<=2^40):À 203 #[pT p n c,pT q m e] V λr W=>∃p' n' c',r=pT p' n' c'/\RN W p' n' c' (val xs+val ys):=by
 have G:=Z.len;have N:=hy.len;have vc:=OJ p n c q m e V;have w:i64.wrap (((max n m:Nat):Int)+1)=((max n m+1:Nat):Int):=by rw [au ω];omega
 simp only [Ut,w] at vc;obtain ⟨k,H⟩:∃k,k=max n m:=⟨_,rfl⟩;rw [<-H] at vc
 refine vc _ ⟨ω,ω,ω,λz V'=>0<=z.1/\z.1<=1/\0<=z.2.1/\z.2.1<=k/\∃es:zA Nat,z.2.2=aN es/\es.length=k+1/\cK es /\
   val (es.take z.2.1.toNat)+4294967296^z.2.1.toNat*z.1.toNat=val (xs.take z.2.1.toNat)+val (ys.take z.2.1.toNat),λz=>k-z.2.1.toNat,⟨(0,0,aN (List.replicate (k+1) 0)),by and_intros<;>first|exact True.intro|rfl|exact dU _,by (try dsimp only);omega,by (try dsimp only);omega,by (try dsimp only);omega,by (try dsimp only);omega,_,rfl,ψ,cK.rep _,ψ⟩,?_⟩
 rintro ⟨b,i,O⟩ V2 D ⟨f,o,g,s,es,rfl,t,h,l⟩;dsimp only at f o g s l ⊢;obtain ⟨i,rfl⟩:=č g;obtain ⟨b,rfl⟩:=č f;simp only [Ü] at l;refine ⟨θ,λd=>?_,λd=>?_⟩
 ·have d:i<k:=by{simpa using d};refine ⟨λz V'=>∃x:Nat,z=x/\x<4294967296/\val (xs.take (i+1))=val (xs.take i)+4294967296^i*x,⟨λa=>?_,λa=>?_⟩,?_⟩;{have a:i<n:=by{simpa using a};refine (Z.le D).rd i rfl ω ?_;(exact ⟨_,by and_intros<;>first|exact True.intro|rfl,xs[i],rfl,Z.gC.get ω,aC _ _⟩)};{have a:n<=i:=by{simpa using a};(exact ⟨_,by and_intros<;>first|exact True.intro|rfl,0,rfl,ω,by rw [ar,ar];simp⟩)};rintro _ I E ⟨x,rfl,u,v⟩;refine ⟨θ,λz V'=>∃y:Nat,z=y/\y<4294967296/\val (ys.take (i+1))=val (ys.take i)+4294967296^i*y,⟨λa=>?_,λa=>?_⟩,?_⟩;{have a:i<m:=by{simpa using a};refine ((hy.le D).le E).rd i rfl ω ?_;(exact ⟨_,by and_intros<;>first|exact True.intro|rfl,ys[i],rfl,hy.gC.get ω,aC _ _⟩)};{have a:m<=i:=by{simpa using a};(exact ⟨_,by and_intros<;>first|exact True.intro|rfl,0,rfl,ω,by rw [ar,ar];simp⟩)};rintro _ J K ⟨y,rfl,A,B⟩;refine ⟨θ,λL M=>(WU x y b u A).s ?_⟩;rintro r P Q rfl;have w:i64.wrap ((i:Int)+1)=((i+1:Nat):Int):=by{rw [au ω];omega};simp only [w];(refine ⟨_,_,rfl,ū,by simp;omega,(((x+y+b) / 4294967296:Nat),((i+1:Nat):Int),aN (es.set i ((x+y+b)%4294967296))),?_,by and_intros<;>first|exact True.intro|rfl|(rw [<-bS];simp),?_⟩);{(try dsimp only);omega};{(try dsimp only);refine ⟨ω,ω,ω,ω,_,rfl,by simpa using t,h.set _ _ ω,?_⟩;simp only [Ü];rw [aU _ _ _,ĥ,v,B];exact Bz l}
 ·have d:i=k:=by{simp at d;omega};subst d;refine ⟨ū,by simp;omega,λI E R C=>?_⟩;have F:(aN es).set (0+((i:Int).toNat)*1) (Ô .u32 (b:Int))=aN (es.set i b):=by{rw [<-bS];simp};simp only [Ü] at F;(try simp only [Ü] at C);rw [F] at C;have j:=h.set i b ω;refine (dZ (RD.bh C j (n:=i+1) (c:=i+1) (by simp;omega) (Ù _)) (by simp;omega)).s ?_;rintro r J K ⟨k,rfl,a⟩;refine ⟨_,_,_,rfl,λ_ L M=>⟨_,_,_,rfl,?_⟩⟩;rw [aZ j] at a;have S:val (es.set i b)=val xs+val ys:=by{have:=aU es i b;rw [ar (by simp;omega)] at this;rw [this,l,ar,ar]};grind [a.le]
def Oe {E A B x y W d b:Nat}(h:E+B=A+W*c)(u:d+(y+c)=x+4294967296*b):E+W*d+(B+W*y)=A+W*x+W*4294967296*b:=by have:=Æ (W*·) u;simp only [į,<-ń] at this;omega
def uK {q}(Z:RD V p n c xs)(hy:RD V q m e ys)(hm:xs.length<=2^40)(hl:ys.length<=xs.length)(hle:val ys<=val xs):À 205 #[pT p n c,pT q m e] V λr W=>∃p' n' c',r=pT p' n' c'/\RN W p' n' c' (val xs-val ys):=by
 have F:=Z.len;have M:=hy.len
 refine L9 V _ ⟨ω,ω,ω,λz V'=>0<=z.1/\z.1<=1/\0<=z.2.1/\z.2.1<=n/\∃es:zA Nat,z.2.2=aN es/\es.length=n/\cK es /\
   val (es.take z.2.1.toNat)+val (ys.take z.2.1.toNat)=val (xs.take z.2.1.toNat)+4294967296^z.2.1.toNat*z.1.toNat,λz=>n-z.2.1.toNat,
   ⟨(0,0,List.replicate n (Ô .u32 0)),by and_intros<;>first|exact True.intro|rfl,by (try dsimp only);omega,by (try dsimp only);omega,by (try dsimp only);omega,by (try dsimp only);omega,List.replicate n 0,dU n,ψ,cK.rep _,ψ⟩,?_⟩
 rintro ⟨l,i,N⟩ V2 C ⟨o,u,s,v,es,rfl,g,a,t⟩;dsimp only at o u s v t ⊢;obtain ⟨i,rfl⟩:=č s;obtain ⟨l,rfl⟩:=č o;simp only [Ü] at t;refine ⟨θ,λj=>?_,λj=>?_⟩
 ·have j:i<n:=by{simpa using j};refine ⟨λz V'=>∃y:Nat,z=y/\y<4294967296/\val (ys.take (i+1))=val (ys.take i)+4294967296^i*y,⟨λf=>?_,λf=>?_⟩,?_⟩;{have f:i<m:=by{simpa using f};refine (hy.le C).rd i rfl ω ?_;(exact ⟨_,by and_intros<;>first|exact True.intro|rfl,ys[i],rfl,hy.gC.get ω,aC _ _⟩)};{have f:m<=i:=by{simpa using f};(exact ⟨_,by and_intros<;>first|exact True.intro|rfl,0,rfl,ω,by rw [ar,ar];simp⟩)};rintro _ G D ⟨y,rfl,x,A⟩;refine ⟨θ,?_⟩;refine ((Z.le C).le D).rd i rfl ω λH I=>(WZ _ y l (Z.gC.get ω) x).s ?_;rintro r J K ⟨d,b,rfl,O,E,B⟩;have w:i64.wrap ((i:Int)+1)=((i+1:Nat):Int):=by{rw [au ω];omega};simp only [w];(refine ⟨_,_,rfl,ū,by simp;omega,((b:Int),((i+1:Nat):Int),aN (es.set i d)),?_,by and_intros<;>first|exact True.intro|rfl|(rw [<-bS];simp),?_⟩);{(try dsimp only);omega};{(try dsimp only);refine ⟨ω,ω,ω,ω,_,rfl,by simpa using g,a.set _ _ ω,?_⟩;simp only [Ü];rw [aU _ _ _,ĥ,aC xs i,A];exact Oe t B}
 ·have j:i=n:=by{simp at j;omega};subst j;simp only [Ü];intro G D P E;refine (dZ (RD.bh E a (n:=i) (c:=i) g.symm (Ù _))).s ?_;rintro r H I ⟨k,rfl,f⟩;refine ⟨_,_,_,rfl,λ_ J K=>⟨_,_,_,rfl,?_⟩⟩;rw [aZ a] at f;rw [ar,ar,ar] at t;have L:=iV a;rw [g] at L;have Q:l=0:=by{rcases ĵ l with h|h;{exact h};{have:4294967296^i*1<=4294967296^i*l:=Ņ _ h;omega}};grind [f.le]
def K6 (h:RD V p n c ds){K:Int->Prop}(u:0<ds.length)(z:K ((ds[0]:Nat):Int)):(p.isSome=true)/\(0<=(0:Int)/\(0:Int)<(n:Int))/\∃x:Int,(∃a,af p 0=some a/\V.at a (Ô .u32 x))/\K x:=by have:=h.rd (i:=0) (K:=K) 0 rfl u z;simpa using this
def Yj (h:RD V p n c ds){K:Int->Prop}(j)(u:j<ds.length)(z:K ((ds[j]:Nat):Int)):(p.isSome=true)/\(0<=(j:Int)/\(j:Int)<(n:Int))/\∃x:Int,(∃a,af p j=some a/\V.at a (Ô .u32 x))/\K x:=by have:=h.rd (i:=j) (K:=K) j rfl u z;simpa using this
def pR {ds:zA Nat}(h:ds.length=1:=by omega):∃a,ds=[a]:=by
 match ds,h with
 | [a],_=>exact ⟨a,rfl⟩
def Oi {ds:zA Nat}(h:ds.length=2:=by omega):∃a b,ds=[a,b]:=by
 match ds,h with
 | [a,b],_=>exact ⟨a,b,rfl⟩
theorem dy {q:OA}(hx:RD V p n c xs)(hy:RD V q m e ys)(hm:xs.length+ys.length<=2^40:=by omega):À 83 #[pT p n c,pT q m e] V λr W=>∃p' n' c',r=pT p' n' c'/\RN W p' n' c' (val xs*val ys):=by
 have X:=hx.len;have Mr:=hy.len;have y:((n:Int)+m).toNat=n+m:=ω
 have w:i64.wrap ((n:Int)+m)=(n:Int)+m:=au ω;have vc:=DP p n c q m e V;simp only [w,y,dU] at vc;refine (λtail=>vc _ ⟨λT=>⟨λA=>?_,λ_=>tail⟩,λ_=>tail⟩) ?_
 ·have T:n=1:=by{simp at T;omega};have A:m=1:=by{simp at A;omega};clear tail vc;obtain ⟨a,rfl⟩:=pR (ds:=xs);obtain ⟨b,rfl⟩:=pR (ds:=ys);have U:=hx.gC.get (i:=0) ψ;have B:=hy.gC.get (i:=0) ψ;refine K6 hx ψ (K6 hy ψ λV1 l1=>?_);simp only [Qt6] at U B ⊢;have Y:a*b<=4294967295*4294967295:=Qg2 ω ω;have K:u64.wrap (a:Int)=a:=bq ω;have L:u64.wrap (b:Int)=b:=bq ω;have Z:(a:Int)*(b:Int)=((a*b:Nat):Int):=ψ;have e4:u64.wrap ((a*b:Nat):Int)=((a*b:Nat):Int):=bq ω;rw [K,L,Z,e4];refine (fF (a*b)).s ?_;rintro r V2 l2 ⟨p',n',c',rfl,h⟩;refine ⟨_,_,_,rfl,λV3 l3=>⟨_,_,_,rfl,?_⟩⟩;simp only [bP,gi,ī,Ę];exact ra
 refine ⟨ω,ω,ω,λz V'=>0<=z.1/\z.1<=n/\∃es:zA Nat,z.2=aN es/\es.length=n+m/\cK es /\
  val (es.take (z.1.toNat+m))=val (xs.take z.1.toNat)*val ys,λz=>n-z.1.toNat,⟨(0,aN (List.replicate (n+m) 0)),by and_intros<;>first|exact True.intro|rfl,by (try dsimp only);omega,by (try dsimp only);omega,_,rfl,ψ,cK.rep _,by simp [Bs,Qr7]⟩,?_⟩
 rintro ⟨i,vs⟩ V5 l5 ⟨C,M,es,rfl,N,o,D⟩;dsimp only at C M D ⊢;obtain ⟨i,rfl⟩:=č C;simp only [Ü] at D;refine ⟨θ,λv=>?_,λv=>?_⟩
 ·have v:i<n:=by simpa using v
  refine (hx.le l5).rd i rfl ω ?_;have U:=hx.gC.get (i:=i) ω
  refine ⟨λz V'=>0<=z.1/\z.1<=4294967295/\0<=z.2.1/\z.2.1<=m/\∃d:zA Nat,z.2.2=aN d/\d.length=n+m/\cK d/\d.drop (i+z.2.1.toNat)=es.drop (i+z.2.1.toNat) /\
   val (d.take (i+z.2.1.toNat))+4294967296^(i+z.2.1.toNat)*z.1.toNat=val (es.take (i+z.2.1.toNat))+4294967296^i*xs[i]*val (ys.take z.2.1.toNat),λz=>m-z.2.1.toNat,
   ⟨(0,0,aN es),by and_intros<;>first|exact True.intro|rfl,by (try dsimp only);omega,by (try dsimp only);omega,by (try dsimp only);omega,by (try dsimp only);omega,es,rfl,N,o,rfl,ψ⟩,?_⟩
  rintro ⟨J,k,vs⟩ V6 l6 ⟨E,O,F,P,d,rfl,G,s,g,hw⟩;dsimp only at E O F P g hw ⊢;obtain ⟨k,rfl⟩:=č F;obtain ⟨J,rfl⟩:=č E;simp only [Ü] at g hw;refine ⟨θ,λj=>?_,λj=>?_⟩
  ·have j:k<m:=by{simpa using j};refine (hy.le ax).rd k rfl ω ?_;have B:=hy.gC.get (i:=k) ω;have W:=s.get (i:=i+k) ω;have Q:d[i+k]'ω=es[i+k]'ω:=by{have A:d[i+k]?=es[i+k]?:=by{have:=Æ (λl=>l[0]?) g;simpa [Qn5] using this};rw [ï ω,ï ω] at A;exact ŏ A};simp (disch:=omega) only [au];have u:((i:Int)+k).toNat=i+k:=ω;rw [u];refine ⟨ū,((d[i+k]'ω:Nat):Int),by rw [Ĉ,ĝ];exact iT ω,ū,by simp;omega,ω,?_⟩;have a0:xs[i]*ys[k]<=4294967295*4294967295:=Qg2 ω ω;have H:(xs[i]:Int)*(ys[k]:Int)=((xs[i]*ys[k]:Nat):Int):=ψ;obtain ⟨t,ht⟩:∃t:Nat,t=J+xs[i]*ys[k]+d[i+k]'ω:=⟨_,rfl⟩;rw [đ] at hw;have f:=KL hw ht;have K:u64.wrap (u64.wrap (u64.wrap (u64.wrap (xs[i]:Int)*u64.wrap (ys[k]:Int))+u64.wrap ((d[i+k]'ω:Nat):Int))+(J:Int))=(t:Int):=by{clear f;generalize xs[i]*ys[k]=pq at *;rw [bq (x:=(xs[i]:Int)) ω,bq (x:=(ys[k]:Int)) ω,H,bq (x:=((pq:Nat):Int)) ω];simp (disch:=omega) only [bq];omega};rw [K,kN,wS];(refine ⟨(_,_,_),?_,by and_intros<;>first|exact True.intro|rfl,?_⟩);{(try dsimp only);omega};{(try dsimp only);have I:((k:Int)+1).toNat=k+1:=ω;refine ⟨ω,ω,ω,ω,d.set (i+k) (t%4294967296),?_,by simpa using G,s.set _ _ ω,?_,?_⟩;{rw [<-bS];simp};{rw [I,Qn0 ω];have:=Æ (List.drop 1) g;simpa [Qh9,Wy2,ň,Nat.add_left_comm] using this};{rw [I,show i+(k+1)=i+k+1 from by omega,aU _ _ _,aC es (i+k),aC ys k,<-Q,ĥ];have L:((t:Int) / 4294967296).toNat=t / 4294967296:=ω;rw [L,đ,f]}}
  ·have j:k=m:=by{simp at j;omega};subst j;simp (disch:=omega) only [au];have u:((i:Int)+k).toNat=i+k:=ω;rw [u];(refine ⟨ū,by simp;omega,(_,_),?_,by and_intros<;>first|exact True.intro|rfl,?_⟩);{(try dsimp only);omega};{(try dsimp only);have R:((i:Int)+1).toNat=i+1:=ω;refine ⟨ω,ω,d.set (i+k) J,?_,by simpa using G,s.set _ _ ω,?_⟩;{rw [<-bS,wY ω];simp};{rw [R,show i+1+k=i+k+1 from by omega,aU _ _ _,hw,D,aC xs i,ar (ds:=ys)];grind}}
 ·have v:i=n:=by{simp at v;omega};subst v;intro V6 l6 bk S;refine (dZ (RD.bh S o (n:=i+m) (c:=i+m) ω (Ù _))).s ?_;rintro r V7 l7 ⟨k,rfl,j⟩;refine ⟨_,_,_,rfl,λ_ V8 l8=>⟨_,_,_,rfl,?_⟩⟩;rw [aZ o] at j;rw [ar,ar] at D;rw [D] at j;exact ra
def pz (h:RD V p n c ds)(hm:ds.length<=2^40:=by omega):À 206 #[pT p n c] V λr W=>r=æ #[Ô .u64 ((if n<=2 then val ds else 0:Nat):Int),Õ (decide (n<=2))]:=by have u:=h.len;refine Mh V _ ⟨λe k l=>?_,λe=>⟨λf=>?_,λf=>⟨λd=>?_,λd k l=>?_⟩⟩⟩;{have e:n=0:=by{simp at e;omega};subst e;have:ds=[]:=Ĝ.1 ω;subst this;rfl};{have f:n=1:=by{simp at f;omega};subst f;obtain ⟨a,rfl⟩:=pR (ds:=ds);have o:=h.gC.get (i:=0) ψ;refine K6 h ψ λk l=>?_;simp only [Qt6] at o ⊢;have m:u64.wrap (a:Int)=a:=bq ω;rw [m,Ä ω,Ç ω];simp};{have d:n=2:=by{simp at d;omega};subst d;obtain ⟨a,b,rfl⟩:=Oi (ds:=ds);have g:=h.gC.get (i:=0) ψ;have j:=h.gC.get (i:=1) ψ;refine Yj h 1 ψ ⟨ω,K6 h ψ λk l=>?_⟩;simp only [Qt6,List.getElem_cons_succ] at g j ⊢;have m:u64.wrap (a:Int)=a:=bq ω;have q:u64.wrap (b:Int)=b:=bq ω;have s:((2:Int)^32)=4294967296:=φ;have t:u64.wrap ((b:Int)*4294967296)=(b:Int)*4294967296:=bq ω;rw [m,q,s,t,KT _ _ j g,Ä ω,Ç ω];simp only [bP,gi];congr 4;omega};{have d:¬n<=2:=by{simp at e f d;omega};rw [Ã d,È d];rfl}
def RJ (b:Nat):0 ||| b=b:=Nat.zero_or b
def pk (hx:RD V p n c ds)(hm:ds.length<=2^40)(k:Nat)(hk:k<=35184372088832:=by omega):À 260 #[pT p n c,Jq (k:Int)] V λr W=>∃p' n' c',r=pT p' n' c'/\RN W p' n' c' (val ds*2^k):=by
 have hl:=hx.len;have C:(k:Int).tdiv 32=((k / 32:Nat):Int):=by rw [Qj6 ω];omega
 have D:(k:Int).tmod 32=((k%32:Nat):Int):=by rw [Qk9 ω];omega
 have vc:=L7 p n c k V
 have h:val ds*2^k=4294967296^(k / 32)*val ds*2^(k%32):=by have:2^k=4294967296^(k / 32)*2^(k%32):=by{rw [show (4294967296:Nat)=2^32 from rfl,<-Wx1,<-đ,Qd5]};rw [this];grind
 rw [h];have E:k / 32<=2^40:=ω
 have s:k%32<32:=ė _ ω;rw [C,D] at vc;generalize k / 32=w at *;generalize k%32=r at *;clear C D h;have F:i64.wrap (w:Int)=(w:Int):=au ω;have G:i64.wrap ((w:Int)+n)=((w+n:Nat):Int):=by rw [au ω];omega
 have H:i64.wrap (((w+n:Nat):Int)+1)=((w+n+1:Nat):Int):=by rw [au ω];omega
 have I:u64.wrap (r:Int)=(r:Int):=bq ω
 have l:(min r IntKind.u64.bits)=r:=by show min _ 64=r;omega
 have J:((2:Int)^r)=((2^r:Nat):Int):=ψ
 simp only [F,G,H,I,Ü,l,J,dU] at vc
 refine vc _ ⟨ω,ω,ω,ω,ω,λz V'=>0<=z.1/\z.1<=n/\∃es:zA Nat,z.2=aN es/\es.length=w+n+1/\cK es/\(∀c,es[z.1.toNat+w]?=some c->c<2^r)/\(∀j c,z.1.toNat+w<j->es[j]?=some c->c=0) /\
   val (es.take (z.1.toNat+w+1))=4294967296^w*val (ds.take z.1.toNat)*2^r,λz=>n-z.1.toNat,
   ⟨(0,aN (List.replicate (w+n+1) 0)),by and_intros<;>first|exact True.intro|rfl,ω,ω,_,rfl,ψ,cK.rep _,?_,?_,?_⟩,?_⟩
 ·intro c a;rw [Qs7] at a;split at a;{cases a;exact ĳ r};{cases a}
 ·intro j c _ a;rw [Qs7] at a;split at a;{cases a;rfl};{cases a}
 ·simp [Qr7,Bs]
 rintro ⟨i,vs⟩ V4 l4 ⟨m,t,es,rfl,u,d,a,q,f⟩;dsimp only at m t a q f ⊢;obtain ⟨i,rfl⟩:=č m;simp only [Ü] at a q f;refine ⟨θ,λg=>?_,λg=>?_⟩
 ·have g:i<n:=by{simpa using g};have K:i64.wrap ((w:Int)+i)=((i+w:Nat):Int):=by{rw [au ω];omega};have L:i64.wrap (((i+w:Nat):Int)+1)=((i+w+1:Nat):Int):=by{rw [au ω];omega};have M:i64.wrap ((i:Int)+1)=((i+1:Nat):Int):=by{rw [au ω];omega};simp only [K,L,M,Ü,ĝ,Ĉ];refine Yj ra i ω ?_;have N:=hx.gC.get (i:=i) ω;have v:=a (es[i+w]'ω) (ï _);have x:=q (i+w+1) (es[i+w+1]'ω) ω (ï _);have ⟨O,g2,P,g4⟩:=Lj N s v;have hmul:((ds[i]:Nat):Int)*((2^r:Nat):Int)=((ds[i]*2^r:Nat):Int):=ψ;have Q:u64.wrap ((ds[i]:Nat):Int)=((ds[i]:Nat):Int):=bq ω;have R:u64.wrap ((ds[i]*2^r:Nat):Int)=((ds[i]*2^r:Nat):Int):=bq ω;have S:u32.wrap ((ds[i]*2^r:Nat):Int)=((ds[i]*2^r%4294967296:Nat):Int):=by{rw [kN];omega};have T:u32.wrap (((ds[i]*2^r:Nat):Int).fdiv (2^32))=((ds[i]*2^r / 4294967296:Nat):Int):=by{rw [wS,kN];omega};simp only [Q,hmul,R,S,T];have y:ds[i]*2^r / 4294967296<4294967296:=ω;have U:=Qg7 (ds[i]*2^r) 4294967296;have A:val (List.take (i+1) ds)=val (List.take i ds)+4294967296^i*ds[i]:=aC _ _;have o:val (es.take (i+w+1))=val (es.take (i+w))+4294967296^(i+w)*es[i+w]'ω:=aC _ _;have B:ds[i]*2^r%4294967296<4294967296:=ė _ ω;generalize ds[i]*2^r%4294967296=lo at *;generalize ds[i]*2^r / 4294967296=hi at *;refine ⟨ω,ω,ū,((es[i+w]'ω:Nat):Int),iT ω,ū,by simp;omega,ω,ū,((es[i+w+1]'ω:Nat):Int),?_,ω,ū,by simp;omega,?_⟩;{rw [Qb3 ω];exact iT ω};have e:es[i+w]'ω<4294967296:=d.get ω;rw [NJ _ _ e B,O,x,NJ _ _ ω y,RJ];refine ⟨(((i+1:Nat):Int),aN ((es.set (i+w) (es[i+w]'ω+lo)).set (i+w+1) hi)),?_,?_,?_⟩;{(try dsimp only);omega};{(try dsimp only);(and_intros<;>first|exact True.intro|rfl|rw [<-bS,<-bS])};{(try dsimp only);refine ⟨ω,ω,_,rfl,by simpa using u,(d.set _ _ ω).set _ _ ω,?_,?_,?_⟩;{intro c b;simp only [Ü] at b;rw [show i+1+w=i+w+1 from by omega,Qt4 (by simp;omega)] at b;cases b;exact P};{intro j c W b;simp only [Ü] at W;rw [Qb3 ω,Qb3 ω] at b;exact q j c ω b};{simp only [Ü];rw [show i+1+w+1=i+w+1+1 from by omega,aU _ _ _ (by simp;omega),aU _ _ _,A];rw [o] at f;have X:4294967296^(i+w+1)*hi=4294967296^(i+w)*(4294967296*hi):=by{rw [ĥ];grind};rw [X,į,<-ň,f,ň,<-į,U,đ];grind}}
 ·have g:i=n:=by{simp at g;omega};subst g;intro V5 l5 bk Y;refine (dZ (RD.bh Y d (n:=w+i+1) (c:=w+i+1) ω (Ù _))).s ?_;rintro r' V6 l6 ⟨k',rfl,Z⟩;refine ⟨_,_,_,rfl,λ_ V7 l7=>⟨_,_,_,rfl,?_⟩⟩;rw [ar,ar] at f;rw [aZ d,f] at Z;exact ra
def ku (a:Addr)(m n):(a.add m).add n=a.add (m+n):=by unfold Addr.add;by_cases b:m=0;{subst b;simp};{by_cases c:n=0;{subst c;simp [b]};{rw [Ã b,Ã c,Ã ω];simp only [ň]}}
def RDdrop (h:RD V p n c ds)(u:k<n):RD V (iE p c k 1) (n-k) (c-k) (ds.drop k):=by have g:=h.len;have j:=h.cap;have e:iE p c k 1=af p k:=by{unfold iE;rw [Ã ω,ĝ]};rw [e];refine ⟨by simp;omega,ω,λi v b=>?_,h.gC.drop k,λl=>?_⟩;{rw [Sc,Qn5] at b;have ⟨d,f,a⟩:=h.sl _ _ b;refine ⟨d.add k,by rw [f];rfl,?_⟩;rw [ku];exact a};{have:p.isNone=true:=by{cases p<;>simp_all [af]};have:=h.KM this;omega}
def JV (hd:RD V p n c ds)(hm:ds.length<=2^40)(k:Nat)(hk:k<=35184372088832:=by omega):À 261 #[pT p n c,Jq (k:Int)] V λr W=>∃p' n' c',r=pT p' n' c'/\RN W p' n' c' (val ds / 2^k):=by
 have S:=hd.len;have F:(k:Int).tdiv 32=((k / 32:Nat):Int):=by rw [Qj6 ω];omega
 have u:(k:Int).tmod 32=((k%32:Nat):Int):=by rw [Qk9 ω];omega
 have vc:=I1 p n c k V
 have m:val ds / 2^k=val ds / 4294967296^(k / 32) / 2^(k%32):=by rw [Nat.div_div_eq_div_mul,show (4294967296:Nat)=2^32 from rfl,<-Wx1,<-đ,Qd5]
 rw [m];have I:k / 32<=2^40:=ω
 have y:k%32<32:=ė _ ω;rw [F,u] at vc;generalize k / 32=w at *;generalize k%32=r at *;clear F u m;have J:i64.wrap (w:Int)=(w:Int):=au ω;have K:u64.wrap (r:Int)=(r:Int):=bq ω
 have o:(min r IntKind.u64.bits)=r:=by show min _ 64=r;omega
 simp only [J,K,Ü,o,dU] at vc;refine vc _ ⟨ω,λh T U=>?_,λh=>?_⟩
 ·have h:n<=w:=by{simp at h;omega};have a:=iV hd.gC;have:4294967296^ds.length<=4294967296^w:=ķ ω ω;rw [ŕ (ľ a this),Wj5];exact ⟨_,_,_,rfl,RD.nil⟩
 ·have h:w<n:=by simp at h;omega
  clear vc
  have q:val ds / 4294967296^w=val (ds.drop w):=by have e:val ds=val (ds.take w++ds.drop w):=by{rw [Qj8]};have a:=iV (hd.gC.take w);rw [eM] at e;rw [ê,ğ ω] at e a;rw [e,Qg5 _ _ (Wx2 ω),ŕ a,Ĉ]
  rw [q];have v:=RDdrop hd h;have L:=v.len;clear q;generalize iE p c w 1=sp at *;generalize ds.drop w=xs at *;generalize hN:n-w=N at *
  refine ⟨ω,ω,ū,ω,ω,ω,λz V'=>0<=z.1/\z.1<=N/\∃es:zA Nat,z.2=aN es/\es.length=N/\cK es /\
   val (es.take z.1.toNat)+4294967296^z.1.toNat*(val (xs.drop z.1.toNat) / 2^r)=val xs / 2^r,λz=>N-z.1.toNat,
   ⟨(0,aN (List.replicate N 0)),by and_intros<;>first|exact True.intro|rfl,ω,ω,_,rfl,ψ,cK.rep _,ψ⟩,?_⟩
  rintro ⟨i,W⟩ X Z ⟨s,A,es,rfl,B,d,b⟩;dsimp only at s A b ⊢;obtain ⟨i,rfl⟩:=č s;simp only [Ü] at b;refine ⟨θ,λj=>?_,λj=>?_⟩
  ·have j:i<N:=by{simpa using j};have M:i64.wrap ((i:Int)+1)=((i+1:Nat):Int):=by{rw [au ω];omega};simp only [M,Ü,ĝ,Ĉ];refine Yj ra i ω ?_;have G:=v.gC.get (i:=i) ω;refine ⟨λz V'=>z=((xs[i]+4294967296*(xs[i+1]?).getD 0:Nat):Int),⟨λf=>?_,λf=>?_⟩,?_⟩;{have f:i+1<N:=by{simp at f;omega};have C:=v.gC.get (i:=i+1) ω;have E:b_ .or .u64 (u64.wrap ((xs[i]:Nat):Int)) (u64.wrap (u64.wrap ((xs[i+1]:Nat):Int)*2^32))=((xs[i]+4294967296*(xs[i+1]?).getD 0:Nat):Int):=by{have u:((2:Int)^32)=4294967296:=φ;rw [u,bq ω,bq (x:=((xs[i+1]:Nat):Int)) ω,bq ω,U1 _ _ C G,ï ω,Qh7];omega};refine Yj ra (i+1) ω ⟨ω,((xs[i]+4294967296*(xs[i+1]?).getD 0:Nat):Int),?_,rfl⟩;(try dsimp only);(and_intros<;>first|exact True.intro|exact E|rfl)};{have f:N<=i+1:=by{simp at f;omega};have E:u64.wrap ((xs[i]:Nat):Int)=((xs[i]+4294967296*(xs[i+1]?).getD 0:Nat):Int):=by{rw [bq ω,ţ ω];simp};refine ⟨((xs[i]+4294967296*(xs[i+1]?).getD 0:Nat):Int),?_,rfl⟩;(try dsimp only);(and_intros<;>first|exact True.intro|exact E|rfl)};rintro _ O P rfl;have t:=Lk (Y:=val (xs.drop (i+1))) G y;rw [wZ v.gC] at t;have g:val (xs.drop i)=xs[i]+4294967296*val (xs.drop (i+1)):=by{rw [Ī ω,bP]};rw [g,t] at b;rw [jT,kN];obtain ⟨D,H⟩:∃D,D=(xs[i]+4294967296*(xs[i+1]?).getD 0) / 2^r%4294967296:=⟨_,rfl⟩;have Q:(((xs[i]+4294967296*(xs[i+1]?).getD 0) / 2^r:Nat):Int)%4294967296=(D:Int):=by{rw [H];omega};rw [Q];rw [<-H] at b;refine ⟨θ,ω,ū,by simp;omega,(((i+1:Nat):Int),aN (es.set i D)),?_,?_,?_⟩;{(try dsimp only);omega};{(try dsimp only);(and_intros<;>first|exact True.intro|rfl|rw [<-bS])};{(try dsimp only);refine ⟨ω,ω,_,rfl,by simpa using B,d.set _ _ ω,?_⟩;simp only [Ü];rw [aU _ _ _,<-b,ĥ,į,ň,ń]}
  ·have j:i=N:=by{simp at j;omega};subst j;intro O P bk R;refine (dZ (RD.bh R d (n:=i) (c:=i) ω (Ù _))).s ?_;rintro r' V6 l6 ⟨k',rfl,f⟩;refine ⟨_,_,_,rfl,λ_ V7 l7=>⟨_,_,_,rfl,?_⟩⟩;rw [ar,Ŀ (l:=xs) (i:=i) ω] at b;have b:val es=val xs / 2^r:=by{rw [<-b,gi,Wj5,ī,Ę]};rw [aZ d,b] at f;exact ra
end Go.Proofs.Tryz
namespace Go.Big
variable{R V W n:Nat}
theorem zP {ds}(u:cK ds)(w)(hw:w<=ds.length):val ds / 4294967296^w=val (ds.drop w):=by have e:val ds=val (ds.take w++ds.drop w):=by{rw [Qj8]};grind [iV,u.take,eM,Nat.add_mul_div_left,Nat.div_eq_of_lt]
def lead2 (h:(ai R).length=n+2):R / 4294967296^n=(ai R)[n+1]'ω*4294967296+(ai R)[n]'ω:=by grind [zP,aO,ag,List.drop_eq_getElem_cons,bP,gi]
def ZH (h:(ai R).length=n+1):R / 4294967296^n=(ai R)[n]'ω:=by grind [zP,aO,ag,List.drop_eq_getElem_cons,bP,gi]
def lead0 (h:(ai R).length<=n):R / 4294967296^n=0:=ŕ (aQ.1 h)
def Oh (h:(ai V).length=n+1):(ai V)[n]'ω*4294967296^n<=V:=by have:=ZH h;rw [<-this];exact Nat.div_mul_le_self _ _
def T1 {R V top P W:Nat}(u:top*P<=V)(z:0<top)(E:0<P)(F:0<W):R / (V*W)<=R / (P*W) / top:=by rw [Wq2 z,Wq2 (Wk2 E F)];have a:R / (V*W)*(V*W)<=R:=Nat.div_mul_le_self _ _;have b:R / (V*W)*(top*P*W)<=R / (V*W)*(V*W):=Ņ _ (Ă _ u);grind
def Rs {A D q u:Nat}(h:A=V*(W*4294967296*D)+R)(z:R=V*q*W+u):A=V*(W*(q+4294967296*D))+u:=by subst z;rw [h];grind
def Up {x y s Q:Nat}(h:x*2^s=y*2^s*Q+R)(u:R<y*2^s):Q=x / y/\R / 2^s=x%y:=by have f:=ĳ s;have g:0<y:=by{rcases ĵ y with e|e;{subst e;simp at u};{exact e}};have i:y*2^s*Q=(y*Q)*2^s:=χ;have b:y*Q<=x:=by{rcases Ď x (y*Q) with a|a;{have:(x+1)*2^s<=y*Q*2^s:=Ă _ a;rw [Ē] at this;omega};{exact a}};obtain ⟨d,rfl⟩:=Nat.exists_eq_add_of_le b;rw [Ē] at h;have c:R=d*2^s:=ω;subst c;have j:=Nat.lt_of_mul_lt_mul_right u;grind [Nat.mul_div_cancel,Nat.mul_add_div,Nat.div_eq_of_lt,Nat.mul_add_mod,Nat.mod_eq_of_lt]
def ZO (j:Nat):2^(32*j)=4294967296^j:=by rw [Wx1]
def Nc {g:Nat}(hVW:0<V*W)(h:V*g*W<=R)(u:R / (V*W)<=g):g=R / (V*W):=by have:g<=R / (V*W):=by{rw [Wq2 hVW];grind};omega
def T2 {g:Nat}(hVW:0<V*W)(h:R<V*g*W):R / (V*W)<g:=by rw [Qb8 hVW];have:g*(V*W)=V*g*W:=χ;omega
def NZ {R V W:Nat}:R=V*(R / (V*W))*W+R%(V*W):=by grind [Nat.div_add_mod]
def kI {a b}:(ai (a*b)).length<=(ai a).length+(ai b).length:=by rw [aQ,đ];have c:a<4294967296^(ai a).length:=aQ.1 (Ù _);have d:b<4294967296^(ai b).length:=aQ.1 (Ù _);exact Wq7 c d
def HH (j:Nat):(ai (4294967296^j)).length<=j+1:=by rw [aQ];exact Nat.pow_lt_pow_right ω ω
end Go.Big
namespace Go.Proofs.Tryz
open Go.Eng Go.Big
variable{V:Ó}{p q:OA}{R c e m n x y:Nat}
def rdG {ds}(h:RD V p n c ds){i:Int}{K:Int->Prop}(j d:Nat)(z:i=j)(u:ds[j]?=some d)(E:K (d:Int)):(p.isSome=true)/\(0<=i/\i<(n:Int))/\∃x:Int,(∃a,af p (i.toNat*1)=some a/\V.at a (Ô .u32 x))/\K x:=by have b:j<ds.length:=by{rcases Ď j ds.length with h|h;{exact h};{rw [ţ h] at u;cases u}};refine h.rd j z b ?_;rw [ï b] at u;cases u;exact E
def Sa {W n:Nat}(h:(ai W).length=n+1:=by omega):∃top,(ai W)[n]?=some top/\top≠0/\top<4294967296/\top*4294967296^n<=W:=by refine ⟨(ai W)[n]'ω,ï _,?_,(aO W).get _,Oh h⟩;have:=(lO W).last ω;simpa [h] using this
structure Js (A V L:Nat) (R:Nat) (j:Nat) (es:List Nat):Prop where
 len:es.length=L
 gC:cK es
 lt:R<V*4294967296^j
 eq:A=V*(4294967296^j*val (es.drop j))+R
def Js.step {A V L j es}(h:Js A V L R (j+1) es)(z:j<L)(u:0<V):R / (V*4294967296^j)<4294967296/\Js A V L (R-V*(R / (V*4294967296^j))*4294967296^j) j (es.set j (R / (V*4294967296^j))):=by have c:0<4294967296^j:=Wx2 ω;have a:=Wk2 u c;have b:R / (V*4294967296^j)<4294967296:=by{rw [Qb8 a];have:=h.lt;rw [ĥ] at this;have e:4294967296*(V*4294967296^j)=V*(4294967296^j*4294967296):=by{generalize 4294967296^j=w;grind};omega};have d:=NZ (R:=R) (V:=V) (W:=4294967296^j);have he:R-V*(R / (V*4294967296^j))*4294967296^j=R%(V*4294967296^j):=ω;refine ⟨b,⟨by simpa using h.len,h.gC.set _ _ b,by rw [he];exact (ė R a),?_⟩⟩;have f:=h.len;rw [Ī (by simp;omega),Qg0,Qn0 ω,bP,he];exact Rs (by have:=h.eq;rwa [ĥ] at this) d
def Vp {V j:Nat}(h:R<V*4294967296^(j+1)):(ai R).length<=(ai V).length+j+1:=by have a:V*4294967296^(j+1)<=4294967296^(ai V).length*4294967296^(j+1):=Ă _ (Qs3 (aQ.1 (Ù _)));rw [<-đ] at a;have:=aQ.2 (ľ h a);omega
def XR (h:(ai R).length<=n+2):R / 4294967296^n<18446744073709551616:=by rw [Qb8 (Wx2 ω)];have:=aQ.1 h;rw [ĥ,ĥ] at this;have e:4294967296^n*4294967296*4294967296=18446744073709551616*4294967296^n:=by{generalize 4294967296^n=w;omega};omega
theorem MV (hx:RN V p n c x)(hy:RN V q m e y)(hm:(ai x).length<=2^38)(hy0:0<y)(hle:(ai y).length<=(ai x).length):À 208 #[pT p n c,pT q m e] V λr W=>∃p1 n1 c1 p2 n2 c2,r=æ #[pT p1 n1 c1,pT p2 n2 c2]/\RN W p1 n1 c1 (x / y)/\RN W p2 n2 c2 (x%y):=by
 have a6:=hx.len;have Mr:=hy.len
 have d1:0<m:=by rcases ĵ m with h|h;{have:=bR.1 (Ĝ.1 (Mr▸h));omega};{exact h}
 have vc:=Mf p n c q m e V;have w1:i64.wrap ((m:Int)-1)=((m-1:Nat):Int):=by rw [au ω];omega
 have w2:i64.wrap ((n:Int)-m)=((n-m:Nat):Int):=by rw [au ω];omega
 have w3:i64.wrap (((n-m:Nat):Int)+1)=((n-m+1:Nat):Int):=by rw [au ω];omega
 have w4:i64.wrap (((n-m+1:Nat):Int)-1)=((n-m:Nat):Int):=by rw [au ω];omega
 simp only [w1,w2,w3,Ü,w4,dU] at vc;obtain ⟨L,hL⟩:∃L,L=n-m+1:=⟨_,rfl⟩;rw [<-hL] at vc;refine vc _ ?_;clear vc;refine hy.rd (m-1) rfl ω λV1 l1=>(jf _ ((aO y).get ω)).s ?_;rintro r V2 l2 rfl;have a7:dL ((ai y)[m-1]'ω)<=32:=mC.2 (by have:=(aO y).get (i:=m-1) ω;omega);obtain ⟨s,hs⟩:∃s:Nat,(32:Int)-(dL ((ai y)[m-1]'ω):Int)=s:=⟨32-dL ((ai y)[m-1]'ω),ω⟩;have Xz:s<=32:=ω
 rw [hs];clear hs a7;refine ⟨_,rfl,λV3 l3=>(pk ra ω s).s ?_⟩;rintro r V4 l4 ⟨vp,d,vc,rfl,K⟩;rw [ag] at K;refine ⟨_,_,_,rfl,λV5 l5=>(pk ra ω s).s ?_⟩;rintro r V6 l6 ⟨rp,M,rc,rfl,hr⟩;rw [ag] at hr
 replace K:=K.le (l5.m l6)
 have a8:=K.len;have O:=ĳ s;have d2:=ķ (n:=2) ω Xz;have P:=Wk2 hy0 O;have d3:(ai (2^s)).length<=2:=aQ.2 ω;have d4:d<=m+2:=by have:=kI (a:=y) (b:=2^s);omega
 have d5:0<d:=by rcases ĵ d with h|h;{have:=bR.1 (Ĝ.1 (a8▸h));omega};{exact h}
 have G:Js (x*2^s) (y*2^s) L (x*2^s) L (List.replicate L 0):=by refine ⟨ψ,cK.rep _,?_,ψ⟩;have h1:x<4294967296^n:=by{rw [a6];exact aQ.1 (Ù _)};have h2:4294967296^(m-1)<=y:=by{rw [<-zo];omega};have v:4294967296^(m-1)*4294967296^L<=y*4294967296^L:=Ă _ h2;rw [<-đ,show m-1+L=n from by omega] at v;have C:x*2^s<y*4294967296^L*2^s:=Qc6 ω O;have D:y*4294967296^L*2^s=y*2^s*4294967296^L:=by{generalize 4294967296^L=w;grind};omega
 have E:∀{Q R:Nat},x*2^s=y*2^s*Q+R->R<y*2^s->Q=x / y/\R / 2^s=x%y:=λh1 h2=>Up h1 h2;generalize x*2^s=A at *;generalize y*2^s=W at *;have w5:i64.wrap ((d:Int)-1)=((d-1:Nat):Int):=by rw [au ω];omega
 simp only [w5,Ü];refine ⟨_,_,_,rfl,?_⟩;have ⟨top,a9,b0,b5,H⟩:=Sa (W:=W) (n:=d-1);refine rdG K (d-1) top rfl a9 ?_;have w6:u64.wrap (top:Int)=top:=bq ω;simp only [w6]
 refine ⟨ω,ω,ω,λz V'=>∃R:Nat,RN V' z.1 z.2.1 z.2.2.1 R/\-1<=z.2.2.2.1/\z.2.2.2.1<L/\∃es:zA Nat,z.2.2.2.2=aN es/\Js A W L R (z.2.2.2.1+1).toNat es,λz=>(z.2.2.2.1+1).toNat,
  ⟨(rp,M,rc,((n-m:Nat):Int),aN (List.replicate L 0)),by and_intros<;>first|exact True.intro|rfl,A,hr,by (try dsimp only);omega,by (try dsimp only);omega,_,rfl,?_⟩,?_⟩
 ·(try dsimp only);rw [show (((n-m:Nat):Int)+1).toNat=L from by omega];exact G
 rintro ⟨rp,M,rc,j,vs⟩ V7 l7 ⟨R,N,b6,b7,es,rfl,o⟩;dsimp only at N b6 b7 o ⊢;have d6:=N.len;refine ⟨θ,λv=>?_,λv=>?_⟩
 ·have v:0<=j:=by simpa using v
  obtain ⟨j,rfl⟩:=č v;have o:=o;have b8:j<L:=ω
  have S:=Vp o.lt;have ⟨hq,T⟩:=o.step b8 P;have w7:i64.wrap ((d:Int)+j)=((d-1+j+1:Nat):Int):=by rw [au ω];omega
  have w8:i64.wrap (((d-1+j+1:Nat):Int)-1)=((d-1+j:Nat):Int):=by rw [au ω];omega
  have w9:i64.wrap ((32:Int)*j)=((32*j:Nat):Int):=by rw [au ω];omega
  have b9:i64.wrap ((j:Int)-1)=(j:Int)-1:=au ω;simp only [w7,w8,w9,b9,Ü];have S:(ai R).length<=d-1+j+2:=ω
  have c0:=XR S;have hP:0<4294967296^(d-1):=Wx2 ω;have hW:0<4294967296^j:=Wx2 ω;have hg:=T1 (R:=R) H ω hP hW;rw [<-đ] at hg;have l2:=@lead2 R (d-1+j);have l1:=@ZH R (d-1+j);have l0:=@lead0 R (d-1+j);have l:∀i (hi:i<(ai R).length),(ai R)[i]<4294967296:=λi hi=>(aO R).get hi;generalize R / 4294967296^(d-1+j)=lead at *;refine ⟨λz V'=>z=(lead:Int),⟨λC=>?_,λC=>?_⟩,?_⟩
  ·have C:d-1+j+1<M:=by{simp at C;omega};refine (N.rd (d-1+j+1) rfl ω ⟨ω,N.rd (d-1+j) rfl ω ⟨(lead:Int),?_,rfl⟩⟩);have U:b_ .or .u64 (u64.wrap (u64.wrap (((ai R)[d-1+j+1]'ω:Nat):Int)*2^32)) (u64.wrap (((ai R)[d-1+j]'ω:Nat):Int))=(lead:Int):=by{have e3:((2:Int)^32)=4294967296:=φ;have g1:=l (d-1+j+1) ω;have X:=l (d-1+j) ω;have:=l2 ω;rw [e3,bq (x:=(((ai R)[d-1+j+1]'ω:Nat):Int)) ω,bq (x:=(((ai R)[d-1+j]'ω:Nat):Int)) ω,bq ω,KT _ _ g1 X,this];omega};(try dsimp only);(and_intros<;>first|exact True.intro|exact U|rfl)
  ·have C:M<=d-1+j+1:=by{simp at C;omega};refine ⟨λz V'=>z=(lead:Int),⟨λD=>?_,λD=>?_⟩,?_⟩;{have D:d-1+j<M:=by{simp at D;omega};refine N.rd (d-1+j) rfl ω ⟨(lead:Int),?_,rfl⟩;have U:u64.wrap (((ai R)[d-1+j]'ω:Nat):Int)=(lead:Int):=by{have X:=l (d-1+j) ω;rw [bq ω,l1 ω]};(try dsimp only);(and_intros<;>first|exact True.intro|exact U|rfl)};{have D:M<=d-1+j:=by{simp at D;omega};have U:(0:Int)=(lead:Int):=by{rw [l0 ω];rfl};refine ⟨(lead:Int),?_,rfl⟩;(try dsimp only);(and_intros<;>first|exact True.intro|exact U|rfl)};{rintro _ V8 l8 rfl;refine ⟨θ,(lead:Int),?_,rfl⟩;(try dsimp only);(and_intros<;>first|exact True.intro|rfl)}
  rintro _ V9 l9 rfl;clear l2 l1 l0 l;have F:(lead:Int).tdiv (top:Int)=((lead / top:Nat):Int):=by rw [Qj6 ω];omega
  have c3:lead / top<=lead:=Qc7 _ _;rw [F];generalize lead / top=lt at *
  obtain ⟨B,Y,t,Z⟩:∃B:Nat,cH (u64.wrap (lt:Int)) 4294967295=(B:Int)/\B<4294967296/\R / (W*4294967296^j)<=B:=by rw [bq ω];unfold cH;split;{exact ⟨4294967295,rfl,ω,ω⟩};{exact ⟨lt,rfl,ω,hg⟩}
  rw [Y];clear Y F c3 hg c0;have a0:=Wk2 P hW;have u:∀g:Nat,g<4294967296->(ai g).length<=1:=λg hg=>aQ.2 ω;refine ⟨θ,ω,λgx a1=>(fF B).s ?_⟩;rintro r fu dM ⟨gp,gn,gc,rfl,d7⟩;refine ⟨_,_,_,rfl,λiD eN=>(dy ra ra (by have:=u B t;omega)).s ?_⟩;rintro r kE fw ⟨pp,pn,pc,rfl,c4⟩;rw [ag,ag] at c4;have I:=λg=>kI (a:=W) (b:=g);refine ⟨_,_,_,rfl,λmg hZ=>(pk ra (by have:=u B t;have:=I B;omega) (32*j)).s ?_⟩;rintro r mz eH ⟨tp,tn,tc,rfl,a2⟩;rw [ag,ZO] at a2;have d0:=N.le (l9.m (a1.m (dM.m (eN.m (fw.m (hZ.m eH))))))
  refine ⟨_,_,_,rfl,λz V'=>∃g:Nat,z.1=g/\g<4294967296/\R / (W*4294967296^j)<=g/\RN V' z.2.1 z.2.2.1 z.2.2.2 (W*g*4294967296^j),λz=>z.1.toNat,
   ⟨((B:Int),tp,tn,tc),by and_intros<;>first|exact True.intro|rfl,B,rfl,t,Z,a2⟩,?_⟩
  rintro ⟨_,tp,tn,tc⟩ mh fP ⟨g,rfl,c5,c6,ht⟩;dsimp only at ht ⊢
  have c7:(ai (W*g*4294967296^j)).length<=2^40:=by have h1:=kI (a:=W*g) (b:=4294967296^j);have h2:=HH j;have v:=I g;have C:=u g c5;omega
  refine ⟨θ,λmX gX=>(kU ra ra c7).s ?_⟩;rintro r nM gy rfl;refine ⟨_,rfl,λf=>?_,λf=>?_⟩
  ·have f:R<W*g*4294967296^j:=by{have f:0<nX (W*g*4294967296^j) R:=by{simpa using f};unfold nX at f;split at f;{omega};{split at f;{assumption};{omega}}};have c8:=T2 a0 f;have d8:=ś (ã _) c8;have e1:u64.wrap ((g:Int)-1)=((g-1:Nat):Int):=by{rw [bq ω];omega};simp only [e1];refine λqh iX=>(fF (g-1)).s ?_;rintro r jZ gG ⟨gp,gn,gc,rfl,d9⟩;refine ⟨_,_,_,rfl,λqN mo=>(dy ((K.le ax).le ax) ra (by have:=u (g-1) ω;omega)).s ?_⟩;rintro r tR oB ⟨pp,pn,pc,rfl,c9⟩;rw [ag,ag] at c9;refine ⟨_,_,_,rfl,λsO mL=>(pk ra (by have:=u (g-1) ω;have:=I (g-1);omega) (32*j)).s ?_⟩;rintro r Ec oC ⟨tp,tn,tc,rfl,a3⟩;rw [ag,ZO] at a3;(refine ⟨_,_,_,rfl,(((g-1:Nat):Int),tp,tn,tc),?_,by and_intros<;>first|exact True.intro|rfl,g-1,rfl,ω,ω,a3⟩);(try dsimp only);omega
  ·have f:W*g*4294967296^j<=R:=by{have f:¬0<nX (W*g*4294967296^j) R:=by{simpa using f};unfold nX at f;split at f;{omega};{split at f;{omega};{omega}}};rw [<-(Nc a0 f c6)] at T;have e0:=o.len;refine ⟨ū,by simp;omega,λBw zC=>(uK ra ra ω (aR f) (by rw [ag,ag];exact f)).s ?_⟩;rintro r Jw yr ⟨np,nn,nc,rfl,a4⟩;rw [ag,ag] at a4;have e1:u32.wrap (g:Int)=(g:Int):=wY ω;have e2:(aN es).set (0+j*1) (Ô .u32 (g:Int))=aN (es.set j g):=by{rw [<-bS];simp};simp only [e1];(refine ⟨_,_,_,rfl,(np,nn,nc,(j:Int)-1,aN (es.set j g)),?_,by and_intros<;>first|exact True.intro|rfl|exact e2|(rw [<-bS];simp),R-W*g*4294967296^j,a4,by (try dsimp only);omega,by (try dsimp only);omega,_,rfl,?_⟩);{(try dsimp only);omega};{(try dsimp only);rw [show ((j:Int)-1+1).toNat=j from by omega];exact T}
 ·have v:j=-1:=by{simp at v;omega};subst v;have a5:(ai R).length<=2^40:=by{have f:=o.lt;have f:R<W:=by{simpa using f};have:=aR (Qs3 f);omega};intro V8 l8 bk hb;refine (dZ (RD.bh hb o.gC (n:=L) (c:=L) o.len.symm (Ù _)) (by have:=o.len;omega)).s ?_;rintro r V9 l9 ⟨k,rfl,C⟩;refine ⟨_,_,_,rfl,λ_ gx a1=>(JV ra a5 s).s ?_⟩;rintro r fu dM ⟨p2,n2,c2,rfl,D⟩;rw [ag] at D;refine ⟨_,_,_,rfl,λiD eN=>⟨_,_,_,_,_,_,rfl,?_,?_⟩⟩;{have f:=o.lt;have J:=o.eq;have f:R<W:=by{simpa using f};have J:A=W*val es+R:=by{simpa using J};have ⟨g1,X⟩:=E J f;rw [aZ o.gC,g1] at C;exact ra};{have f:=o.lt;have J:=o.eq;have f:R<W:=by{simpa using f};have J:A=W*val es+R:=by{simpa using J};have ⟨g1,X⟩:=E J f;rw [X] at D;exact ra}
def xz {x}(h:(ai x).length<=2:=by omega):x<18446744073709551616:=by have:=aQ.1 h;omega
def İ {b ds}{sp:zA um}{ty}(u:cK ds)(z:n=ds.length)(E:n<=c)(F:V.bh b (.cells (aN ds++sp).toArray ty (0,0))):RD V (some ⟨b,0,none⟩) n c ds:=by refine ⟨z,E,λi v a=>⟨_,rfl,?_⟩,u,λe=>nomatch e⟩;rw [add_zero'];refine dX F ?_;rw [Ĳ];{exact a};{rcases Ď i (aN ds).length with e|e;{exact e};{rw [ţ e] at a;cases a}}
theorem fX (hx:RN V p n c x)(hy:RN V q m e y)(hm:(ai x).length<=2^38)(hm':(ai y).length<=2^38)(hy0:0<y):À 152 #[pT p n c,pT q m e] V λr W=>∃p1 n1 c1 p2 n2 c2,r=æ #[pT p1 n1 c1,pT p2 n2 c2]/\RN W p1 n1 c1 (x / y)/\RN W p2 n2 c2 (x%y):=by
 have j:=hx.len;have Mr:=hy.len
 have a0:0<m:=by rcases ĵ m with h|h;{have:=bR.1 (Ĝ.1 (Mr▸h));omega};{exact h}
 refine Fe V _ λV1 E=>(pz ra).s ?_;rintro r V2 U rfl;rw [ag];refine ⟨_,_,rfl,λz V'=>True,⟨λa=>?_,λa=>⟨(),by and_intros<;>first|exact True.intro|rfl,trivial⟩⟩,?_⟩
 ·have a:n<=2:=by{simpa using a};refine λV3 l3=>(pz ra).s ?_;rintro r V4 l4 rfl;rw [ag];refine ⟨_,_,rfl,λf=>?_,λf=>⟨(),by and_intros<;>first|exact True.intro|rfl,trivial⟩⟩;have f:m<=2:=by{simpa using f};have a1:=xz (x:=x);have a2:=xz (x:=y);rw [Ä a,Ä f];have hq:x / y<=x:=Qc7 _ _;have hr:x%y<y:=ė _ hy0;have F:((x:Nat):Int).tdiv (y:Int)=((x / y:Nat):Int):=by{rw [Qj6 ω];omega};have G:((x:Nat):Int).tmod (y:Int)=((x%y:Nat):Int):=by{rw [Qk9 ω];omega};rw [F,G];generalize x / y=qq at *;generalize x%y=rr at *;have H:u64.wrap (qq:Int)=qq:=bq ω;rw [H];refine ⟨ω,ω,λV5 l5=>(fF qq).s ?_⟩;rintro r V6 l6 ⟨p1,n1,c1,rfl,g1⟩;refine ⟨_,_,_,rfl,λV7 l7=>(fF rr).s ?_⟩;rintro r V8 l8 ⟨p2,n2,c2,rfl,I⟩;exact ⟨_,_,_,rfl,λV9 l9=>⟨_,_,_,_,_,_,rfl,ra,I.le l9⟩⟩
 rintro _ gx u _
 replace hx:=hx.le (E.m (U.m u))
 replace hy:=hy.le (E.m (U.m u))
 refine ⟨θ,λfu W=>(kU ra ra ω).s ?_⟩;rintro r iD X rfl
 replace hx:=hx.le (W.m X)
 replace hy:=hy.le (W.m X)
 refine ⟨_,rfl,λa=>⟨aN (ai x),hx.sl,by simp [j],ω,ω,ψ,by simp [j],?_,?_⟩,λa=>⟨λf=>?_,λf=>?_⟩⟩
 ·intro v g;simp only [aN,ù] at g;obtain ⟨d,-,rfl⟩:=g;rfl
 ·have a:x<y:=by{simpa [iJ] using a};intro bk J sp c' f h2 V1 E b C;rw [ŕ a,Ĕ a];refine qyZ ⟨rfl,RD.nil,?_⟩;simp only [Ĉ,œ,Qf4,ŗ] at C f ⊢;exact İ (aO x) j f C
 ·have a:y<=x:=by simpa [<-Ww8,iJ] using a
  have f:m=1:=by simp at f;omega
  subst f;have ⟨d,D⟩:=pR (ds:=ai y);have K:d=y:=by have:=ag y;rw [D] at this;simpa using this
  subst K;have L:d<4294967296:=by have:=aO d;rw [D] at this;exact (cK.cons.1 this).1
  try unfold RN at hy
  rw [D] at hy;have a3:0<n:=by have:=aR a;omega
  have w1:i64.wrap ((n:Int)-1)=(n:Int)-1:=au ω;simp only [w1,Ü,dU];have Ed:=aO x;have w:=ag x;try unfold RN at hx
  clear D;rw [<-w];clear w a;generalize ai x=xs at *
  refine ⟨ω,ω,ω,λz V'=>0<=z.1/\z.1<d/\-1<=z.2.1/\z.2.1<n/\∃es:zA Nat,z.2.2=aN es/\es.length=n/\cK es /\
   val (xs.drop (z.2.1+1).toNat)=d*val (es.drop (z.2.1+1).toNat)+z.1.toNat,λz=>(z.2.1+1).toNat,
   ⟨(0,(n:Int)-1,aN (List.replicate n 0)),by and_intros<;>first|exact True.intro|rfl,by (try dsimp only);omega,by (try dsimp only);omega,by (try dsimp only);omega,by (try dsimp only);omega,_,rfl,ψ,cK.rep _,?_⟩,?_⟩
  ·(try dsimp only);rw [Ŀ ω,Ŀ ψ];rfl
  rintro ⟨rest,i,vs⟩ mg M ⟨A,N,O,P,es,rfl,Q,o,g⟩;dsimp only at A N O P g ⊢;obtain ⟨rest,rfl⟩:=č A;refine ⟨θ,λs=>?_,λs=>?_⟩
  ·have s:0<=i:=by{simpa using s};obtain ⟨i,rfl⟩:=č s;have R:((i:Int)+1).toNat=i+1:=ω;rw [R] at g;simp only [Ü] at g ⊢;have B:=Ed.get (i:=i) ω;refine (hx.le M).rd i rfl ω (K6 (hy.le M) ψ λmz Y=>(WV rest xs[i] d ω B L).s ?_);rintro r mh fP rfl;have hq:(rest*4294967296+xs[i]) / d<4294967296:=by{rw [Qb8 ω];have:rest+1<=d:=ω;have:=Ă 4294967296 this;rw [Ľ 4294967296 d];omega};have hr:(rest*4294967296+xs[i])%d<d:=ė _ ω;have Ng:=Qd5 (rest*4294967296+xs[i]) d;generalize (rest*4294967296+xs[i]) / d=q at *;generalize (rest*4294967296+xs[i])%d=r at *;have w2:i64.wrap ((i:Int)-1)=(i:Int)-1:=au ω;simp only [w2];refine ⟨_,_,rfl,ū,by simp;omega,((r:Int),(i:Int)-1,aN (es.set i q)),?_,?_,?_⟩;{(try dsimp only);omega};{(try dsimp only);(and_intros<;>first|exact True.intro|rfl|(rw [<-bS];simp))};{(try dsimp only);refine ⟨ω,ω,ω,ω,_,rfl,by simpa using Q,o.set _ _ ω,?_⟩;have S:((i:Int)-1+1).toNat=i:=ω;rw [S,Ī ω,Ī (l:=es.set i q) (by simp;omega),Qg0,Qn0 ω];rw [bP,bP,Ü];exact (De g Ng)}
  ·have s:i=-1:=by{simp at s;omega};subst s;simp only [Ü] at g;have g:val xs=d*val es+rest:=by{simpa using g};intro mX gX bk C;refine (dZ (RD.bh C o (n:=n) (c:=n) ω (Ù _))).s ?_;rintro r nM gy ⟨k,rfl,h4⟩;refine ⟨_,_,_,rfl,λ_ qh iX T t=>?_⟩;have t:qh.bh T (.cells (aN [rest]).toArray 219 (0,0)):=by{simpa [aN] using t};refine (dZ (RD.bh t (n:=1) (c:=1) (by simp [cK];omega) rfl (Ù _)) ψ).s ?_;rintro r jZ gG ⟨k2,rfl,Z⟩;refine ⟨_,_,_,rfl,λ_ qN mo=>⟨_,_,_,_,_,_,rfl,?_,?_⟩⟩;{have F:val xs / d=val es:=by{rw [g,Wj3 ω,ŕ ω,Ę]};rw [aZ o] at h4;rw [F];exact ra};{have G:val xs%d=rest:=by{rw [g,Wj4,Ĕ ω]};rw [aZ (by simp [cK];omega)] at Z;have H:val [rest]=rest:=ψ;rw [H] at Z;rw [G];exact ra}
 ·have a:y<=x:=by{simpa [<-Ww8,iJ] using a};refine λkE fw=>(MV ra ra hm hy0 (aR a)).s ?_;rintro r mg M ⟨p1,n1,c1,p2,n2,c2,rfl,g1,I⟩;exact qyZ ⟨rfl,λmz Y=>⟨_,_,_,_,_,_,rfl,ra,I.le Y⟩⟩
theorem ph (hx:RN V p n c x)(hy:RN V q m e y)(hm:(ai x).length<=2^38)(hm':(ai y).length<=2^38):À 151 #[pT p n c,pT q m e] V λr W=>∃p1 n1 c1,r=pT p1 n1 c1/\RN W p1 n1 c1 (Nat.gcd x y):=by
 have I:=hx.len;have U:=hy.len;refine Fc V _ λK A=>(pz ra).s ?_;rintro r V2 E rfl;rw [ag];refine ⟨_,_,rfl,λz V'=>True,⟨λu=>?_,λu=>⟨(),by and_intros<;>first|exact True.intro|rfl,trivial⟩⟩,?_⟩
 ·have u:n<=2:=by simpa using u
  refine λW X=>(pz ra).s ?_;rintro r Y Z rfl;rw [ag];refine ⟨_,_,rfl,λj=>?_,λj=>⟨(),by and_intros<;>first|exact True.intro|rfl,trivial⟩⟩;have j:m<=2:=by simpa using j
  rw [Ä u,Ä j]
  refine ⟨λz V'=>∃a b:Nat,z=((a:Int),(b:Int))/\a<18446744073709551616/\b<18446744073709551616/\Nat.gcd a b=Nat.gcd x y,λz=>z.2.toNat,
   ⟨((x:Int),(y:Int)),by and_intros<;>first|exact True.intro|rfl,x,y,rfl,(xz (x:=x)),(xz (x:=y)),rfl⟩,?_⟩
  rintro _ V5 l5 ⟨a,b,rfl,s,i,l⟩;dsimp only;refine ⟨θ,λf=>?_,λf=>?_⟩
  ·have f:0<b:=by{simpa using f};have L:(a:Int).tmod (b:Int)=((a%b:Nat):Int):=by{rw [Qk9 ω];omega};have w:a%b<b:=ė _ f;(refine ⟨ω,((b:Int),((a%b:Nat):Int)),?_,by and_intros<;>first|exact True.intro|rfl|exact L,b,a%b,rfl,i,ω,?_⟩);{(try dsimp only);simp only [Ü];exact w};{rw [<-l,Ť a b,Nat.gcd_rec b a,Ť]}
  ·have f:b=0:=by{simp at f;omega};subst f;rw [Qg1] at l;refine λV6 l6=>(fF a s).s ?_;rintro r V7 l7 ⟨p1,n1,c1,rfl,F⟩;rw [l] at F;exact ⟨_,_,_,rfl,λV8 l8=>⟨_,_,_,rfl,ra⟩⟩
 rintro _ V9 G _
 replace hx:=hx.le (A.m (E.m G))
 replace hy:=hy.le (A.m (E.m G))
 refine ⟨θ,λz k V'=>∃a b:Nat,RN V' z.1 z.2.1 z.2.2.1 a/\RN V' z.2.2.2.1 z.2.2.2.2.1 z.2.2.2.2.2 b/\b=k/\(ai a).length<=2^38/\(ai b).length<=2^38/\Nat.gcd a b=Nat.gcd x y,
  ⟨(p,n,c,q,m,e),y,by and_intros<;>first|exact True.intro|rfl,x,y,hx,hy,rfl,hm,hm',rfl⟩,?_⟩
 rintro ⟨ap,an,ac,M,B,N⟩ _ gx O ⟨a,b,s,i,rfl,C,t,l⟩;dsimp only at s i ⊢;have o:=s.len;have D:=i.len;refine ⟨θ,λf=>?_,λf=>?_⟩
 ·have f:0<B:=by{simpa using f};have g:0<b:=by{rcases ĵ b with h|h;{subst h;simp at D;omega};{exact h}};refine λfu dM=>(fX ra ra C t g).s ?_;rintro r iD eN ⟨p1,n1,c1,P,Q,R,rfl,F,S⟩;have w:a%b<b:=ė _ g;have T:=aR (Qs3 w);(refine qyZ ⟨rfl,(M,B,N,P,Q,R),a%b,w,by and_intros<;>first|exact True.intro|rfl,b,a%b,i.le ax,S,rfl,t,ω,?_⟩;rw [<-l,Ť a b,Nat.gcd_rec b a,Ť])
 ·have f:B=0:=by{simp at f;omega};have g:b=0:=bR.1 (Ĝ.1 ω);subst g;rw [Qg1] at l;rw [<-l];refine ⟨aN (ai a),s.sl,by simp [o],ω,ω,ψ,by simp [o],?_,?_⟩;{intro v H;simp only [aN,ù] at H;obtain ⟨d,-,rfl⟩:=H;rfl};{intro bk J sp c' j h2 K A b i;refine ⟨_,_,_,rfl,?_⟩;simp only [Ĉ,œ,Qf4,ŗ] at i j ⊢;exact İ (aO a) o j i}
end Go.Proofs.Tryz
