import Derived.Test.YtlhmddanbgcbjaaGreatDoorL5
import Derived.Test.YtlhmddanbgcbjaaGreatDoorCards
import Derived.Test.YtlhmddanbgcbjaaGreatDoorTie
import Derived.WalkKit
import Derived.ProofKit
import Derived.OpenShut
import Derived.Deep.DeepHandedRow
import Derived.LaidLaws
import Derived.Lay
import Derived.Carry
import Derived.IntWalk
import Derived.Test.YtlhmddanbgcbjaaGreatDoorL6
import Derived.Shelf.SlLaysF0
import Derived.Shelf.Lays
import Derived.Shelf.Small.Bits
import Derived.Shelf.Bits.Mul64
set_option linter.all false
open Go.IntKind (i64 u64 u32)
namespace Go.Proofs.YtlhmddanbgcbjaaGreatDoor
open Go.ChangeShapes Go.WideShapes Go.ChangeAt Go.RowKit Go.Eng
theorem own:ownKnob Tryz.prog.godebug=none:=by kernel_rfl
def star : "*" ++ "errors.errorString" = "*errors.errorString" := by decide
def rowE (u : TypeId)(h : Tryz.prog.typeName? 3 u = some "*errors.errorString") : u = 375 :=
 typeName_ptr_named (nm := "errors.errorString") (by rw [star]; kernel_rfl) (by kernel_rfl) (by decide) u (by rw [star]; exact h)
def Xs:Tryz.prog.cellsOf 391=1:=by kernel_rfl
def Xt:Tryz.prog.cellsOf 9=1:=by kernel_rfl
def row0 (g:Nat):MemPlace.cell g 0∈MemPlace.row ⟨g,0,none⟩ 1:=by simp [MemPlace.row]
def Wa {P:Program}{W:World}{name:String}{g:Nat}{v:un}(hg:P.globalNamed name=some g)(h:W.var? P name=some #[v]):W.cell? ⟨g,0,none⟩=some v:=by simpa using World.var?_cell hg h 0
set_option maxRecDepth 100000 in
def uS {W:World}{l:pz (String×DataW Unit)}{name:String}{text:pz UInt8}{g:Nat}(hg:Tryz.prog.globalNamed name=some g)(hty:(Tryz.prog.globals[g]?).map (·.type)=some 40)
  (hm : (name, .iface "*errors.errorString" (.ptr (.agg [.lit (.string text)]))) ∈ l)(h : laidMet Tryz.prog l W) :
  ∃a,W.cell? ⟨g,0,none⟩=some (.iface 375 (.pointer (some a))):=by
 obtain ⟨k,m,-,c⟩:=h
 induction l generalizing k with
 | nil=>cases hm
 | cons x r ih=>
  obtain ⟨n,d⟩:=x;obtain ⟨B,t,cs,fuel,p,q,i,o,f,w,y,rfl⟩:=m;rcases Qq5.1 hm with e|hm
  ·cases e;obtain rfl:=Qb8 (hg.symm.m i);obtain rfl:=Qb8 (hty.symm.m o);obtain ⟨z⟩:=cs
   have j:∀u v,z=[.iface u v]->Value.okWide Tryz.prog W .any 0 u v:=λu v e=>by
    subst e;exact (c g 0 (Qz5 _ (Qz5 _ (row0 g)))).2 u v (Wa hg f)
   obtain ⟨a,s,rfl,-⟩:=errorString_of_trod Tryz.underlying40 rowE Tryz.underlying375 Tryz.underlying391 rfl rfl Tryz.underlying9 Xs Xt w j;exact ⟨a,Wa hg f⟩
  ·exact ih hm q y λb off A=>c b off (Qk6 _ A)
def View.all (W:World):View:=⟨W,λ_=>False,λ_=>False,λ_ h=>h.elim,λ_ h=>h⟩
def Is {w w':World}(h:iP (λ_=>False) w w')(may:MemPlace->Prop):w.keptBut w' may:=by refine ⟨h.os,h.out,λi a=>?_⟩;rw [h.bg i a (λh=>h)];(cases w.heap[i]? with|none=>rfl|some o=>{cases o<;>simp})
def C6 {f:FuncId}{args:Array un}{W:World}{R:un->Prop}(h:aa Tryz.prog f args (View.all W) λr _=>R r):Calls Tryz.prog f args W λe w'=>∃r,e=.returned r/\R r/\iP (λ_=>False) W w':=
 h.2.s λe w' ⟨r,he,a,b⟩=>⟨r,he,b,a⟩
def laidOut:laidOutB Tryz.prog=true:=by kernel_rfl
def Fj {w w':World}(h:iP (λ_=>False) w w'):Below w.heap.size w w':=⟨h.os,h.tape,h.out,h.size,λk a=>h.bg k a (λh=>h)⟩
def Np {P:Program}(hlo:laidOutB P=true){H:Type}{enc:TypeId×un->H}{W W':World}(hb:Below W.heap.size W W')(ts:pz TypeId):∀{vs:pz un} {ds:pz (DataW H)} {ps:pz MemPlace},
  (ts.all λt=>P.readableRec t&&decide (t<P.types.size))=true->DataW.TrodAll enc P W 0 (λ_=>true) true ts vs ds ps->(∀x∈ps,x.block<W.heap.size) ->
   DataW.TrodAll enc P W' 0 (λb=>decide (b<W.heap.size)) true ts vs ds ps:=by
 induction ts with
 | nil=>
  intro vs ds ps _ h _;obtain ⟨rfl,rfl,rfl⟩:=trodAll_nil h;exact trodAll_mk0
 | cons t ts ih=>
  intro vs ds ps c h a;obtain ⟨v,f,d,g,p,q,rfl,rfl,rfl,i,j⟩:=trodAll_cons h;simp only [List.all_cons,Qx1,decide_eq_true_eq] at c;exact trodAll_cons_mk (Below.trod hlo c.1.1 c.1.2 i hb λx e=>a x (Qz5 _ e)) (ih c.2 j λx e=>a x (Qk6 _ e))
set_option maxRecDepth 100000 in
def Uy {H:Type}{enc:TypeId×un->H}{fid:FuncId}{f:Func}{s:ChangeSpec}{W:World}{args:Array un}{ds gs:pz (DataW H)}{before:pz MemPlace}{fresh handsOn:md}
  (hW:DataW.Whole enc Tryz.prog f.params.toList s.vars false W args.toList ds gs before)(hvars:s.vars=[])(hts:(f.params.toList.all λt=>Tryz.prog.readableRec t&&decide (t<Tryz.prog.types.size))=true)
  (hres:f.resultTypes=#[4])(hs:s.fn H (ds++gs)={ results:=[.lit (.bool true)],args:=ds })
  (h:aa Tryz.prog fid args (View.all W) λr _=>r=.bool true):Calls Tryz.prog fid args W λe W'=>∃v,e=.returned v/\s.post enc Tryz.prog f false fresh handsOn false W args v W':=by refine (C6 h).s λe W' ⟨r,he,g,a⟩=>?_;subst he g;have b:=hW;obtain ⟨p,q,i,d,rfl,-,-⟩:=hW;rw [hvars] at d;obtain ⟨rfl,rfl⟩:=trodVars_none d;have c:∀x∈p++[],x.block<W.heap.size:=λx a=>b.lt x a;refine ⟨_,rfl,ds,_,p++[],[],p++[],[],b,?_,?_,?_,Is a _,λh=>nomatch h⟩;{rw [hs,hres];exact trodAll_cons_mk (shut_bool Tryz.underlying4 _) trodAll_mk0};{rw [hs,Qx2];exact Np laidOut (Fj a) _ hts i λx a=>c x (by rw [Qx2];exact a)};{rw [hs,hvars];rfl}
set_option maxRecDepth 100000 in
def I4 {H:Type}{enc:TypeId×un->H}{W:World}{p:OA}{n c:Nat}{d:DataW H}{ps:pz MemPlace}
  (h:DataW.Trod enc Tryz.prog W 0 (λ_=>true) true 22 (.slice p n c) d ps):n<=c/\∀i,i<n->∃(a:Addr)(x:Int),ae p (i*1)=some a/\(View.all W).at a (.int .i64 x):=by obtain ⟨fuel,k⟩:=h;rcases open_ints Tryz.underlying22 Tryz.underlying3 (show Tryz.prog.cellsOf 3=1 by kernel_rfl) k with ⟨b,-⟩|⟨a,f,g,o,b,_,l,-,m,-,e,-⟩;{simp [Value.cells] at b;obtain ⟨rfl,rfl,rfl⟩:=b;exact ⟨Qq2 _,λi j=>absurd j (by omega)⟩};{simp [Value.cells] at b;obtain ⟨rfl,rfl,rfl⟩:=b;simp only [if_true] at m;exact ⟨l,λi j=>⟨a.add i,_,by rw [Qk5];rfl,λh=>h,e i (by omega)⟩⟩}
end Go.Proofs.YtlhmddanbgcbjaaGreatDoor
namespace Go.Big
variable{a ds:List Nat}{n:Nat}
def val:List Nat->Nat
 | []=>0
 | d::r=>d+4294967296*val r
def cP (ds:List Nat):Prop:=∀d∈ds,d<4294967296
def dh:List Nat->List Nat
 | []=>[]
 | d::r=>if dh r=[]/\d=0 then [] else d::dh r
def xT (ds:List Nat):Prop:=dh ds=ds
def An:Nat->Nat->List Nat
 | 0,_=>[]
 | f+1,n=>if n=0 then [] else n%4294967296::An f (n / 4294967296)
def ah (n:Nat):List Nat:=An n n
@[simp] theorem gi:val []=0:=rfl
@[simp] theorem bO (d:Nat)(r:List Nat):val (d::r)=d+4294967296*val r:=rfl
theorem cP.nil:cP []:=λ_ h=>nomatch h
theorem cP.cons {d:Nat}{r:pz Nat}:cP (d::r)↔d<4294967296/\cP r:=by simp [cP]
theorem cP.append {b:pz Nat}:cP (a++b)↔cP a/\cP b:=by simp [cP,or_imp,forall_and]
theorem cP.take (h:cP a)(k:Nat):cP (a.take k):=λd b=>h d (Qn6 b)
theorem cP.drop (h:cP a)(k:Nat):cP (a.drop k):=λd b=>h d (Qp3 b)
theorem cP.set (h:cP a)(k x:Nat)(hx:x<4294967296):cP (a.set k x):=λd c=>by
 rcases List.mem_or_eq_of_mem_set c with b|b
 ·exact h d b
 ·exact b▸hx
theorem cP.get (h:cP a){i:Nat}(hi:i<a.length):a[i]<4294967296:=h _ (Qq9 hi)
theorem cP.rep (n:Nat):cP (List.replicate n 0):=λd a=>by rw [Qr3 a];omega
theorem eX (a b:pz Nat):val (a++b)=val a+4294967296^a.length*val b:=by
 induction a with
 | nil=>simp
 | cons d r ih=>simp only [Qd0,bO];grind
theorem iN (h:cP ds):val ds<4294967296^ds.length:=by
 induction ds with
 | nil=>simp
 | cons d r ih=>
  have a:=cP.cons.1 h;grind [val]
theorem zD (n:Nat):val (List.replicate n 0)=0:=by
 induction n with
 | zero=>rfl
 | succ n ih=>simp [List.replicate_succ,ih]
theorem ay (ds:pz Nat)(i:Nat)(h:i<ds.length:=by omega):val (ds.take (i+1))=val (ds.take i)+4294967296^i*ds[i]:=by rw [Qy4 h,eX];simp [Qj3 (Qr4 h)]
theorem ao {ds:pz Nat}{i:Nat}(h:ds.length<=i:=by omega):val (ds.take i)=val ds:=by rw [Qv4 h]
theorem Dj (ds:pz Nat)(i x:Nat)(h:i<ds.length):(ds.set i x).take (i+1)=ds.take i++[x]:=by grind [List.take_succ_eq_append_getElem,List.take_set,List.set_eq_of_length_le]
theorem aU (ds:pz Nat)(i x:Nat)(h:i<ds.length:=by omega):val ((ds.set i x).take (i+1))=val (ds.take i)+4294967296^i*x:=by rw [Dj ds i x h,eX];simp [Qj3 (Qr4 h)]
theorem jU (r:pz Nat):dh (r++[0])=dh r:=by
 induction r with
 | nil=>simp [dh]
 | cons d r ih=>simp only [Qd0,dh,ih]
theorem tA (r:pz Nat)(d:Nat)(h:d≠0):dh (r++[d])=r++[d]:=by
 induction r with
 | nil=>simp [dh,h]
 | cons x r ih=>simp [dh,ih]
theorem O5 (ds:pz Nat):val (dh ds)=val ds:=by
 induction ds with
 | nil=>rfl
 | cons d r ih=>
  simp only [dh];split
  ·rename_i h;rw [bO,←ih,h.1,h.2];rfl
  ·simp [ih]
theorem nF (ds:pz Nat):(dh ds).length<=ds.length:=by
 induction ds with
 | nil=>simp [dh]
 | cons d r ih=>simp only [dh];split<;>simp<;>omega
theorem O3 (ds:pz Nat):dh ds=ds.take (dh ds).length:=by induction ds<;>grind [dh]
theorem cP.trim (h:cP ds):cP (dh ds):=by rw [O3];exact h.take _
theorem Jq (ds:pz Nat):xT (dh ds):=by
 unfold xT
 induction ds with
 | nil=>rfl
 | cons d r ih=>
  rw [dh];split
  ·rfl
  ·rename_i h;rw [dh,ih,if_neg h]
theorem xT.tail {d:Nat}{r:pz Nat}(h:xT (d::r)):xT r:=by unfold xT at h ⊢;simp only [dh] at h;split at h;{cases h};{injection h}
theorem xT.zero (h:xT ds)(hv:val ds=0):ds=[]:=by
 induction ds with
 | nil=>rfl
 | cons d r ih=>
  have a:=ih h.tail (by simp at hv;omega);subst a;simp at hv;subst hv;simp [xT,dh] at h
theorem ug:∀(f n:Nat),n<=f->val (An f n)=n/\cP (An f n)/\xT (An f n)
 | 0,n,h=>⟨by simp [An];omega,cP.nil,rfl⟩
 | f+1,n,h=>by
  simp only [An];split
  ·subst_vars;exact ⟨rfl,cP.nil,rfl⟩
  ·have ⟨h1,h2,h3⟩:=ug f (n / 4294967296) (by omega);refine ⟨by rw [bO,h1];omega,cP.cons.2 ⟨by omega,h2⟩,?_⟩;unfold xT at h3 ⊢;rw [dh,h3,if_neg];rintro ⟨a,b⟩;rw [a] at h1;simp at h1;omega
theorem af (n:Nat):val (ah n)=n:=(ug n n (Qq2 _)).1
theorem aL (n:Nat):cP (ah n):=(ug n n (Qq2 _)).2.1
theorem lu (n:Nat):xT (ah n):=(ug n n (Qq2 _)).2.2
theorem xT.ext:∀{a b:pz Nat},cP a->cP b->xT a->xT b->val a=val b->a=b
 | [],b,_,_,_,hb,h=>(hb.zero (by rw [←h];rfl)).symm
 | d::r,[],_,_,ha,_,h=>by have:=ha.zero h;cases this
 | d::r,e::s,ha,hb,na,nb,h=>by
  have f:=(cP.cons.1 ha).1;have g:=(cP.cons.1 hb).1;simp only [bO] at h;have:val r=val s:=by omega
  have c:=xT.ext (cP.cons.1 ha).2 (cP.cons.1 hb).2 na.tail nb.tail this;grind
theorem Ao (h:cP ds)(hn:xT ds):ah (val ds)=ds:=xT.ext (aL _) h (lu _) hn (af _)
theorem aY (h:cP ds):dh ds=ah (val ds):=by rw [←O5,Ao h.trim (Jq _)]
theorem uh {a b:Nat}(h:ah a=ah b):a=b:=by rw [←af a,h,af]
@[simp] theorem Em:ah 0=[]:=rfl
theorem bR:ah n=[]↔n=0:=⟨λh=>uh (by rw [h];rfl),λh=>h▸rfl⟩
theorem xT.last (h:xT ds)(hl:0<ds.length):ds[ds.length-1]≠0:=by intro e;have a:ds=ds.take (ds.length-1)++[ds[ds.length-1]]:=by{grind [List.take_succ_eq_append_getElem,Nat.sub_add_cancel,List.take_length]};rw [e] at a;have b:dh ds=ds:=h;rw [a,jU] at b;have:=nF (ds.take (ds.length-1));grind
theorem IE (h:∀hl:0<ds.length,ds[ds.length-1]≠0):xT ds:=by rcases Qy9 ds.length with e|e;{rw [Qw8.1 e];rfl};{have a:ds=ds.take (ds.length-1)++[ds[ds.length-1]]:=by{grind [List.take_succ_eq_append_getElem,Nat.sub_add_cancel,List.take_length]};have:=tA (ds.take (ds.length-1)) _ (h e);rw [←a] at this;exact this}
theorem S4 (h:xT ds)(hl:0<ds.length:=by omega):4294967296^(ds.length-1)<=val ds:=by have a:ds=ds.take (ds.length-1)++[ds[ds.length-1]]:=by{grind [List.take_succ_eq_append_getElem,Nat.sub_add_cancel,List.take_length]};have b:=h.last hl;rw [a,eX];simp only [bO,gi];simp only [Qq3,Qq7,Qf4];rw [Qj3 (by omega),Qn9 hl];have:4294967296^(ds.length-1)*1<=4294967296^(ds.length-1)*(ds[ds.length-1]+4294967296*0):=Qz8 _ (by omega);omega
theorem aN {n k:Nat}:(ah n).length<=k↔n<4294967296^k:=by constructor;{grind [iN,aL,af,Nat.lt_of_lt_of_le,Nat.pow_le_pow_right]};{intro h;rcases Qz3 k (ah n).length with a|a;{have:=S4 (lu n);rw [af] at this;have b:4294967296^k<=4294967296^((ah n).length-1):=Qx5 (by omega) (by omega);omega};{exact a}}
theorem xk {k:Nat}:k<(ah n).length↔4294967296^k<=n:=by have:=@aN n k;omega
theorem ji (ds:pz Nat)(i:Nat)(h:i<ds.length):val ds=val (ds.take i)+4294967296^i*(ds[i]+4294967296*val (ds.drop (i+1))):=by have a:val ds=val (ds.take i++ds.drop i):=by{rw [Qb1]};grind [eX,List.drop_eq_getElem_cons,bO]
theorem mo {b:pz Nat}{i:Nat}(ha:cP a)(hi:i<a.length)(hj:i<b.length)(hd:a.drop (i+1)=b.drop (i+1))(hl:a[i]<b[i]):val a<val b:=by rw [ji a i hi,ji b i hj,hd];have c:=iN (ha.take i);simp only [Qq7,Qj3 (Qr4 hi)] at c;have d:4294967296^i*(a[i]+4294967296*val (b.drop (i+1))+1)<=4294967296^i*(b[i]+4294967296*val (b.drop (i+1))):=Qz8 _ (by omega);grind
theorem nq {a b:Nat}(h:(ah a).length<(ah b).length:=by omega):a<b:=by have c:=iN (aL a);have d:=S4 (lu b);rw [af] at c d;have e:4294967296^(ah a).length<=4294967296^((ah b).length-1):=Qx5 (by omega) (by omega);omega
def mV (a b:Nat):Int:=if a<b then -1 else if b<a then 1 else 0
theorem aO {a b:Nat}(h:a<=b:=by omega):(ah a).length<=(ah b).length:=by rcases Qz3 (ah b).length (ah a).length with c|c;{have:=nq c;omega};{exact c}
theorem bH (h:cP ds):(ah (val ds)).length<=ds.length:=by rw [←aY h];exact nF ds
theorem T3 (h:n<4294967296)(h0:n≠0:=by omega):ah n=[n]:=by have:xT [n]:=by{simp [xT,dh,h0]};have:=Ao (by simp [cP];exact h) this;simpa using this
end Go.Big
namespace Go.Eng
open Go.Big
open Go.Value renaming int→qvZ
variable{ds:List Nat}{p:OA}{c n:Nat}{V:View}
theorem aw {x:Int}(h:-9223372036854775808<=x/\x<=9223372036854775807):i64.wrap x=x:=IntWalk.i64_in x h
theorem bq {x:Int}(h:0<=x/\x<=18446744073709551615):u64.wrap x=x:=IntWalk.u64_in x h
theorem vg {x:Int}(h:0<=x/\x<=4294967295):u32.wrap x=x:=IntWalk.u32_in x h
theorem kn (x:Int):u32.wrap x=x%4294967296:=by rw [IntKind.wrap_u32]
theorem yv (x:Int):u64.wrap x=x%18446744073709551616:=by rw [IntKind.wrap_u64]
theorem uV {x:Int}:x.fdiv (2^32)=x / 4294967296:=by rw [Ww6 _ (by decide)];rfl
theorem SH {x:Int}:x.fdiv (2^63)=x / 9223372036854775808:=by rw [Ww6 _ (by decide)];rfl
theorem IM (a b:Nat)(ha:a<4294967296)(hb:b<4294967296):b_ .or .u64 ((a:Int)*4294967296) (b:Int)=(a:Int)*4294967296+b:=by have c:((a:Int)*4294967296)=((a*2^32:Nat):Int):=by{simp};rw [b_,c,yv];have d:(BitVec.ofInt IntKind.u64.bits ((a*2^32:Nat):Int) ||| BitVec.ofInt IntKind.u64.bits (b:Int)).toNat=a*2^32+b:=by{show (BitVec.ofInt 64 ((a*2^32:Nat):Int) ||| BitVec.ofInt 64 (b:Int)).toNat=_;rw [Qj4,Qj4,Wz2,Qj9,Qj9,Qx9 (by omega),Qx9 (by omega)];have:=Qt3 (b:=b) (i:=32) (by omega) a;grind [Nat.shiftLeft_eq]};omega
def aK (ds:List Nat):List Value:=ds.map λ(d:Nat)=>Value.int .u32 (d:Int)
@[simp] theorem u32s_len (ds:List Nat):(aK ds).length=ds.length:=by simp [aK]
theorem bT (ds:pz Nat)(i x:Nat):(aK ds).set i (qvZ .u32 (x:Int))=aK (ds.set i x):=by simp [aK]
theorem dX (n:Nat):List.replicate n (Value.int .u32 0)=aK (List.replicate n 0):=by simp [aK]
theorem iL {i:Nat}(h:i<ds.length):(aK ds)[i]?=some (qvZ .u32 (ds[i]:Int)):=by simp [aK,h]
theorem E6 (ds:pz Nat)(k:Nat):aK (ds.take k)=(aK ds).take k:=by simp [aK,Wy1]
theorem O4 (ds:pz Nat)(k:Nat):aK (ds.drop k)=(aK ds).drop k:=by simp [aK,Wy2]
theorem xO (a b:pz Nat):aK (a++b)=aK a++aK b:=by simp [aK]
theorem View.Le.sl {V V':ut}(h:V.Le V'){a:OA}{xs:pz un}(hs:V.sl a xs):V'.sl a xs:=
 λi v b=>let ⟨ad,e,ha⟩:=hs i v b;⟨ad,e,h.at ha⟩
structure RD (V:View) (p:OA) (n c:Nat) (ds:List Nat):Prop where
 len:n=ds.length
 cap:n<=c
 sl:V.sl p (aK ds)
 gC:cP ds
 ID:p.isNone=true->c=0
theorem RD.le {V V':ut}(h:RD V p n c ds)(l:V.Le V'):RD V' p n c ds:=⟨h.len,h.cap,l.sl h.sl,h.gC,h.ID⟩
theorem RD.nil:RD V none 0 0 []:=⟨rfl,Qq2 _,λi v h=>by simp [aK] at h,cP.nil,λ_=>rfl⟩
theorem RD.take (h:RD V p n c ds){k:Nat}(hk:k<=n):RD V p k c (ds.take k):=by have:=h.len;refine ⟨by simp;omega,by have:=h.cap;omega,λi v a=>h.sl i v ?_,h.gC.take k,h.ID⟩<;>grind [E6]
theorem RD.rd (h:RD V p n c ds){i:Int}{K:Int->Prop}(j:Nat)(hj:i=j)(hn:j<ds.length)
  (hK:K ((ds[j]:Nat):Int)):(p.isSome=true)/\(0<=i/\i<(n:Int))/\∃x:Int,(∃a,ae p (i.toNat*1)=some a/\V.at a (qvZ .u32 x))/\K x:=by have ⟨b,e,d⟩:=h.sl j _ (iL hn);have:=h.len;subst hj;refine ⟨by rw [e];rfl,⟨by omega,by omega⟩,_,⟨b.add j,?_,d⟩,hK⟩;rw [e];simp [ae]
theorem dH {b:Nat}{xs:pz un}{ty:TypeId}{m:Nat×Nat}(h:V.bg b (.cells xs.toArray ty m)){i:Nat}{v:un}(hv:xs[i]?=some v):V.at ⟨b,i,none⟩ v:=by refine ⟨h.1,?_⟩;unfold World.cell?;rw [h.2];simpa using hv
theorem add_zero' (b i:Nat):(⟨b,0,none⟩:Addr).add i=⟨b,i,none⟩:=by unfold Addr.add;split;{rename_i h;simp_all};{simp}
theorem RD.bg {b:Nat}{ds:pz Nat}{ty:TypeId}{m:Nat×Nat}(h:V.bg b (.cells (aK ds).toArray ty m))(hd:cP ds)(hn:n=ds.length)(hc:n<=c):RD V (some ⟨b,0,none⟩) n c ds:=
 ⟨hn,hc,λi v a=>⟨_,rfl,by rw [add_zero'];exact dH h a⟩,hd,λe=>nomatch e⟩
end Go.Eng
namespace Go.Proofs.Tryz
open Go.Eng Go.Big
open Go.Value renaming slice→qD,bool→dQ,tuple→dB,int→qvZ
variable{V:View}{p q:OA}{c e m n:Nat}{ds xa xb:List Nat}
theorem bw (h:RD V p n c ds)(hm:ds.length<=4611686018427387904:=by omega) :
  aa prog 196 #[qD p n c] V λr V'=>∃k,r=qD p k c/\RD V' p k c (dh ds):=by refine JI V _ ?_;refine ⟨λz V'=>z.1=p/\z.2.2=c/\z.2.1<=ds.length/\dh (ds.take z.2.1)=dh ds/\RD V' p z.2.1 c (ds.take z.2.1),λz=>z.2.1,⟨(p,n,c),⟨rfl,rfl,rfl⟩,rfl,rfl,?_⟩,?_⟩;{have:=h.len;subst this;simp;exact h};{rintro ⟨q,k,i⟩ l m ⟨rfl,rfl,j,e,d⟩;dsimp only at j e d ⊢;refine ⟨rfl,λa=>?_,λa=>?_⟩;{have a:0<k:=by{simpa using a};simp (disch:=omega) only [aw];have o:(ds.take k).length=k:=by{simp;omega};have f:ds.take k=ds.take (k-1)++[ds[k-1]]:=by{rw [←Qy4 (by omega),Qn9 a]};refine d.rd (k-1) (by omega) (by omega) ⟨λb=>?_,λb=>?_⟩;{have b:ds[k-1]=0:=by{simpa using b};refine ⟨⟨by omega,by have:=d.cap;omega⟩,(q,k-1,i),by dsimp only;omega,⟨rfl,by dsimp only;omega,rfl⟩,rfl,rfl,by dsimp only;omega,?_,?_⟩;{dsimp only;rw [←e,f,b,jU]};{have:=d.take (k:=k-1) (by omega);dsimp only;rwa [Wk1,Qj3 (by omega)] at this}};{have b:ds[k-1]≠0:=by{simpa using b};refine λV2 g=>⟨k,rfl,?_⟩;rw [←e,f,tA _ _ b,←f];exact d.le g}};{have a:k=0:=by{simpa using a};subst a;refine λV2 g=>⟨0,rfl,?_⟩;rw [←e];exact d.le g}}
theorem pJ (h:RD V p n c ds)(hm:ds.length<=1099511627776:=by omega) :
  aa prog 226 #[qD p n c] V λr V'=>∃q k c',r=qD q k c'/\RD V' q k c' ds:=by have g:=h.len;refine yU V _ ⟨λf m o=>⟨_,_,_,rfl,?_⟩,λf=>⟨aK ds,h.sl,by simp [g],by omega,by omega,by simp,by simp [g],?_,?_⟩⟩;{have f:p=none:=by{simpa using f};subst f;have:ds=[]:=by{rcases Qy9 ds.length with e|e;{exact Qw8.1 e};{obtain ⟨s,e,-⟩:=h.sl 0 _ (iL e);cases e}};subst this;exact RD.nil};{intro v a;simp only [aK,Qz1] at a;obtain ⟨d,-,rfl⟩:=a;rfl};{intro t J sp c' j u m o b l;refine ⟨_,_,_,rfl,?_⟩;simp only [Qz2,Qc4,Qd4,Qm1] at l j ⊢;exact ⟨g,j,λi v a=>⟨_,rfl,by rw [add_zero'];exact dH l (by rw [Qx0 (by rcases Qz3 i (aK ds).length with e|e;exact e;rw [Qz7 e] at a;cases a)];exact a)⟩,h.gC,λe=>nomatch e⟩}
abbrev RN (V:View)(p:OA)(n c:Nat)(x:Nat):Prop:=RD V p n c (ah x)
theorem kR (h:RD V p n c ds)(hm:ds.length<=1099511627776) :
  aa prog 195 #[qD p n c] V λr V'=>∃q k c',r=qD q k c'/\RN V' q k c' (val ds):=by refine JE V _ λg a=>(bw (h.le a)).s ?_;rintro r V2 i ⟨k,rfl,b⟩;refine ⟨_,_,_,rfl,λj d=>(pJ (b.le d) (by have:=nF ds;omega)).s ?_⟩;rintro r l m ⟨q,o,c',rfl,e⟩;refine ⟨_,_,_,rfl,λs f=>⟨_,_,_,rfl,?_⟩⟩;unfold RN;rw [←aY h.gC];exact e.le f
theorem Fv (h:RD V p n c ds)(hm:ds.length<=1099511627776) :
  aa prog 142 #[qD p n c] V λr V'=>r=dQ (decide (ah (val ds)=ds)):=by have d:=h.len;refine DA V _ ⟨λa e f=>?_,λa=>?_⟩;{have:ds=[]:=Qw8.1 (by simp at a;omega);subst this;rfl};{have a:0<n:=by{simp at a;omega};simp (disch:=omega) only [aw];refine h.rd (n-1) (by omega) (by omega) λe f=>?_;congr 1;rw [Qk7];simp only [bne_iff_ne,ne_eq,decide_eq_true_eq];subst d;constructor;{intro b;exact Ao h.gC (IE λ_=>by simpa using b)};{intro he b;have:xT ds:=by{rw [←he];exact lu _};exact this.last (by omega) (by simpa using b)}}
theorem fI (u:Int)(h0:0<=u)(h1:u<18446744073709551616:=by omega) :
  aa prog 197 #[qvZ .u64 u] V λr V'=>∃q k c',r=qD q k c'/\RN V' q k c' u.toNat:=by obtain ⟨u,rfl⟩:=Qw2 h0;refine yJ V _ ⟨by omega,λe h f a=>?_⟩;rw [uV,kn,vg (by omega)] at a;have a:e.bg f (.cells (aK [u%4294967296,u / 4294967296]).toArray 231 (0,0)):=by{simpa [aK] using a};have d:cP [u%4294967296,u / 4294967296]:=by{simp [cP];omega};refine (bw (RD.bg a d (n:=2) (c:=2) rfl (Qq2 _)) (by simp)).s ?_;rintro r V2 i ⟨k,rfl,b⟩;refine ⟨_,_,_,rfl,λ_ j g=>⟨_,_,_,rfl,?_⟩⟩;rw [aY d] at b;have:val [u%4294967296,u / 4294967296]=(u:Int).toNat:=by{simp;omega};rw [this] at b;exact b.le g
theorem Ed (ha:RD V p n c xa)(hb:RD V q m e xb)(hm:xa.length<=1099511627776)(hn:xb.length<=1099511627776:=by omega) :
  aa prog 225 #[qD p n c,qD q m e] V λr V'=>r=qvZ .i64 (mV (val xa) (val xb)):=by have la:=nF xa;have lb:=nF xb;refine Ly V _ λJ w=>(bw (ha.le w)).s ?_;rintro r V2 D ⟨n,rfl,g⟩;refine ⟨_,_,_,rfl,λK A=>(bw (hb.le (w.m (D.m A)))).s ?_⟩;rintro r L E ⟨m,rfl,j⟩;refine ⟨_,_,_,rfl,?_⟩;replace g:=g.le (A.m E);rw [aY ha.gC] at g la;rw [aY hb.gC] at j lb;generalize val xa=x at *;generalize val xb=y at *;have F:=g.len;have G:=j.len;refine ⟨λh=>⟨λd B C=>?_,λd B C=>?_⟩,λh=>?_⟩;{have:=nq (a:=x) (b:=y) (by simp at d;omega);rw [mV,if_pos this]};{have:=nq (a:=y) (b:=x) (by simp at h d;omega);rw [mV,if_neg (by omega),if_pos this]};{have h:n=m:=by{simp at h;omega};subst h;simp (disch:=omega) only [aw];refine ⟨λz V'=>-1<=z/\z<n/\(ah x).drop (z+1).toNat=(ah y).drop (z+1).toNat,λz=>(z+1).toNat,⟨_,by (try dsimp only);and_intros<;>trivial,by (try dsimp only);omega,by (try dsimp only);omega,?_⟩,?_⟩;{(try dsimp only);rw [Qx8 (by omega),Qx8 (by omega)]};{rintro i M k ⟨o,s,t⟩;dsimp only at o s t ⊢;refine ⟨by trivial,λd=>?_,λd B C=>?_⟩;{have d:0<=i:=by{simpa using d};obtain ⟨i,rfl⟩:=Qw2 d;simp (disch:=omega) only [aw];have f:(ah x).drop (i+1)=(ah y).drop (i+1):=t;refine (g.le k).rd i rfl (by omega) ((j.le k).rd i rfl (by omega) ⟨λu H I=>?_,λu=>?_⟩);{have:=mo (aL x) (by omega) (by omega) f (by simpa using u);rw [af,af] at this;rw [mV,if_pos this]};{refine (g.le k).rd i rfl (by omega) ((j.le k).rd i rfl (by omega) ⟨λv H I=>?_,λv=>?_⟩);{have:=mo (aL y) (by omega) (by omega) f.symm (by simpa using v);rw [af,af] at this;rw [mV,if_neg (by omega),if_pos this]};{refine ⟨_,?_,by (try dsimp only);and_intros<;>trivial,?_,?_,?_⟩;{(try dsimp only);omega};{(try dsimp only);omega};{(try dsimp only);omega};{(try dsimp only);have:((i:Int)-1+1).toNat=i:=by{omega};rw [this,Qw4 (by omega),Qw4 (l:=ah y) (by omega),f];congr 1;simp at u v;omega}}}};{have d:i=-1:=by{simp at d;omega};subst d;have:ah x=ah y:=by{simpa using t};have:=uh this;subst this;simp [mV]}}}
theorem zL {E A B c d x y W:Nat}(h:E+W*c=A+B)(hd:d=c+x+y:=by omega):E+W*(d%4294967296)+W*4294967296*(d / 4294967296)=A+W*x+(B+W*y):=by have a:W*(d%4294967296)+W*4294967296*(d / 4294967296)=W*d:=by{rw [Qn0,←Qb3,Qg3]};rw [Qn4,a,hd,Qb3,Qb3];omega
theorem NN (ha:RD V p n c xa)(hb:RD V q m e xb)(hm:xa.length<=1099511627776)(hn:xb.length<=1099511627776) :
  aa prog 282 #[qD p n c,qD q m e] V λr V'=>∃p' n' c',r=qD p' n' c'/\RN V' p' n' c' (val xa+val xb):=by
 have B:=ha.len;have C:=hb.len;refine Lx V _ ⟨λz V'=>∃xs b,RD V' z.1 z.2.1 z.2.2.1 xs/\RD V' z.2.2.2.1 z.2.2.2.2.1 z.2.2.2.2.2 b/\b.length<=xs.length/\xs.length<=1099511627776/\val xs+val b=val xa+val xb,⟨λD=>?_,λD=>?_⟩,?_⟩
 ·exact ⟨(_,_,_,_,_,_),by (try dsimp only);and_intros<;>trivial,xb,xa,hb,ha,by simp at D;omega,hn,by omega⟩
 ·exact ⟨(_,_,_,_,_,_),by (try dsimp only);and_intros<;>trivial,xa,xb,ha,hb,by simp at D;omega,hm,rfl⟩
 ·rintro ⟨p,n,c,q,m,e⟩ O P ⟨xs,b,x,A,Q,hm,h⟩;dsimp only at x A ⊢;rw [←h];clear h ha hb B C;have L:=x.len;have R:=A.len;simp (disch:=omega) only [aw,dX];have E:((n:Int)+1).toNat=n+1:=by omega
  rw [E]
  refine ⟨by trivial,by omega,by omega,by omega,λz V'=>0<=z.1/\z.1<=1/\0<=z.2.1/\z.2.1<=n/\∃es:pz Nat,z.2.2=aK es/\es.length=n+1/\cP es /\
   val (es.take z.2.1.toNat)+4294967296^z.2.1.toNat*z.1.toNat=val (xs.take z.2.1.toNat)+val (b.take z.2.1.toNat),λz=>n-z.2.1.toNat,⟨(0,0,aK (List.replicate (n+1) 0)),by (try dsimp only);and_intros<;>trivial,by (try dsimp only);omega,by (try dsimp only);omega,by (try dsimp only);omega,by (try dsimp only);omega,_,rfl,by simp,cP.rep _,by simp⟩,?_⟩
  rintro ⟨f,i,S⟩ V2 K ⟨o,F,s,G,es,rfl,H,t,h⟩;dsimp only at o F s G h ⊢;obtain ⟨i,rfl⟩:=Qw2 s;obtain ⟨f,rfl⟩:=Qw2 o;simp only [Qq0] at h;refine ⟨by trivial,λl=>?_,λl=>?_⟩
  ·have l:i<n:=by simpa using l
   refine (x.le K).rd i rfl (by omega) ?_;have T:=x.gC.get (i:=i) (by omega)
   have next:∀d:Nat,d<8589934592->val (es.take i)+4294967296^i*(d%4294967296)+4294967296^i*4294967296*(d / 4294967296)=val (xs.take (i+1))+val (b.take (i+1)) ->
     ∃a:pz Nat,(aK es).set i (qvZ .u32 ((d%4294967296:Nat):Int))=aK a/\a.length=n+1/\cP a /\
     val (a.take (i+1))+4294967296^(i+1)*(d / 4294967296)=val (xs.take (i+1))+val (b.take (i+1)):=by
    intro d U he;refine ⟨es.set i (d%4294967296),bT _ _ _,by simpa using H,t.set _ _ (by omega),?_⟩;rw [aU _ _ _,Qk8];exact he
   refine ⟨λg=>?_,λg=>?_⟩
   ·have g:i<m:=by{simpa using g};refine (A.le K).rd i rfl (by omega) ?_;have M:=A.gC.get (i:=i) (by omega);simp (disch:=omega) only [bq,aw,kn,uV];refine ⟨⟨by omega,by omega⟩,by simp;omega,by omega,(_,_,_),?_,by (try dsimp only);and_intros<;>trivial,?_⟩;{(try dsimp only);omega};{(try dsimp only);have j:((i:Int)+1).toNat=i+1:=by{omega};have ⟨a,u,v,I,J⟩:=next (f+xs[i]+b[i]) (by omega) (by rw [ay _ _,ay _ _];exact zL h rfl);refine ⟨by omega,by omega,by omega,by omega,a,?_,v,I,?_⟩;{rw [←u];simp};{rw [j,←J];congr 2}}
   ·have g:m<=i:=by simpa using g
    simp (disch:=omega) only [bq,aw,kn,uV];refine ⟨⟨by omega,by omega⟩,by simp;omega,by omega,(_,_,_),?_,by (try dsimp only);and_intros<;>trivial,?_⟩
    ·(try dsimp only);omega
    ·(try dsimp only)
     have j:((i:Int)+1).toNat=i+1:=by omega
     have ⟨a,u,v,I,J⟩:=next (f+xs[i]) (by omega) (by
      rw [ay _ _,ao (ds:=b) (i:=i+1)];have:=zL (y:=0) h (d:=f+xs[i]) rfl
      rwa [ao (ds:=b),Qj6,Qj1] at this)
     refine ⟨by omega,by omega,by omega,by omega,a,?_,v,I,?_⟩
     ·rw [←u];simp
     ·rw [j,←J];congr 2
  ·have l:i=n:=by{simp at l;omega};subst l;simp (disch:=omega) only [vg];refine ⟨⟨by omega,by omega⟩,by simp;omega,λW X Y hb=>?_⟩;have u:(aK es).set (0+((i:Int).toNat)*1) (qvZ .u32 (f:Int))=aK (es.set i f):=by{rw [←bT];simp};rw [u] at hb;have w:=t.set i f (by omega);refine (bw (RD.bg hb w (n:=i+1) (c:=i+1) (by simp;omega) (Qq2 _)) (by simp;omega)).s ?_;rintro r Z l4 ⟨k,rfl,g⟩;refine ⟨_,_,_,rfl,λ_ V5 N=>⟨_,_,_,rfl,?_⟩⟩;rw [aY w] at g;have v:val (es.set i f)=val xs+val b:=by{have:=aU es i f;rw [ao (by simp;omega)] at this;rw [this,h,ao,ao]};rw [v] at g;exact g.le N
theorem SQ {E A B x y W:Nat}(h:E+B=A+W*c){v:Int}(hc:c<=1)(hx:x<4294967296)(hy:y<4294967296)(hv:v=((x:Int)-(c+y))%18446744073709551616) :
  0<=v/\v / 9223372036854775808<=1/\0<=v / 9223372036854775808/\E+W*(v%4294967296).toNat+(B+W*y)=A+W*x+W*4294967296*(v / 9223372036854775808).toNat:=by rcases Qz3 x (c+y) with d|d;{have e:v=18446744073709551616+(x:Int)-(c+y):=by{omega};have a:(v / 9223372036854775808).toNat=1:=by{omega};have b:(v%4294967296).toNat+(c+y)=x+4294967296:=by{omega};refine ⟨by omega,by omega,by omega,?_⟩;rw [a,Qk5];have:=congrArg (W*·) b;simp only [Qb3] at this;omega};{have e:v=(x:Int)-(c+y):=by{omega};have a:(v / 9223372036854775808).toNat=0:=by{omega};have b:(v%4294967296).toNat+(c+y)=x:=by{omega};refine ⟨by omega,by omega,by omega,?_⟩;rw [a,Qj6,Qj1];have:=congrArg (W*·) b;simp only [Qb3] at this;omega}
theorem Ko {xs ys:pz Nat}(hx:RD V p n c xs)(hy:RD V q m e ys)(hm:xs.length<=1099511627776)(hl:ys.length<=xs.length)(hle:val ys<=val xs) :
  aa prog 288 #[qD p n c,qD q m e] V λr V'=>∃p' n' c',r=qD p' n' c'/\RN V' p' n' c' (val xs-val ys):=by
 have D:=hx.len;have O:=hy.len
 refine JG V _ ⟨by omega,by omega,by omega,λz V'=>0<=z.1/\z.1<=1/\0<=z.2.1/\z.2.1<=n/\∃es:pz Nat,z.2.2=aK es/\es.length=n/\cP es /\
   val (es.take z.2.1.toNat)+val (ys.take z.2.1.toNat)=val (xs.take z.2.1.toNat)+4294967296^z.2.1.toNat*z.1.toNat,λz=>n-z.2.1.toNat,
   ⟨(0,0,List.replicate n (qvZ .u32 0)),by (try dsimp only);and_intros<;>trivial,by (try dsimp only);omega,by (try dsimp only);omega,by (try dsimp only);omega,by (try dsimp only);omega,List.replicate n 0,dX n,by simp,cP.rep _,by simp⟩,?_⟩
 rintro ⟨j,i,P⟩ V2 B ⟨l,u,o,w,es,rfl,d,a,s⟩;dsimp only at l u o w s ⊢;obtain ⟨i,rfl⟩:=Qw2 o;obtain ⟨j,rfl⟩:=Qw2 l;simp only [Qq0] at s;refine ⟨by trivial,λf=>?_,λf=>?_⟩
 ·have f:i<n:=by{simpa using f};refine (hx.le B).rd i rfl (by omega) ?_;have E:=hx.gC.get (i:=i) (by omega);refine ⟨λz V'=>∃y:Nat,z=j+y/\y<4294967296/\val (ys.take (i+1))=val (ys.take i)+4294967296^i*y,⟨λb=>?_,λb=>?_⟩,?_⟩;{have b:i<m:=by{simpa using b};refine (hy.le B).rd i rfl (by omega) ?_;have g:=hy.gC.get (i:=i) (by omega);simp (disch:=omega) only [bq];exact ⟨_,by (try dsimp only);and_intros<;>trivial,ys[i],rfl,g,ay _ _⟩};{have b:m<=i:=by{simpa using b};exact ⟨_,by (try dsimp only);and_intros<;>trivial,0,by simp,by omega,by rw [ao,ao];simp⟩};{rintro t F G ⟨y,rfl,g,x⟩;refine ⟨by trivial,⟨by omega,by simpa using f⟩,by simp;omega,by omega,?_⟩;simp (disch:=omega) only [bq,aw,yv,kn,SH];obtain ⟨v,C⟩:∃v:Int,v=((xs[i]:Int)-((j:Int)+(y:Int)))%18446744073709551616:=⟨_,rfl⟩;obtain ⟨Q,H,I,J⟩:=SQ s (by omega) E g C;rw [←C];refine ⟨(_,_,_),?_,by (try dsimp only);and_intros<;>trivial,?_⟩;{(try dsimp only);omega};{(try dsimp only);have A:((i:Int)+1).toNat=i+1:=by{omega};refine ⟨I,H,by omega,by omega,es.set i (v%4294967296).toNat,?_,by simpa using d,a.set _ _ (by omega),?_⟩;{rw [←bT];congr 2;{simp};{omega}};{rw [A,aU _ _ _,x,J,ay _ _,Qk8]}}}
 ·have f:i=n:=by{simp at f;omega};subst f;intro F G R K;refine (bw (RD.bg K a (n:=i) (c:=i) d.symm (Qq2 _))).s ?_;rintro r S T ⟨k,rfl,b⟩;refine ⟨_,_,_,rfl,λ_ U L=>⟨_,_,_,rfl,?_⟩⟩;rw [aY a] at b;rw [ao,ao,ao] at s;have M:=iN a;rw [d] at M;have N:j=0:=by{rcases Qy9 j with h|h;{exact h};{have:4294967296^i*1<=4294967296^i*j:=Qz8 _ h;omega}};subst N;rw [show val es=val xs-val ys from by omega] at b;exact b.le L
theorem iF {a b:Nat}:mV a b<0↔a<b:=by unfold mV;split;{simp;omega};{split<;>simp<;>omega}
theorem mW {a b:Nat}:mV a b=0↔a=b:=by unfold mV;split;{simp;omega};{split;{simp;omega};{simp;omega}}
theorem Eg (ha:RD V p n c xa)(hb:RD V q m e xb)(hm:xa.length<=1099511627776)(hn:xb.length<=1099511627776) :
  aa prog 283 #[qD p n c,qD q m e] V λr V'=>∃p' n' c',r=dB #[qD p' n' c',dQ (decide (val xb<=val xa))]/\RN V' p' n' c' (val xa-val xb):=by refine LD V _ λu b=>(Ed (ha.le b) (hb.le b) hm hn).s ?_;rintro r V2 f rfl;refine ⟨_,rfl,λa l d=>?_,λa l d=>?_⟩;{have a:val xa<val xb:=by{simpa [iF] using a};rw [Nat.sub_eq_zero_of_le (by omega),decide_eq_false (by omega)];exact ⟨_,_,_,rfl,RD.nil⟩};{have a:val xb<=val xa:=by{simpa [←Wq4,iF] using a};rw [decide_eq_true a];refine (bw ((ha.le b).le (f.m d))).s ?_;rintro r v o ⟨w,rfl,g⟩;refine ⟨_,_,_,rfl,λx h=>(bw ((hb.le b).le (f.m (d.m (o.m h))))).s ?_⟩;rintro r y s ⟨z,rfl,i⟩;rw [aY ha.gC] at g;rw [aY hb.gC] at i;have:=bH ha.gC;refine ⟨_,_,_,rfl,λA j=>(Ko (g.le (h.m (s.m j))) (i.le j) (by omega) (aO a) (by rw [af,af];exact a)).s ?_⟩;rintro r B C ⟨p',n',c',rfl,k⟩;rw [af,af] at k;exact ⟨_,_,_,rfl,λD t=>⟨_,_,_,rfl,k.le t⟩⟩}
end Go.Proofs.Tryz
namespace Go.Proofs.Tryz
open Go.Eng Go.Shelf
def vI {k : Nat}{f B : Func}(h : prog.funcs[k]? = some f)(hn : (f.name == "runtime.NumGoroutine") = false := by kernel_rfl)(e : f = { B with name := f.name } := by kernel_rfl) : Bears prog k B := ⟨_, hn, h.m (congrArg some e)⟩
def NB {k:Nat}{f B:Func}(h:prog.funcs[k]?=some f)(e:f=B:=by kernel_rfl):prog.funcs[k]?=some B:=h.m (congrArg some e)
abbrev Yy:Ren:=⟨λ|6=>165|15=>206|14=>205|28=>246|29=>247|20=>238|21=>239|22=>240|23=>241|24=>242|25=>243|26=>244|27=>245|46=>273|47=>274|48=>275|49=>276|50=>277|57=>287|n=>n,λ|22=>193|24=>97|25=>258|3=>3|39=>232|0=>0|53=>231|55=>230|4=>4|46=>335|45=>334|50=>339|5=>5|9=>9|66=>357|70=>361|76=>371|77=>372|n=>n,λn=>n⟩
def EY:SlLaysF0.n6 prog Yy:=
 ⟨by kernel_rfl,vI func165,vI func205,NB func206,vI func238,vI func239,vI func240,vI func241,vI func242,vI func243,vI func244,vI func245,NB func246,NB func247,vI func273,NB func274,NB func275,vI func276,vI func277,vI func287,underlying0,isAgg0,sizeOf0,zeroValue0,underlying3,isAgg3,sizeOf3,zeroValue3,underlying4,isAgg4,sizeOf4,zeroValue4,underlying5,isAgg5,sizeOf5,zeroValue5,underlying9,isAgg9,sizeOf9,zeroValue9,underlying193,isAgg193,sizeOf193,zeroValue193,underlying258,isAgg258,sizeOf258,zeroValue258,underlying232,isAgg232,sizeOf232,zeroValue232,underlying334,isAgg334,sizeOf334,zeroValue334,underlying335,isAgg335,sizeOf335,zeroValue335,underlying339,isAgg339,sizeOf339,zeroValue339,underlying231,isAgg231,sizeOf231,zeroValue231,underlying230,isAgg230,sizeOf230,zeroValue230,underlying357,isAgg357,sizeOf357,zeroValue357,underlying361,isAgg361,sizeOf361,zeroValue361,underlying371,isAgg371,sizeOf371,zeroValue371,underlying372,isAgg372,sizeOf372,zeroValue372⟩
def aggL:∀w,(isAgg (Yy.t 24)).run prog w=.ok true w:=isAgg97
def sizL:∀w,(Go.sizeOf (Yy.t 24)).run prog w=.ok 9 w:=sizeOf97
abbrev Yx:Ren:=⟨λ|6=>202|15=>206|14=>237|28=>246|29=>247|20=>265|21=>266|22=>267|23=>268|24=>269|25=>270|26=>271|27=>272|46=>284|47=>274|48=>275|49=>285|50=>286|57=>289|n=>n,λ|22=>299|24=>302|25=>304|3=>3|39=>232|0=>0|53=>231|55=>230|4=>4|46=>335|45=>334|50=>339|5=>5|9=>9|66=>357|70=>361|76=>371|77=>372|n=>n,λn=>n⟩
def EX:SlLaysF0.n6 prog Yx:=
 ⟨by kernel_rfl,vI func202,vI func237,NB func206,vI func265,vI func266,vI func267,vI func268,vI func269,vI func270,vI func271,vI func272,NB func246,NB func247,vI func284,NB func274,NB func275,vI func285,vI func286,vI func289,underlying0,isAgg0,sizeOf0,zeroValue0,underlying3,isAgg3,sizeOf3,zeroValue3,underlying4,isAgg4,sizeOf4,zeroValue4,underlying5,isAgg5,sizeOf5,zeroValue5,underlying9,isAgg9,sizeOf9,zeroValue9,underlying299,isAgg299,sizeOf299,zeroValue299,underlying304,isAgg304,sizeOf304,zeroValue304,underlying232,isAgg232,sizeOf232,zeroValue232,underlying334,isAgg334,sizeOf334,zeroValue334,underlying335,isAgg335,sizeOf335,zeroValue335,underlying339,isAgg339,sizeOf339,zeroValue339,underlying231,isAgg231,sizeOf231,zeroValue231,underlying230,isAgg230,sizeOf230,zeroValue230,underlying357,isAgg357,sizeOf357,zeroValue357,underlying361,isAgg361,sizeOf361,zeroValue361,underlying371,isAgg371,sizeOf371,zeroValue371,underlying372,isAgg372,sizeOf372,zeroValue372⟩
def aggC:∀w,(isAgg (Yx.t 24)).run prog w=.ok true w:=isAgg302
def sizC:∀w,(Go.sizeOf (Yx.t 24)).run prog w=.ok 5 w:=sizeOf302
abbrev Rf:Ren:=⟨λ|133=>222|128=>246|n=>n,λ|51=>231|3=>3|4=>4|46=>232|5=>5|9=>9|n=>n,λn=>n⟩
def Iz:Lays.n133 prog Rf:=
 ⟨by kernel_rfl,NB func246,NB func222,underlying3,isAgg3,sizeOf3,zeroValue3,underlying4,isAgg4,sizeOf4,zeroValue4,underlying5,isAgg5,sizeOf5,zeroValue5,underlying9,isAgg9,sizeOf9,zeroValue9,underlying232,isAgg232,sizeOf232,zeroValue232,underlying231,isAgg231,sizeOf231,zeroValue231⟩
abbrev Ot:Ren:=⟨λ|264=>280|n=>n,λ|53=>230|46=>232|n=>n,λn=>n⟩
def EK:Lays.n264 prog Ot:=
 ⟨by kernel_rfl,NB func280,underlying232,isAgg232,sizeOf232,zeroValue232,underlying230,isAgg230,sizeOf230,zeroValue230⟩
end Go.Proofs.Tryz
namespace Go.Big
def dP (n:Nat):Nat:=if n=0 then 0 else n.log2+1
def uD (n:Nat):n<2^dP n:=by unfold dP;split;{subst_vars;decide};{exact Nat.lt_log2_self}
def zo {n:Nat}(h:n≠0):2^(dP n-1)<=n:=by unfold dP;rw [if_neg h];exact Nat.log2_self_le h
def Hp {n b:Nat}(h0:n<2^b)(h1:b=0\/2^(b-1)<=n):dP n=b:=by rcases h1 with h1|h1;{subst h1;have:n=0:=by{simpa using h0};subst this;rfl};{have a:n≠0:=by{have:=Qk3 (b-1);omega};have c:=uD n;have d:=zo a;have e:¬dP n<b:=λh=>by{have:=Qx5 (n:=2) (by omega) (show dP n<=b-1 by omega);omega};have f:¬b<dP n:=λh=>by{have:=Qx5 (n:=2) (by omega) (show b<=dP n-1 by omega);omega};omega}
def lV {n b:Nat}:dP n<=b↔n<2^b:=by constructor;{intro h;exact Qy6 (uD n) (Qx5 (by omega) h)};{intro h;rcases Qz3 b (dP n) with a|a;{have c:n≠0:=by{intro e;subst e;simp [dP] at a};have:=zo c;have:=Qx5 (n:=2) (by omega) (show b<=dP n-1 by omega);omega};{exact a}}
end Go.Big
namespace Go.Proofs.Tryz
open Go.Eng Go.Big Go.Proofs Go.Shelf
open Go.Value renaming tuple→dB,int→qvZ
variable{V:View}
theorem kX (a k:Nat):((a:Nat):Int).fdiv (2^k)=((a / 2^k:Nat):Int):=by grind
theorem D1 {f:FuncId}{args:Array un}{V:ut}{v:un}(hc:iC prog f)(h:Calls prog f args V.w λe w'=>e=.returned v/\w'=V.w):aa prog f args V λr _=>r=v:=
 ⟨hc,h.s λe w' ⟨a,b⟩=>by subst b;exact ⟨v,a,iP.refl _ _,rfl⟩⟩
theorem lt_bl:∀x:Nat,x<2^64->x<2^Lib.bitLen x:=by
 intro x
 induction x using Nat.strongRecOn<;>grind [Lib.bitLen_half]
theorem ZS {x:Nat}(h:x<2^64:=by omega):Lib.bitLen x=dP x:=
 Nat.le_antisymm (Lib.bitLen_le x _ (lV.2 h) (uD x)) (lV.2 (lt_bl x h))
theorem iV (x:Nat)(hx:x<4294967296) :
  aa prog 222 #[qvZ .u32 (x:Int)] V λr V'=>r=qvZ .i64 (32-(dP x:Int)):=by have h:=D1 (V:=V) ⟨_,Iz.f133,rfl,by kernel_rfl⟩ (Any.bits_LeadingZeros32 Iz (x:Int) V.w (by omega) (by omega));rw [Qq0,ZS] at h;exact h
theorem ZE (a:Nat)(ha:a<18446744073709551616:=by omega):b_ .and .u64 (a:Int) 4294967295=((a%4294967296:Nat):Int):=by rw [b_,yv];have b:(BitVec.ofInt IntKind.u64.bits ((a:Nat):Int) &&& BitVec.ofInt IntKind.u64.bits 4294967295).toNat=a%4294967296:=by{show (BitVec.ofInt 64 ((a:Nat):Int) &&& BitVec.ofInt 64 ((4294967295:Nat):Int)).toNat=_;rw [Qj4,Qj4,BitVec.toNat_and,Qj9,Qj9,Qx9 (by omega),Qx9 (by omega)];have:=Nat.and_two_pow_sub_one_eq_mod a 32;exact this};omega
theorem TL (x y:Nat)(hx:x<18446744073709551616)(hy:y<18446744073709551616:=by omega) :
  aa prog 280 #[qvZ .u64 (x:Int),qvZ .u64 (y:Int)] V λr V'=>r=dB #[qvZ .u64 ((x*y / 18446744073709551616:Nat):Int),qvZ .u64 ((x*y%18446744073709551616:Nat):Int)]:=
 D1 (V:=V) ⟨_,EK.f264,rfl,by kernel_rfl⟩ (Any.bits_Mul64 EK x y hx hy V.w)
theorem TH (x y c:Nat)(hx:x<4294967296)(hy:y<4294967296)(hc:c<4294967296:=by omega) :
  aa prog 219 #[qvZ .u32 (x:Int),qvZ .u32 (y:Int),qvZ .u32 (c:Int)] V λr V'=>r=dB #[qvZ .u32 (((x+y+c)%4294967296:Nat):Int),qvZ .u32 (((x+y+c) / 4294967296:Nat):Int)]:=by refine tD V _ ⟨by omega,λd e=>?_⟩;simp (disch:=omega) only [bq,kn,uV];have a:((x:Int)+y+c)%4294967296=(((x+y+c)%4294967296:Nat):Int):=by{omega};have b:((x:Int)+y+c) / 4294967296%4294967296=(((x+y+c) / 4294967296:Nat):Int):=by{omega};rw [a,b]
end Go.Proofs.Tryz
namespace Go.Proofs.Tryz
open Go.Eng Go.Big
open Go.Value renaming slice→qD,bool→dQ,tuple→dB,int→qvZ
variable{V:View}{p:OA}{c n r:Nat}{ds:List Nat}
theorem R6 (a b:Nat)(ha:a<4294967296)(hb:b<4294967296):b_ .or .u64 (b:Int) ((a:Int)*4294967296)=(b:Int)+(a:Int)*4294967296:=by have h:b_ .or .u64 (b:Int) ((a:Int)*4294967296)=b_ .or .u64 ((a:Int)*4294967296) (b:Int):=by{simp only [b_,BitVec.or_comm]};rw [h,IM a b ha hb];omega
theorem or64z (b:Nat)(hb:b<4294967296):b_ .or .u64 0 (b:Int)=b:=by have:=IM 0 b (by omega) hb;simpa using this
theorem nQ (h:RD V p n c ds)(hm:ds.length<=1099511627776:=by omega) :
  aa prog 193 #[qD p n c] V λr V'=>r=dB #[qvZ .u64 ((if val ds<18446744073709551616 then val ds else 0:Nat):Int),dQ (decide (val ds<18446744073709551616))]:=by refine JF V _ λy q=>(bw (h.le q)).s ?_;rintro r V2 A ⟨n,rfl,e⟩;rw [aY h.gC] at e;generalize val ds=x at *;have B:=e.len;have C:(ah x).length<=2↔x<18446744073709551616:=aN (k:=2);refine ⟨_,_,_,rfl,λa D E=>?_,λa=>?_⟩;{have a:¬x<18446744073709551616:=by{simp at a;omega};rw [if_neg a,decide_eq_false a];rfl};{have m:x<18446744073709551616:=by{simp at a;omega};rw [if_pos m,decide_eq_true m];have F:n<=2:=by{omega};refine ⟨λz V'=>0<=z.2/\z.2<=n/\z.1=(val ((ah x).take z.2.toNat):Int),λz=>n-z.2.toNat,⟨(0,0),by (try dsimp only);and_intros<;>trivial,by (try dsimp only);omega,by (try dsimp only);omega,by simp⟩,?_⟩;rintro ⟨u,i⟩ G s ⟨d,f,hu⟩;dsimp only at d f hu ⊢;subst hu;obtain ⟨i,rfl⟩:=Qw2 d;simp only [Qq0];refine ⟨by trivial,λb=>?_,λb H I=>?_⟩;{have b:i<n:=by{simpa using b};refine (e.le s).rd i rfl (by omega) ?_;have o:=(aL x).get (i:=i) (by omega);simp (disch:=omega) only [aw];refine ⟨by omega,(_,_),?_,by (try dsimp only);and_intros<;>trivial,?_⟩;{(try dsimp only);omega};{(try dsimp only);refine ⟨by omega,by omega,?_⟩;have g:((i:Int)+1).toNat=i+1:=by{omega};rw [g,ay _ _];have t:i=0\/i=1:=by{omega};rcases t with rfl|rfl;{simp (disch:=omega) only [bq];have j:(min ((32:Int)*((0:Nat):Int)).toNat IntKind.u64.bits)=0:=by{decide};rw [j];simp (disch:=omega) only [bq,Int.pow_zero,Int.mul_one,Qd4,gi,Nat.pow_zero,Qd1,Qz2];exact or64z _ o};{have j:(min ((32:Int)*((1:Nat):Int)).toNat IntKind.u64.bits)=32:=by{decide};have a:0<(ah x).length:=by{omega};have l:=(aL x).get (i:=0) a;have v:(ah x).take 1=[(ah x)[0]]:=by{rw [Qy4 a];rfl};have w:((2:Int)^32)=4294967296:=by{decide};rw [j,v,w];simp (disch:=omega) only [bq];simp only [bO,gi,Qj6,Qj1];rw [R6 _ _ o l];omega}}};{have b:i=n:=by{simp at b;omega};subst b;rw [ao,af]}}
theorem kQ (h:RD V p n c ds)(hm:ds.length<=1099511627776) :
  aa prog 189 #[qD p n c] V λr V'=>r=qvZ .i64 (dP (val ds):Int):=by have k:=bH h.gC;refine JD V _ λt l=>(bw (h.le l)).s ?_;rintro r V2 u ⟨n,rfl,g⟩;rw [aY h.gC] at g;generalize val ds=x at *;have m:=g.len;refine ⟨_,_,_,rfl,λf v w=>?_,λf=>?_⟩;{have:ah x=[]:=Qw8.1 (by simp at f;omega);have:=bR.1 this;subst this;rfl};{have f:0<n:=by{simp at f;omega};simp (disch:=omega) only [aw];refine g.rd (n-1) (by omega) (by omega) λy z=>(iV _ ((aL x).get (by omega))).s ?_;rintro r A B rfl;refine ⟨_,rfl,λC D=>?_⟩;have E:=(aL x).get (i:=n-1) (by omega);have a:(ah x)[n-1]≠0:=by{have:=(lu x).last (by omega);simpa [m] using this};have F:dP (ah x)[n-1]<=32:=lV.2 (by omega);simp (disch:=omega) only [aw];have key:dP x=32*(n-1)+dP (ah x)[n-1]:=by{have e:=ji (ah x) (n-1) (by omega);rw [af,Qx8 (by omega)] at e;simp only [gi,Qj6,Qj1] at e;have b:=iN ((aL x).take (n-1));rw [Qq7,Qj3 (by omega)] at b;have j:(4294967296:Nat)^(n-1)=2^(32*(n-1)):=by{rw [Wq8]};rw [j] at e b;generalize (ah x)[n-1]=d at *;have o:=uD d;have q:=zo a;have s:0<dP d:=by{unfold dP;rw [if_neg a];omega};refine Hp ?_ (.inr ?_);{rw [Qz9];have:2^(32*(n-1))*(d+1)<=2^(32*(n-1))*2^dP d:=Qz8 _ o;rw [Qb3,Qk5] at this;omega};{rw [show 32*(n-1)+dP d-1=32*(n-1)+(dP d-1) from by omega,Qz9];have:2^(32*(n-1))*2^(dP d-1)<=2^(32*(n-1))*d:=Qz8 _ q;omega}};rw [key];congr 1;omega}
theorem IC {E S t x y e Y B D:Nat}(h:E+B*D*c=S+B*x*Y)(ht:t=c+x*y+e) :
  E+B*D*(t%4294967296)+B*D*4294967296*(t / 4294967296)=S+B*D*e+B*x*(Y+D*y):=by have a:B*D*(t%4294967296)+B*D*4294967296*(t / 4294967296)=B*D*t:=by{rw [Qn0 (B*D),←Qb3,Qg3]};rw [Qn4,a,ht];grind
theorem iY {q:OA}{m e:Nat}{xa xb:pz Nat}(ha:RD V p n c xa)(hb:RD V q m e xb)(hm:xa.length+xb.length<=1099511627776:=by omega) :
  aa prog 146 #[qD p n c,qD q m e] V λr V'=>∃p' n' c',r=qD p' n' c'/\RN V' p' n' c' (val xa*val xb):=by
 have la:=bH ha.gC;have lb:=bH hb.gC;refine LA V _ λV1 O=>(bw (ha.le O)).s ?_;rintro r V2 U ⟨n,rfl,o⟩;rw [aY ha.gC] at o;refine ⟨_,_,_,rfl,λV3 P=>(bw (hb.le (O.m (U.m P)))).s ?_⟩;rintro r V4 W ⟨m,rfl,E⟩;rw [aY hb.gC] at E
 replace o:=o.le (P.m W)
 have X:=o.len;have EF:=E.len;have u:val xa=val (ah (val xa)):=(af _).symm;have v:val xb=val (ah (val xb)):=(af _).symm;rw [u,v];clear u v;generalize ah (val xa)=xs at *;generalize ah (val xb)=ys at *;refine ⟨_,_,_,rfl,?_⟩;simp (disch:=omega) only [aw,dX];have G:((n:Int)+m).toNat=n+m:=by omega
 rw [G]
 refine ⟨by omega,by omega,by omega,λz V'=>0<=z.1/\z.1<=n/\∃es:pz Nat,z.2=aK es/\es.length=n+m/\cP es /\
  val (es.take (z.1.toNat+m))=val (xs.take z.1.toNat)*val ys,λz=>n-z.1.toNat,⟨(0,aK (List.replicate (n+m) 0)),by (try dsimp only);and_intros<;>trivial,by (try dsimp only);omega,by (try dsimp only);omega,_,rfl,by simp,cP.rep _,by simp [zD,Qp9]⟩,?_⟩
 rintro ⟨i,Y⟩ V5 Q ⟨w,H,es,rfl,I,g,y⟩;dsimp only at w H y ⊢;obtain ⟨i,rfl⟩:=Qw2 w;simp only [Qq0] at y;refine ⟨by trivial,λs=>?_,λs=>?_⟩
 ·have s:i<n:=by simpa using s
  refine (o.le Q).rd i rfl (by omega) ?_;have CH:=o.gC.get (i:=i) (by omega)
  refine ⟨λz V'=>0<=z.1/\z.1<=4294967295/\0<=z.2.1/\z.2.1<=m/\∃a:pz Nat,z.2.2=aK a/\a.length=n+m/\cP a/\a.drop (i+z.2.1.toNat)=es.drop (i+z.2.1.toNat) /\
   val (a.take (i+z.2.1.toNat))+4294967296^(i+z.2.1.toNat)*z.1.toNat=val (es.take (i+z.2.1.toNat))+4294967296^i*xs[i]*val (ys.take z.2.1.toNat),λz=>m-z.2.1.toNat,
   ⟨(0,0,aK es),by (try dsimp only);and_intros<;>trivial,by (try dsimp only);omega,by (try dsimp only);omega,by (try dsimp only);omega,by (try dsimp only);omega,es,rfl,I,g,rfl,by simp⟩,?_⟩
  rintro ⟨F,k,Y⟩ Z R ⟨A,J,B,K,a,rfl,C,h,f,hw⟩;dsimp only at A J B K f hw ⊢;obtain ⟨k,rfl⟩:=Qw2 B;obtain ⟨F,rfl⟩:=Qw2 A;simp only [Qq0] at f hw;refine ⟨by trivial,λd=>?_,λd=>?_⟩
  ·have d:k<m:=by{simpa using d};refine (E.le (Q.m R)).rd k rfl (by omega) ?_;have a0:=E.gC.get (i:=k) (by omega);have S:=h.get (i:=i+k) (by omega);have L:a[i+k]'(by omega)=es[i+k]'(by omega):=by{have T:a[i+k]?=es[i+k]?:=by{have:=congrArg (λl=>l[0]?) f;simpa [Qn8] using this};rw [Qq1 (by omega),Qq1 (by omega)] at T;exact Qb8 T};simp (disch:=omega) only [aw];have j:((i:Int)+k).toNat=i+k:=by{omega};rw [j];refine ⟨⟨by omega,by omega⟩,((a[i+k]'(by omega):Nat):Int),by rw [Qz2,Qk5];exact iL (by omega),⟨by omega,by omega⟩,by simp;omega,by omega,?_⟩;have a1:xs[i]*ys[k]<=4294967295*4294967295:=Qf8 (by omega) (by omega);have Yk:(xs[i]:Int)*(ys[k]:Int)=((xs[i]*ys[k]:Nat):Int):=by{simp};obtain ⟨t,ht⟩:∃t:Nat,t=F+xs[i]*ys[k]+a[i+k]'(by omega):=⟨_,rfl⟩;rw [Qz9] at hw;have b:=IC hw ht;have e1:u64.wrap ((F:Int)+u64.wrap (u64.wrap (u64.wrap (xs[i]:Int)*u64.wrap (ys[k]:Int))+u64.wrap ((a[i+k]'(by omega):Nat):Int)))=(t:Int):=by{clear b;generalize xs[i]*ys[k]=pq at *;rw [bq (x:=(xs[i]:Int)) (by omega),bq (x:=(ys[k]:Int)) (by omega),Yk,bq (x:=((pq:Nat):Int)) (by omega)];simp (disch:=omega) only [bq];omega};rw [e1,kn,uV];refine ⟨(_,_,_),?_,by (try dsimp only);and_intros<;>trivial,?_⟩;{(try dsimp only);omega};{(try dsimp only);have D:((k:Int)+1).toNat=k+1:=by{omega};refine ⟨by omega,by omega,by omega,by omega,a.set (i+k) (t%4294967296),?_,by simpa using C,h.set _ _ (by omega),?_,?_⟩;{rw [←bT];simp};{rw [D,Qb4 (by omega)];have:=congrArg (List.drop 1) f;simpa [Qh3,Ww8,Qn4,Nat.add_left_comm] using this};{rw [D,show i+(k+1)=i+k+1 from by omega,aU _ _ _,ay es (i+k),ay ys k,←L,Qk8];have e2:((t:Int) / 4294967296).toNat=t / 4294967296:=by{omega};rw [e2,Qz9,b]}}
  ·have d:k=m:=by{simp at d;omega};subst d;simp (disch:=omega) only [aw];have j:((i:Int)+k).toNat=i+k:=by{omega};rw [j];refine ⟨⟨by omega,by omega⟩,by simp;omega,(_,_),?_,by (try dsimp only);and_intros<;>trivial,?_⟩;{(try dsimp only);omega};{(try dsimp only);have M:((i:Int)+1).toNat=i+1:=by{omega};refine ⟨by omega,by omega,a.set (i+k) F,?_,by simpa using C,h.set _ _ (by omega),?_⟩;{rw [←bT,vg (by omega)];simp};{rw [M,show i+1+k=i+k+1 from by omega,aU _ _ _,hw,y,ay xs i,ao (ds:=ys)];grind}}
 ·have s:i=n:=by{simp at s;omega};subst s;intro Z R bk N;refine (bw (RD.bg N g (n:=i+m) (c:=i+m) (by omega) (Qq2 _))).s ?_;rintro r V7 l7 ⟨k,rfl,d⟩;refine ⟨_,_,_,rfl,λ_ V8 l8=>⟨_,_,_,rfl,?_⟩⟩;rw [aY g] at d;rw [ao,ao] at y;rw [y] at d;exact d.le l8
theorem BC {x A d q rest B W:Nat}(hA:A=d*B+rest)(h:d*q+r=rest*W+x):x+W*A=d*(q+W*B)+r:=by subst hA;grind
theorem HD {xs:pz Nat}(hx:RD V p n c xs)(hm:xs.length<=1099511627776)(d:Nat)(hd0:d≠0)(hd:d<4294967296) :
  aa prog 227 #[qD p n c,qvZ .u32 (d:Int)] V λr V'=>∃p' n' c',r=dB #[qD p' n' c',qvZ .u32 ((val xs%d:Nat):Int)]/\RN V' p' n' c' (val xs / d):=by
 have w:=hx.len;refine GJ V _ ⟨by omega,by omega,by omega,?_⟩;simp (disch:=omega) only [aw,bq,Qq0,dX]
 refine ⟨λz V'=>0<=z.1/\z.1<d/\-1<=z.2.1/\z.2.1<n/\∃es:pz Nat,z.2.2=aK es/\es.length=n/\cP es /\
   val (xs.drop (z.2.1+1).toNat)=d*val (es.drop (z.2.1+1).toNat)+z.1.toNat,λz=>(z.2.1+1).toNat,
   ⟨(0,(n:Int)-1,aK (List.replicate n 0)),by (try dsimp only);and_intros<;>trivial,by (try dsimp only);omega,by (try dsimp only);omega,by (try dsimp only);omega,by (try dsimp only);omega,_,rfl,by simp,cP.rep _,?_⟩,?_⟩
 ·(try dsimp only);rw [Qx8 (by omega),Qx8 (by simp)];rfl
 rintro ⟨rest,i,G⟩ V2 x ⟨f,g,h,j,es,rfl,m,b,a⟩;dsimp only at f g h j a ⊢;obtain ⟨rest,rfl⟩:=Qw2 f;refine ⟨by trivial,λe=>?_,λe=>?_⟩
 ·have e:0<=i:=by{simpa using e};obtain ⟨i,rfl⟩:=Qw2 e;have o:((i:Int)+1).toNat=i+1:=by{omega};rw [o] at a;simp only [Qq0] at a;refine ⟨by omega,(hx.le x).rd i rfl (by omega) ?_⟩;have y:=hx.gC.get (i:=i) (by omega);have s:b_ .or .u64 (u64.wrap ((rest:Int)*2^32)) (u64.wrap ((xs[i]:Nat):Int))=((rest*4294967296+xs[i]:Nat):Int):=by{have A:((2:Int)^32)=4294967296:=by{decide};rw [A,bq (by omega),bq (by omega),IM _ _ (by omega) y];omega};rw [s];have t:((rest*4294967296+xs[i]:Nat):Int).tdiv (d:Int)=(((rest*4294967296+xs[i]) / d:Nat):Int):=by{rw [Qj2 (by omega)];omega};have B:((rest*4294967296+xs[i]:Nat):Int).tmod (d:Int)=(((rest*4294967296+xs[i])%d:Nat):Int):=by{rw [Qk2 (by omega)];omega};rw [t,B];have H:(rest*4294967296+xs[i]) / d<4294967296:=by{rw [Qb2 (by omega)];have:rest+1<=d:=by{omega};have:=Qw0 4294967296 this;rw [Qv5 4294967296 d];omega};have I:(rest*4294967296+xs[i])%d<d:=Qj7 _ (by omega);have C:=Qc5 (rest*4294967296+xs[i]) d;generalize (rest*4294967296+xs[i]) / d=q at *;generalize (rest*4294967296+xs[i])%d=r at *;simp (disch:=omega) only [bq,vg,aw];refine ⟨by omega,⟨by omega,by omega⟩,by simp;omega,by omega,?_⟩;refine ⟨((r:Int),(i:Int)-1,aK (es.set i q)),?_,?_,?_⟩;{(try dsimp only);omega};{(try dsimp only);(and_intros<;>first|trivial|(rw [←bT];simp))};{(try dsimp only);refine ⟨by omega,by omega,by omega,by omega,_,rfl,by simpa using m,b.set _ _ (by omega),?_⟩;have u:((i:Int)-1+1).toNat=i:=by{omega};rw [u,Qw4 (by omega),Qw4 (l:=es.set i q) (by simp;omega),Qf5,Qb4 (by omega)];have D:xs[i]+4294967296*val (List.drop (i+1) xs)=d*(q+4294967296*val (List.drop (i+1) es))+r:=BC a C;rw [bO,bO,Qq0];exact D}
 ·have e:i=-1:=by{simp at e;omega};subst e;simp only [Qq0] at a;have a:val xs=d*val es+rest:=by{simpa using a};intro J K L E;refine (bw (RD.bg E b (n:=n) (c:=n) (by omega) (Qq2 _))).s ?_;rintro r M N ⟨k,rfl,v⟩;refine ⟨_,_,_,rfl,λ_ O F=>?_⟩;have s:val xs / d=val es:=by{rw [a,Wz3 (by omega),Qj8 (by omega),Qj1]};have t:val xs%d=rest:=by{rw [a,Wz4,Qx9 (by omega)]};rw [vg (by omega),s,t];rw [aY b] at v;exact ⟨_,_,_,rfl,v.le F⟩
theorem KZ (a b:Nat)(ha:a<4294967296)(hb:b<4294967296:=by omega):b_ .or .u32 (a:Int) (b:Int)=((a ||| b:Nat):Int):=by rw [b_,kn];have c:(BitVec.ofInt IntKind.u32.bits ((a:Nat):Int) ||| BitVec.ofInt IntKind.u32.bits (b:Int)).toNat=a ||| b:=by{show (BitVec.ofInt 32 ((a:Nat):Int) ||| BitVec.ofInt 32 (b:Int)).toNat=_;rw [Qj4,Qj4,Wz2,Qj9,Qj9,Qx9 (by omega),Qx9 (by omega)]};have d:a ||| b<2^32:=Wx7 (by omega) (by omega);rw [c];omega
theorem YO {m:Nat}(h:c<2^r):c ||| m*2^r=c+m*2^r:=by rw [Nat.or_comm,←Wy7,←Qt3 h,Ww8]
theorem Jf {d:Nat}(hd:d<4294967296)(hr:r<32)(hc:c<2^r) :
  c ||| (d*2^r%4294967296)=c+d*2^r%4294967296/\c+d*2^r%4294967296<4294967296/\d*2^r / 4294967296<2^r/\d*2^r<18446744073709551616:=by have e:4294967296=2^(32-r)*2^r:=by{rw [←Qz9,Qn9 (by omega)]};have a:d*2^r%4294967296=(d%2^(32-r))*2^r:=by{rw [e,Nat.mul_mod_mul_right]};have f:d%2^(32-r)+1<=2^(32-r):=Qj7 _ (Qk3 _);have b:=Qw0 (2^r) f;have h:2^r<=2^31:=Qx5 (by omega) (by omega);have g:d*2^r<4294967296*2^r:=Qm6 hd (Qk3 _);refine ⟨by rw [a,YO hc],?_,?_,by omega⟩;{rw [a];rw [Qk1,Qd1] at b;rw [←e] at b;omega};{rw [Qb2 (by omega),Qv5 (2^r)];exact g}
theorem Ef (h:RD V p n c ds)(hm:ds.length<=1099511627776)(k:Nat)(hk:k<=1048576:=by omega) :
  aa prog 254 #[qD p n c,qvZ .u64 (k:Int)] V λr V'=>∃p' n' c',r=qD p' n' c'/\RN V' p' n' c' (val ds*2^k)/\(val ds=0\/c'=(ah (val ds)).length+k / 32+1):=by
 have H:=bH h.gC;refine LB V _ λY I=>(bw (h.le I)).s ?_;rintro r V2 Z ⟨n,rfl,q⟩;rw [aY h.gC] at q;generalize hxv:val ds=x at *;have hl:=q.len;refine ⟨_,_,_,rfl,λo V3 l3=>?_,λo=>?_⟩
 ·have:ah x=[]:=Qw8.1 (by simp at o;omega);have:=bR.1 this;subst this;rw [Qc4];exact ⟨_,_,_,rfl,RD.nil,.inl rfl⟩
 ·have o:0<n:=by simp at o;omega
  have D:cK (k:Int) 1048576=k:=by unfold cK;rw [if_neg (by omega)]
  have E:(k:Int).tdiv 32=((k / 32:Nat):Int):=by rw [Qj2 (by omega)];omega
  have F:(k:Int).tmod 32=((k%32:Nat):Int):=by rw [Qk2 (by omega)];omega
  rw [D,E,F]
  have s:x*2^k=4294967296^(k / 32)*x*2^(k%32):=by have:2^k=4294967296^(k / 32)*2^(k%32):=by{rw [show (4294967296:Nat)=2^32 from rfl,←Wq8,←Qz9,Qc5]};rw [this];grind
  rw [s];generalize hw:k / 32=w at *;have t:k%32<32:=Qj7 _ (by omega);have J:w<=32768:=by omega
  generalize k%32=r at *;clear D E F;simp (disch:=omega) only [aw,bq,dX];have u:((n:Int)+w+1).toNat=n+w+1:=by omega
  rw [u]
  refine ⟨by omega,by omega,by omega,by omega,by omega,λz V'=>0<=z.1/\z.1<=n/\∃es:pz Nat,z.2=aK es/\es.length=n+w+1/\cP es/\(∀c,es[z.1.toNat+w]?=some c->c<2^r) /\
   val (es.take (z.1.toNat+w+1))=4294967296^w*val ((ah x).take z.1.toNat)*2^r,λz=>n-z.1.toNat,
   ⟨(0,aK (List.replicate (n+w+1) 0)),by (try dsimp only);and_intros<;>trivial,by (try dsimp only);omega,by (try dsimp only);omega,_,rfl,by simp,cP.rep _,?_,?_⟩,?_⟩
  ·intro c a;rw [Qr7] at a;split at a;{cases a;exact Qk3 r};{cases a}
  ·simp [Qp9,zD]
  rintro ⟨i,vs⟩ V4 K ⟨f,v,es,rfl,y,b,a,d⟩;dsimp only at f v a d ⊢;obtain ⟨i,rfl⟩:=Qw2 f;simp only [Qq0] at a d;refine ⟨by trivial,λe=>?_,λe=>?_⟩
  ·have e:i<n:=by{simpa using e};refine (q.le K).rd i rfl (by omega) ?_;have L:=(aL x).get (i:=i) (by omega);have A:=a (es[i+w]'(by omega)) (Qq1 _);have ⟨M,g2,N,g4⟩:=Jf L t A;have g:(min ((r:Nat):Int).toNat IntKind.u64.bits)=r:=by{show min _ 64=r;omega};have O:((2:Int)^r)=((2^r:Nat):Int):=by{simp};rw [g,O];have hmul:(((ah x)[i]:Nat):Int)*((2^r:Nat):Int)=(((ah x)[i]*2^r:Nat):Int):=by{simp};simp (disch:=omega) only [aw];rw [bq (x:=(((ah x)[i]:Nat):Int)) (by omega),hmul,bq (by omega),kn,uV];have B:((i:Int)+w).toNat=i+w:=by{omega};have j:((i:Int)+w+1).toNat=i+w+1:=by{omega};rw [B,j];refine ⟨by omega,⟨by omega,by omega⟩,((es[i+w]'(by omega):Nat):Int),by rw [Qz2,Qk5];exact iL (by omega),⟨by omega,by omega⟩,by simp;omega,by omega,⟨by omega,by omega⟩,by simp;omega,?_⟩;have P:(((ah x)[i]*2^r:Nat):Int)%4294967296=(((ah x)[i]*2^r%4294967296:Nat):Int):=by{omega};have Q:(((ah x)[i]*2^r:Nat):Int) / 4294967296=(((ah x)[i]*2^r / 4294967296:Nat):Int):=by{omega};rw [P,Q,KZ _ _ (by omega),M];have R:=Qg3 ((ah x)[i]*2^r) 4294967296;have S:(ah x)[i]*2^r / 4294967296<4294967296:=by{omega};have C:val (List.take (i+1) (ah x))=val (List.take i (ah x))+4294967296^i*(ah x)[i]:=ay _ _;have T:val (es.take (i+w+1))=val (es.take (i+w))+4294967296^(i+w)*es[i+w]'(by omega):=ay _ _;generalize (ah x)[i]*2^r%4294967296=lo at *;generalize hhi:(ah x)[i]*2^r / 4294967296=hi at *;rw [vg (by omega)];refine ⟨((i:Int)+1,aK ((es.set (i+w) (es[i+w]'(by omega)+lo)).set (i+w+1) hi)),?_,?_,?_⟩;{(try dsimp only);omega};{(try dsimp only);(and_intros<;>first|trivial|(rw [←bT,←bT];simp))};{(try dsimp only);have l:((i:Int)+1).toNat=i+1:=by{omega};refine ⟨by omega,by omega,_,rfl,by simpa using y,(b.set _ _ (by omega)).set _ _ (by omega),?_,?_⟩;{intro c m;rw [l,show i+1+w=i+w+1 from by omega,Qs3 (by simp;omega)] at m;cases m;exact N};{rw [l,show i+1+w+1=i+w+1+1 from by omega,aU _ _ _ (by simp;omega),aU _ _ _,C];rw [T] at d;have U:4294967296^(i+w+1)*hi=4294967296^(i+w)*(4294967296*hi):=by{rw [Qk8];grind};rw [U,Qb3,←Qn4,d,Qn4,←Qb3,R,Qz9];grind}}
  ·have e:i=n:=by{simp at e;omega};subst e;intro V5 l5 bk W;refine (bw (RD.bg W b (n:=i+w+1) (c:=i+w+1) (by omega) (Qq2 _))).s ?_;rintro r' V6 l6 ⟨k',rfl,G⟩;refine ⟨_,_,_,rfl,λ_ V7 X=>⟨_,_,_,rfl,?_,.inr (by omega)⟩⟩;rw [ao,ao,af] at d;rw [aY b,d] at G;exact G.le X
theorem Jg {d Y r:Nat}(hd:d<4294967296)(hr:r<32) :
  (d+4294967296*Y) / 2^r=(d+4294967296*(Y%4294967296)) / 2^r%4294967296+4294967296*(Y / 2^r):=by
 have e:4294967296=2^r*2^(32-r):=by rw [←Qz9,Nat.add_sub_cancel' (by omega)]
 have c:=Qk3 r;have l:=Qk3 (32-r);generalize ha:2^r=a at *;generalize hb:2^(32-r)=b at *
 have f:∀Z,(d+4294967296*Z) / a=d / a+b*Z:=by intro Z;rw [e,Qn0,Qg1 _ _ c]
 rw [f,f]
 have g:d / a<b:=by rw [Qb2 c,Qv5,←e];exact hd
 have h:b*(Y%4294967296)%4294967296=b*(Y%a):=by rw [e,Qv5 a b,Nat.mul_mod_mul_left,Nat.mod_mul_left_mod]
 have m:b*(Y%a)+b<=4294967296:=by have:Y%a+1<=a:=Qj7 _ c;have:=Qz8 b this;rw [Qb3,Qk5,Qv5 b a,←e] at this;exact this
 have i:(d / a+b*(Y%4294967296))%4294967296=d / a+b*(Y%a):=by rw [Nat.add_mod,h,Qx9 (a:=d / a) (by omega),Qx9 (by omega)]
 rw [i];have j:=Qg3 Y a
 have k:b*Y=b*(Y%a)+4294967296*(Y / a):=by
  conv=>lhs;rw [←j]
  rw [Qb3,←Qn0,Qv5 b a,←e]
 rw [k];omega
theorem vh {xs:pz Nat}(h:cP xs)(i:Nat):val (xs.drop i)%4294967296=(xs[i]?).getD 0:=by rcases Qz3 i xs.length with a|a;{rw [Qw4 a,bO,Qq1 a,Qf2,Wx2,Qx9 (h.get a)]};{rw [Qx8 a,Qz7 a];rfl}
theorem NO (h:RD V p n c ds)(hm:ds.length<=1099511627776)(k:Nat)(hk:k<18446744073709551616:=by omega) :
  aa prog 255 #[qD p n c,qvZ .u64 (k:Int)] V λr V'=>∃p' n' c',r=qD p' n' c'/\RN V' p' n' c' (val ds / 2^k):=by
 have S:=bH h.gC;refine LC V _ λV1 T=>(bw (h.le T)).s ?_;rintro r V2 l2 ⟨n,rfl,B⟩;rw [aY h.gC] at B;generalize val ds=x at *;have hl:=B.len;have P:(k:Int).tdiv 32=((k / 32:Nat):Int):=by rw [Qj2 (by omega)];omega
 have C:(k:Int).tmod 32=((k%32:Nat):Int):=by rw [Qk2 (by omega)];omega
 refine ⟨_,_,_,rfl,?_⟩;rw [P,C]
 have q:x / 2^k=x / 4294967296^(k / 32) / 2^(k%32):=by rw [Nat.div_div_eq_div_mul,show (4294967296:Nat)=2^32 from rfl,←Wq8,←Qz9,Qc5]
 rw [q];have U:k / 32<576460752303423488:=by omega
 generalize k / 32=w at *;have E:k%32<32:=Qj7 _ (by omega);generalize k%32=r at *;clear P C q;refine ⟨by omega,λj V3 l3=>?_,λj=>?_⟩
 ·have j:n<=w:=by{rw [bq (by omega),bq (by omega)] at j;simp at j;omega};have:x / 4294967296^w=0:=Qj8 (Qy6 (aN.1 (Qq2 _)) (Qx5 (by omega) (by omega)));rw [this,Wz5];exact ⟨_,_,_,rfl,RD.nil⟩
 ·have j:w<n:=by
   rw [bq (by omega),bq (by omega)] at j;simp at j;omega
  simp (disch:=omega) only [aw,bq,dX];have F:((n:Int)-w).toNat=n-w:=by omega
  rw [F]
  have G:x / 4294967296^w=val ((ah x).drop w):=by have e:val (ah x)=val ((ah x).take w++(ah x).drop w):=by{rw [Qb1]};have s:=iN ((aL x).take w);rw [eX,af] at e;rw [Qq7,Qj3 (by omega)] at e s;have g:∀y,y=val ((ah x).take w)+4294967296^w*val ((ah x).drop w)->y / 4294967296^w=val ((ah x).drop w):=by{intro y W;rw [W,Qg1 _ _ (Wq9 (by omega)),Qj8 s,Qz2]};exact g x e
  rw [G]
  refine ⟨by omega,by omega,by omega,by omega,by omega,λz V'=>0<=z.1/\z.1<=(n-w:Nat)/\∃es:pz Nat,z.2=aK es/\es.length=n-w/\cP es /\
   val (es.take z.1.toNat)+4294967296^z.1.toNat*(val ((ah x).drop (w+z.1.toNat)) / 2^r)=val ((ah x).drop w) / 2^r,λz=>(n-w)-z.1.toNat,
   ⟨(0,aK (List.replicate (n-w) 0)),by (try dsimp only);and_intros<;>trivial,by (try dsimp only);omega,by (try dsimp only);omega,_,rfl,by simp,cP.rep _,by simp⟩,?_⟩
  rintro ⟨i,vs⟩ V4 Q ⟨t,H,es,rfl,I,m,b⟩;dsimp only at t H b ⊢;obtain ⟨i,rfl⟩:=Qw2 t;simp only [Qq0] at b;refine ⟨by trivial,λu=>?_,λu=>?_⟩
  ·have u:i<n-w:=by simpa using u
   simp (disch:=omega) only [aw];refine (B.le Q).rd (w+i) (by omega) (by omega) ?_;have R:=(aL x).get (i:=w+i) (by omega);have v:=Jg (Y:=val ((ah x).drop (w+i+1))) R E;rw [vh (aL x)] at v
   have d:(min ((r:Nat):Int).toNat IntKind.u64.bits)=r:=by show min _ 64=r;omega
   have o:val ((ah x).drop (w+i))=(ah x)[w+i]+4294967296*val ((ah x).drop (w+i+1)):=by rw [Qw4 (by omega),bO]
   rw [o] at b;rw [v] at b
   have nxt:∀D:Nat,D=((ah x)[w+i]+4294967296*((ah x)[w+i+1]?).getD 0) / 2^r%4294967296 ->
     ∃a:pz Nat,(aK es).set (0+i*1) (qvZ .u32 (D:Int))=aK a/\a.length=n-w/\cP a /\
     val (a.take (i+1))+4294967296^(i+1)*(val ((ah x).drop (w+(i+1))) / 2^r)=val ((ah x).drop w) / 2^r:=by
    intro D X;refine ⟨es.set i D,by rw [←bT];simp,by simpa using I,m.set _ _ (by omega),?_⟩;rw [aU _ _ _,←b,X,Qk8,Qb3,Qn4,Qn0,Qn4 w i 1]
   have A:((i:Int)+1).toNat=i+1:=by omega
   refine ⟨λf=>?_,λf=>?_⟩
   ·have f:w+i+1<n:=by{simp at f;omega};refine (B.le Q).rd (w+i+1) (by omega) (by omega) ?_;have J:=(aL x).get (i:=w+i+1) (by omega);have K:b_ .or .u64 (u64.wrap (((ah x)[w+i]:Nat):Int)) (u64.wrap (u64.wrap (((ah x)[w+i+1]:Nat):Int)*2^32))=(((ah x)[w+i]+4294967296*((ah x)[w+i+1]?).getD 0:Nat):Int):=by{have C:((2:Int)^32)=4294967296:=by{decide};rw [C,bq (by omega),bq (x:=(((ah x)[w+i+1]:Nat):Int)) (by omega),bq (by omega),R6 _ _ J R,Qq1 (by omega),Qf2];omega};rw [K,d,kX,kn];refine ⟨by omega,by omega,⟨by omega,by omega⟩,by simp;omega,?_⟩;have ⟨a,L,M,N,O⟩:=nxt _ rfl;refine ⟨((i:Int)+1,aK a),?_,?_,?_⟩;{(try dsimp only);omega};{(try dsimp only);(and_intros<;>first|trivial|(rw [←L];simp))};{(try dsimp only);exact ⟨by omega,by omega,a,rfl,M,N,by rw [A];exact O⟩}
   ·have f:n<=w+i+1:=by{simp at f;omega};have K:u64.wrap (((ah x)[w+i]:Nat):Int)=(((ah x)[w+i]+4294967296*((ah x)[w+i+1]?).getD 0:Nat):Int):=by{rw [bq (by omega),Qz7 (by omega)];simp};rw [K,d,kX,kn];refine ⟨by omega,⟨by omega,by omega⟩,by simp;omega,?_⟩;have ⟨a,L,M,N,O⟩:=nxt _ rfl;refine ⟨((i:Int)+1,aK a),?_,?_,?_⟩;{(try dsimp only);omega};{(try dsimp only);(and_intros<;>first|trivial|(rw [←L];simp))};{(try dsimp only);exact ⟨by omega,by omega,a,rfl,M,N,by rw [A];exact O⟩}
  ·have u:i=n-w:=by{simp at u;omega};intro V5 l5 bk Z;refine (bw (RD.bg Z m (n:=n-w) (c:=n-w) (by omega) (Qq2 _))).s ?_;rintro r' V6 l6 ⟨k',rfl,f⟩;refine ⟨_,_,_,rfl,λ_ V7 l7=>⟨_,_,_,rfl,?_⟩⟩;rw [ao,Qx8 (l:=ah x) (i:=w+i) (by omega)] at b;have b:val es=val ((ah x).drop w) / 2^r:=by{rw [←b,gi,Wz5,Qj6,Qj1]};rw [aY m,b] at f;exact f.le l7
end Go.Proofs.Tryz
namespace Go.Big
variable{B G T W Y t' u0 u1 u2 v' v1 v2 ρ:Nat}
theorem Oe (hY:Y=(v1*W+v2)*B+v')(hT:T=((u0*W+u1)*W+u2)*B+t')(ht:t'<B)
  (hg:G*v1+ρ=u0*W+u1)(hd:ρ*W+u2<G*v2):T<G*Y:=by have a:(u0*W+u1)*W+u2+1<=G*(v1*W+v2):=by{grind [Nat.add_mul]};have b:=Qw0 B a;have c:G*(v1*W+v2)*B<=G*Y:=by{rw [hY,Qn0];exact Qz8 _ (Qp6 _ _)};rw [Qk1,Qd1] at b;omega
theorem EC (hY:Y=(v1*W+v2)*B+v')(hT:T=((u0*W+u1)*W+u2)*B+t')(hv:v'<B)(hv1:1<=v1)(hW:0<W)
  (hg:G*v1+ρ=u0*W+u1)(hd:G*v2<=ρ*W+u2)(hG:G<=W:=by omega):G*Y<T+Y:=by have a:G*(v1*W+v2)<=(u0*W+u1)*W+u2:=by{grind [Nat.add_mul]};have b:=Qw0 B a;have c:G*v'<=W*v':=Qw0 _ hG;have d:W*v'<W*B:=Nat.mul_lt_mul_of_pos_left hv hW;have e:W*B<=v1*W*B:=by{have:=Qw0 (W*B) hv1;grind};have f:(v1*W+v2)*B=v1*W*B+v2*B:=Qk1 _ _ _;have g:G*Y=G*(v1*W+v2)*B+G*v':=by{rw [hY,Qb3,Qn0]};omega
theorem ED (hY:Y=(v1*W+v2)*B+v')(hT:T=((u0*W+u1)*W+u2)*B+t')(hv:v'<B)(h:T<W*Y):u0*W+u1<=v1*W+v2:=by rcases Qz3 (v1*W+v2) (u0*W+u1) with a|a;{exfalso;have b:(v1*W+v2+1)*W<=(u0*W+u1)*W:=Qw0 _ a;have c:=Qw0 B b;have d:W*Y<=W*((v1*W+v2+1)*B):=by{rw [hY,Qk1 (v1*W+v2) 1 B,Qd1];exact Qz8 _ (by omega)};grind};{exact a}
theorem QH (hY:Y=(v1*W+v2)*B+v')(hT:T=((u0*W+u1)*W+u2)*B+t')(ht:t'<B)(hu:u2<W)
  (hg:G*v1+ρ=u0*W+u1)(hr:ρ<v1):T<(G+1)*Y:=by have a:u0*W+u1+1<=(G+1)*v1:=by{rw [Qk1,Qd1];omega};have b:=Qw0 (W*B) a;have c:(G+1)*v1*(W*B)<=(G+1)*Y:=by{rw [hY,Qn0];grind};have d:((u0*W+u1)*W+u2)*B+t'<(u0*W+u1+1)*(W*B):=by{have e:(u2+1)*B<=W*B:=Qw0 _ hu;grind};omega
theorem E1 {F U c b g d u Y W S:Nat}{x:Int}(h:F+W*(g*Y)=U+W*S*(c+b))(hc:c<4294967296)(hb:b<=1)(hu:u<4294967296)
  (hx:x=((u:Int)-((c+g*d)%4294967296:Nat)-b)%18446744073709551616) :
  0<=x/\0<=x / 9223372036854775808/\x / 9223372036854775808<=1 /\
  F+W*S*(x%4294967296).toNat+W*(g*(Y+S*d))=U+W*S*u+W*(S*4294967296)*((c+g*d) / 4294967296+(x / 9223372036854775808).toNat):=by have k:=Qg3 (c+g*d) 4294967296;have hm:(c+g*d)%4294967296<4294967296:=Qj7 _ (by omega);generalize (c+g*d) / 4294967296=q at *;generalize (c+g*d)%4294967296=m at *;have key:∃o B:Nat,(x%4294967296).toNat=o/\(x / 9223372036854775808).toNat=B/\u+4294967296*B=o+m+b/\0<=x/\0<=x / 9223372036854775808/\x / 9223372036854775808<=1:=by{grind};obtain ⟨o,B,a,e,l,f,i,j⟩:=key;refine ⟨f,i,j,?_⟩;rw [a,e];have n:u+4294967296*(B+q)=o+b+(c+g*d):=by{omega};have p:W*S*u+W*(S*4294967296)*(q+B)=W*S*(u+4294967296*(B+q)):=by{grind};grind
theorem D3 {F U c d u Y W S t:Nat}(h:F+W*S*c=U+W*Y)(ht:t=c+u+d:=by omega) :
  F+W*S*(t%4294967296)+W*(S*4294967296)*(t / 4294967296)=U+W*S*u+W*(Y+S*d):=by have a:W*S*(t%4294967296)+W*(S*4294967296)*(t / 4294967296)=W*S*t:=by{grind [Nat.mod_add_div]};grind
end Go.Big
