import Derived.Test.YtbdlbajodgoneaaGreatDoorCards
import Derived.Test.YtbdlbajodgoneaaGreatDoorTie
import Derived.ProofKit
import Derived.OpenShut
import Derived.Deep.DeepHandedRow
import Derived.LaidLaws
import Derived.Lay
import Derived.Carry
import Derived.IntWalk
import Derived.Shelf.SlLaysF0
import Derived.Shelf.Lays
import Derived.Shelf.Small.Bits
import Derived.Shelf.Bits.Mul64
import Derived.Test.YtbdlbajodgoneaaGreatDoorS6
set_option linter.all false
open Go.IntKind (i64 u64 u32)
open Go.Value renaming int→Ô,slice→yD,bool→gF,tuple→ê
namespace Go.Proofs.YtbdlbajodgoneaaGreatDoor
open Go.ChangeShapes Go.WideShapes Go.ChangeAt Go.RowKit Go.Eng
theorem own:ownKnob Tryz.prog.godebug=none:=ζ
def star : "*" ++ "errors.errorString" = "*errors.errorString" := by decide
def rowE (u : TypeId)(h : Tryz.prog.typeName? 3 u = some "*errors.errorString") : u = 387 :=
 typeName_ptr_named (nm := "errors.errorString") (by rw [star]; kernel_rfl) ζ φ u (by rw [star]; exact h)
def cellsE:Tryz.prog.cellsOf 404=1:=ζ
def cellsS:Tryz.prog.cellsOf 9=1:=ζ
def row0 (g:Nat):MemPlace.cell g 0∈MemPlace.row ⟨g,0,none⟩ 1:=by simp [MemPlace.row]
def Y2 {P:Program}{W:World}{name:String}{g:Nat}{v:un}(u:P.globalNamed name=some g)(h:W.var? P name=some #[v]):W.cell? ⟨g,0,none⟩=some v:=by simpa using World.var?_cell u h 0
set_option maxRecDepth 100000 in
def wY {W:World}{l:zA (String×DataW Unit)}{name:String}{text:zA UInt8}{g:Nat}(D:Tryz.prog.globalNamed name=some g)(hty:(Tryz.prog.globals[g]?).map (·.type)=some 43)(hm : (name, .iface "*errors.errorString" (.ptr (.agg [.lit (.string text)]))) ∈ l)(h : laidMet Tryz.prog l W):∃a,W.cell? ⟨g,0,none⟩=some (.iface 387 (.pointer (some a))):=by
 obtain ⟨k,m,-,c⟩:=h
 induction l generalizing k with
 | nil=>cases hm
 | cons x r E=>
  obtain ⟨n,d⟩:=x;obtain ⟨B,t,cs,fuel,p,q,i,o,f,w,y,rfl⟩:=m;rcases í.1 hm with e|hm
  ·cases e;obtain rfl:=ś (D.symm.m i);obtain rfl:=ś (hty.symm.m o);obtain ⟨z⟩:=cs
   have j:∀u v,z=[.iface u v]->Value.okWide Tryz.prog W .any 0 u v:=λu v e=>by
    subst e;exact (c g 0 (Ń _ (Ń _ (row0 g)))).2 u v (Y2 D f)
   obtain ⟨a,s,rfl,-⟩:=errorString_of_trod Tryz.underlying43 rowE Tryz.underlying387 Tryz.underlying404 rfl rfl Tryz.underlying9 cellsE cellsS w j;exact ⟨a,Y2 D f⟩
  ·exact E hm q y λb off A=>c b off (ŝ _ A)
def Ó.all (W:World):Ó:=⟨W,λ_=>False,λ_=>False,λ_ h=>h.elim,λ_ h=>h⟩
def KG {w w':World}(h:kI (λ_=>False) w w')(may:MemPlace->Prop):w.keptBut w' may:=by refine ⟨h.os,h.out,λi a=>?_⟩;rw [h.aX i a (λh=>h)];(cases w.heap[i]? with|none=>rfl|some o=>{cases o<;>simp})
def EL {f:FuncId}{args:Array un}{W:World}{R:un->Prop}(h:aa Tryz.prog f args (Ó.all W) λr _=>R r):Calls Tryz.prog f args W λe w'=>∃r,e=.returned r/\R r/\kI (λ_=>False) W w':=
 h.2.s λe w' ⟨r,he,a,b⟩=>⟨r,he,b,a⟩
def laidOut:laidOutB Tryz.prog=true:=ζ
def Hv {w w':World}(h:kI (λ_=>False) w w'):Below w.heap.size w w':=⟨h.os,h.tape,h.out,h.size,λk a=>h.aX k a (λh=>h)⟩
def Qu {P:Program}(hlo:laidOutB P=true){H:Type}{enc:TypeId×un->H}{W W':World}(y:Below W.heap.size W W')(ts:zA TypeId):∀{vs:zA un} {ds:zA (DataW H)} {u:zA MemPlace},(ts.all λt=>P.readableRec t&&decide (t<P.types.size))=true->DataW.TrodAll enc P W 0 (λ_=>true) true ts vs ds u->(∀x∈u,x.block<W.heap.size) ->DataW.TrodAll enc P W' 0 (λb=>decide (b<W.heap.size)) true ts vs ds u:=by
 induction ts with
 | nil=>
  intro vs ds u _ h _;obtain ⟨rfl,rfl,rfl⟩:=trodAll_nil h;exact trodAll_mk0
 | cons t ts z=>
  intro vs ds u c h a;obtain ⟨v,f,d,g,p,q,rfl,rfl,rfl,i,j⟩:=trodAll_cons h;simp only [List.all_cons,Đ,Ñ] at c;exact trodAll_cons_mk (Below.trod hlo c.1.1 c.1.2 i y λx e=>a x (Ń _ e)) (z c.2 j λx e=>a x (ŝ _ e))
set_option maxRecDepth 100000 in
def XP {H:Type}{enc:TypeId×un->H}{fid:FuncId}{f:Func}{s:ChangeSpec}{W:World}{args:Array un}{ds gs:zA (DataW H)}{before:zA MemPlace}{fresh handsOn:md}(y:DataW.Whole enc Tryz.prog f.params.toList s.vars false W args.toList ds gs before)(hvars:s.vars=[])(hts:(f.params.toList.all λt=>Tryz.prog.readableRec t&&decide (t<Tryz.prog.types.size))=true)(hres:f.resultTypes=#[4])(u:s.fn H (ds++gs)={ results:=[.lit (.bool true)],args:=ds })(h:aa Tryz.prog fid args (Ó.all W) λr _=>r=.bool true):Calls Tryz.prog fid args W λe W'=>∃v,e=.returned v/\s.post enc Tryz.prog f false fresh handsOn false W args v W':=by refine (EL h).s λe W' ⟨r,he,g,a⟩=>?_;subst he g;have b:=y;obtain ⟨p,q,i,d,rfl,-,-⟩:=y;rw [hvars] at d;obtain ⟨rfl,rfl⟩:=trodVars_none d;have c:∀x∈p++[],x.block<W.heap.size:=λx a=>b.lt x a;refine ⟨_,rfl,ds,_,p++[],[],p++[],[],b,?_,?_,?_,KG a _,λh=>nomatch h⟩;{rw [u,hres];exact trodAll_cons_mk (shut_bool Tryz.underlying4 _) trodAll_mk0};{rw [u,ý];exact Qu laidOut (Hv a) _ hts i λx a=>c x (by rw [ý];exact a)};rw [u,hvars];rfl
set_option maxRecDepth 100000 in
def Lj {H:Type}{enc:TypeId×un->H}{W:World}{p:OA}{n c:Nat}{d:DataW H}{u:zA MemPlace}(h:DataW.Trod enc Tryz.prog W 0 (λ_=>true) true 22 (.slice p n c) d u):n<=c/\∀i,i<n->∃(a:Addr)(x:Int),ae p (i*1)=some a/\(Ó.all W).at a (.int .i64 x):=by obtain ⟨fuel,k⟩:=h;rcases open_ints Tryz.underlying22 Tryz.underlying3 (show Tryz.prog.cellsOf 3=1 by kernel_rfl) k with ⟨b,-⟩|⟨a,f,g,o,b,_,l,-,m,-,e,-⟩;{simp [Value.cells] at b;obtain ⟨rfl,rfl,rfl⟩:=b;exact ⟨Ú _,λi j=>Å j ω⟩};simp [Value.cells] at b;obtain ⟨rfl,rfl,rfl⟩:=b;simp only [Ï] at m;exact ⟨l,λi j=>⟨a.add i,_,by rw [Ġ];rfl,λh=>h,e i ω⟩⟩
end Go.Proofs.YtbdlbajodgoneaaGreatDoor
namespace Go.Big
variable{a ds:List Nat}{n:Nat}
def val:List Nat->Nat
 | []=>0
 | d::r=>d+4294967296*val r
def cR (ds:List Nat):Prop:=∀d∈ds,d<4294967296
def df:List Nat->List Nat
 | []=>[]
 | d::r=>if df r=[]/\d=0 then [] else d::df r
def zY (ds:List Nat):Prop:=df ds=ds
def Ch:Nat->Nat->List Nat
 | 0,_=>[]
 | f+1,n=>if n=0 then [] else n%4294967296::Ch f (n / 4294967296)
def ah (n:Nat):List Nat:=Ch n n
@[simp] theorem gQ:val []=0:=rfl
@[simp] theorem bP (d:Nat)(r:List Nat):val (d::r)=d+4294967296*val r:=rfl
theorem cR.nil:cR []:=λ_ h=>nomatch h
theorem cR.cons {d:Nat}{r:zA Nat}:cR (d::r)↔d<4294967296/\cR r:=by simp [cR]
theorem cR.append {b:zA Nat}:cR (a++b)↔cR a/\cR b:=by simp [cR,or_imp,forall_and]
theorem cR.take (h:cR a)(k:Nat):cR (a.take k):=λd b=>h d (ţ b)
theorem cR.drop (h:cR a)(k:Nat):cR (a.drop k):=λd b=>h d (Qg5 b)
theorem cR.set (h:cR a)(k x:Nat)(u:x<4294967296):cR (a.set k x):=λd c=>by
 rcases List.mem_or_eq_of_mem_set c with b|b
 ·exact h d b
 ·exact b▸u
theorem cR.get (h:cR a){i:Nat}(hi:i<a.length):a[i]<4294967296:=h _ (ò hi)
theorem cR.rep (n:Nat):cR (List.replicate n 0):=λd a=>by rw [Qs3 a];omega
theorem fA (a b:zA Nat):val (a++b)=val a+4294967296^a.length*val b:=by
 induction a with
 | nil=>simp
 | cons d r u=>simp only [Qc2,bP];grind
theorem ja (h:cR ds):val ds<4294967296^ds.length:=by
 induction ds with
 | nil=>simp
 | cons d r u=>
  have a:=cR.cons.1 h;grind [val]
theorem Bw (n:Nat):val (List.replicate n 0)=0:=by
 induction n with
 | zero=>rfl
 | succ n u=>simp [List.replicate_succ,u]
theorem aD (ds:zA Nat)(i:Nat)(h:i<ds.length:=by omega):val (ds.take (i+1))=val (ds.take i)+4294967296^i*ds[i]:=by rw [Qz0 h,fA];simp [Ħ (Qs4 h)]
theorem ar {ds:zA Nat}{i:Nat}(h:ds.length<=i:=by omega):val (ds.take i)=val ds:=by rw [ō h]
theorem E4 (ds:zA Nat)(i x:Nat)(h:i<ds.length):(ds.set i x).take (i+1)=ds.take i++[x]:=by grind [List.take_succ_eq_append_getElem,List.take_set,List.set_eq_of_length_le]
theorem aV (ds:zA Nat)(i x:Nat)(h:i<ds.length:=by omega):val ((ds.set i x).take (i+1))=val (ds.take i)+4294967296^i*x:=by rw [E4 ds i x h,fA];simp [Ħ (Qs4 h)]
theorem kv (r:zA Nat):df (r++[0])=df r:=by
 induction r with
 | nil=>simp [df]
 | cons d r u=>simp only [Qc2,df,u]
theorem vr (r:zA Nat)(d:Nat)(h:d≠0):df (r++[d])=r++[d]:=by
 induction r with
 | nil=>simp [df,h]
 | cons x r u=>simp [df,u]
theorem Sc (ds:zA Nat):val (df ds)=val ds:=by
 induction ds with
 | nil=>rfl
 | cons d r u=>
  simp only [df];split
  ·rename_i h;rw [bP,<-u,h.1,h.2];rfl
  ·simp [u]
theorem oJ (ds:zA Nat):(df ds).length<=ds.length:=by
 induction ds with
 | nil=>simp [df]
 | cons d r u=>simp only [df];split<;>simp<;>omega
theorem Sa (ds:zA Nat):df ds=ds.take (df ds).length:=by induction ds<;>grind [df]
theorem cR.trim (h:cR ds):cR (df ds):=by rw [Sa];exact h.take _
theorem LJ (ds:zA Nat):zY (df ds):=by
 unfold zY
 induction ds with
 | nil=>rfl
 | cons d r u=>
  rw [df];split
  ·rfl
  ·rename_i h;rw [df,u,Ã h]
theorem zY.tail {d:Nat}{r:zA Nat}(h:zY (d::r)):zY r:=by unfold zY at h ⊢;simp only [df] at h;split at h;{cases h};injection h
theorem zY.zero (h:zY ds)(u:val ds=0):ds=[]:=by
 induction ds with
 | nil=>rfl
 | cons d r y=>
  have a:=y h.tail (by simp at u;omega);subst a;simp at u;subst u;simp [zY,df] at h
theorem wh:∀(f n:Nat),n<=f->val (Ch f n)=n/\cR (Ch f n)/\zY (Ch f n)
 | 0,n,h=>⟨by simp [Ch];omega,cR.nil,rfl⟩
 | f+1,n,h=>by
  simp only [Ch];split
  ·subst_vars;exact ⟨rfl,cR.nil,rfl⟩
  ·have ⟨u,z,y⟩:=wh f (n / 4294967296) ω;refine ⟨by rw [bP,u];omega,cR.cons.2 ⟨ω,z⟩,?_⟩;unfold zY at y ⊢;rw [df,y,Ã];rintro ⟨a,b⟩;rw [a] at u;simp at u;omega
theorem ag (n:Nat):val (ah n)=n:=(wh n n (Ú _)).1
theorem aP (n:Nat):cR (ah n):=(wh n n (Ú _)).2.1
theorem mg (n:Nat):zY (ah n):=(wh n n (Ú _)).2.2
theorem zY.ext:∀{a b:zA Nat},cR a->cR b->zY a->zY b->val a=val b->a=b
 | [],b,_,_,_,u,h=>(u.zero (by rw [<-h];rfl)).symm
 | d::r,[],_,_,y,_,h=>by have:=y.zero h;cases this
 | d::r,e::s,y,u,z,D,h=>by
  have f:=(cR.cons.1 y).1;have g:=(cR.cons.1 u).1;simp only [bP] at h;have:val r=val s:=ω
  have c:=zY.ext (cR.cons.1 y).2 (cR.cons.1 u).2 z.tail D.tail this;grind
theorem Ci (h:cR ds)(u:zY ds):ah (val ds)=ds:=zY.ext (aP _) h (mg _) u (ag _)
theorem bf (h:cR ds):df ds=ah (val ds):=by rw [<-Sc,Ci h.trim (LJ _)]
theorem wm {a b:Nat}(h:ah a=ah b):a=b:=by rw [<-ag a,h,ag]
@[simp] theorem Gq:ah 0=[]:=rfl
theorem bS:ah n=[]↔n=0:=⟨λh=>wm (by rw [h];rfl),λh=>h▸rfl⟩
theorem zY.last (h:zY ds)(u:0<ds.length):ds[ds.length-1]≠0:=by intro e;have a:ds=ds.take (ds.length-1)++[ds[ds.length-1]]:=by{grind [List.take_succ_eq_append_getElem,Nat.sub_add_cancel,List.take_length]};rw [e] at a;have b:df ds=ds:=h;rw [a,kv] at b;have:=oJ (ds.take (ds.length-1));grind
theorem KT (h:∀u:0<ds.length,ds[ds.length-1]≠0):zY ds:=by rcases Ŀ ds.length with e|e;{rw [Ĥ.1 e];rfl};have a:ds=ds.take (ds.length-1)++[ds[ds.length-1]]:=by{grind [List.take_succ_eq_append_getElem,Nat.sub_add_cancel,List.take_length]};have:=vr (ds.take (ds.length-1)) _ (h e);rw [<-a] at this;exact this
theorem VJ (h:zY ds)(u:0<ds.length:=by omega):4294967296^(ds.length-1)<=val ds:=by have a:ds=ds.take (ds.length-1)++[ds[ds.length-1]]:=by{grind [List.take_succ_eq_append_getElem,Nat.sub_add_cancel,List.take_length]};have b:=h.last u;rw [a,fA];simp only [bP,gQ];simp only [ï,ì,Qc5];rw [Ħ ω,Qm9 u];have:4294967296^(ds.length-1)*1<=4294967296^(ds.length-1)*(ds[ds.length-1]+4294967296*0):=Ő _ ω;omega
theorem aR {n k:Nat}:(ah n).length<=k↔n<4294967296^k:=by constructor;{grind [ja,aP,ag,Nat.lt_of_lt_of_le,Nat.pow_le_pow_right]};intro h;rcases ę k (ah n).length with a|a;{have:=VJ (mg n);rw [ag] at this;have b:4294967296^k<=4294967296^((ah n).length-1):=ŀ ω ω;omega};exact a
theorem zG {k:Nat}:k<(ah n).length↔4294967296^k<=n:=by have:=@aR n k;omega
theorem jF (ds:zA Nat)(i:Nat)(h:i<ds.length):val ds=val (ds.take i)+4294967296^i*(ds[i]+4294967296*val (ds.drop (i+1))):=by have a:val ds=val (ds.take i++ds.drop i):=by{rw [Qv4]};grind [fA,List.drop_eq_getElem_cons,bP]
theorem mT {b:zA Nat}{i:Nat}(u:cR a)(hi:i<a.length)(y:i<b.length)(z:a.drop (i+1)=b.drop (i+1))(D:a[i]<b[i]):val a<val b:=by rw [jF a i hi,jF b i y,z];have c:=ja (u.take i);simp only [ì,Ħ (Qs4 hi)] at c;have d:4294967296^i*(a[i]+4294967296*val (b.drop (i+1))+1)<=4294967296^i*(b[i]+4294967296*val (b.drop (i+1))):=Ő _ ω;grind
theorem oC {a b:Nat}(h:(ah a).length<(ah b).length:=by omega):a<b:=by have c:=ja (aP a);have d:=VJ (mg b);rw [ag] at c d;have e:4294967296^(ah a).length<=4294967296^((ah b).length-1):=ŀ ω ω;omega
def oa (a b:Nat):Int:=if a<b then -1 else if b<a then 1 else 0
theorem aS {a b:Nat}(h:a<=b:=by omega):(ah a).length<=(ah b).length:=by rcases ę (ah b).length (ah a).length with c|c;{have:=oC c;omega};exact c
theorem bJ (h:cR ds):(ah (val ds)).length<=ds.length:=by rw [<-bf h];exact oJ ds
theorem Xa (h:n<4294967296)(u:n≠0:=by omega):ah n=[n]:=by have:zY [n]:=by{simp [zY,df,u]};have:=Ci (by simp [cR];exact h) this;simpa using this
end Go.Big
namespace Go.Eng
open Go.Big
variable{ds:List Nat}{p:OA}{c n:Nat}{V:Ó}
theorem aq {x:Int}(h:-9223372036854775808<=x/\x<=9223372036854775807):i64.wrap x=x:=IntWalk.i64_in x h
theorem bw {x:Int}(h:0<=x/\x<=18446744073709551615):u64.wrap x=x:=IntWalk.u64_in x h
theorem xl {x:Int}(h:0<=x/\x<=4294967295):u32.wrap x=x:=IntWalk.u32_in x h
theorem kX (x:Int):u32.wrap x=x%4294967296:=by rw [IntKind.wrap_u32]
theorem Ar (x:Int):u64.wrap x=x%18446744073709551616:=by rw [IntKind.wrap_u64]
theorem xf {x:Int}:x.fdiv (2^32)=x / 4294967296:=by rw [Wy1 _ φ];rfl
theorem Vn {x:Int}:x.fdiv (2^63)=x / 9223372036854775808:=by rw [Wy1 _ φ];rfl
theorem K0 (a b:Nat)(u:a<4294967296)(y:b<4294967296):ch .or .u64 ((a:Int)*4294967296) (b:Int)=(a:Int)*4294967296+b:=by have c:((a:Int)*4294967296)=((a*2^32:Nat):Int):=ψ;rw [ch,c,Ar];have d:(BitVec.ofInt IntKind.u64.bits ((a*2^32:Nat):Int) ||| BitVec.ofInt IntKind.u64.bits (b:Int)).toNat=a*2^32+b:=by{show (BitVec.ofInt 64 ((a*2^32:Nat):Int) ||| BitVec.ofInt 64 (b:Int)).toNat=_;rw [Ţ,Ţ,Wk8,Ũ,Ũ,ĩ ω,ĩ ω];have:=Wq8 (b:=b) (i:=32) ω a;grind [Nat.shiftLeft_eq]};omega
def aO (ds:List Nat):List Value:=ds.map λ(d:Nat)=>Value.int .u32 (d:Int)
@[simp] theorem u32s_len (ds:List Nat):(aO ds).length=ds.length:=by simp [aO]
theorem bT (ds:zA Nat)(i x:Nat):(aO ds).set i (Ô .u32 (x:Int))=aO (ds.set i x):=by simp [aO]
theorem eu (n:Nat):List.replicate n (Value.int .u32 0)=aO (List.replicate n 0):=by simp [aO]
theorem iZ {i:Nat}(h:i<ds.length):(aO ds)[i]?=some (Ô .u32 (ds[i]:Int)):=by simp [aO,h]
theorem Hh (ds:zA Nat)(k:Nat):aO (ds.take k)=(aO ds).take k:=by simp [aO,Wz8]
theorem Sb (ds:zA Nat)(k:Nat):aO (ds.drop k)=(aO ds).drop k:=by simp [aO,Wz9]
theorem zV (a b:zA Nat):aO (a++b)=aO a++aO b:=by simp [aO]
theorem Ó.Le.sl {V V':ut}(h:V.Le V'){a:OA}{xs:zA un}(u:V.sl a xs):V'.sl a xs:=
 λi v b=>let ⟨ad,e,y⟩:=u i v b;⟨ad,e,h.at y⟩
structure RD (V:Ó) (p:OA) (n c:Nat) (ds:List Nat):Prop where
 len:n=ds.length
 cap:n<=c
 sl:V.sl p (aO ds)
 gT:cR ds
 KS:p.isNone=true->c=0
theorem RD.le {V V':ut}(h:RD V p n c ds)(l:V.Le V'):RD V' p n c ds:=⟨h.len,h.cap,l.sl h.sl,h.gT,h.KS⟩
theorem RD.nil {V:ut}:RD V none 0 0 []:=⟨rfl,Ú _,λi v h=>by simp [aO] at h,cR.nil,λ_=>rfl⟩
theorem RD.take (h:RD V p n c ds){k:Nat}(u:k<=n):RD V p k c (ds.take k):=by have:=h.len;refine ⟨by simp;omega,by have:=h.cap;omega,λi v a=>h.sl i v ?_,h.gT.take k,h.KS⟩<;>grind [Hh]
theorem RD.rd (h:RD V p n c ds){i:Int}{K:Int->Prop}(j:Nat)(u:i=j)(y:j<ds.length)(z:K ((ds[j]:Nat):Int)):(p.isSome=true)/\(0<=i/\i<(n:Int))/\∃x:Int,(∃a,ae p (i.toNat*1)=some a/\V.at a (Ô .u32 x))/\K x:=by have ⟨b,e,d⟩:=h.sl j _ (iZ y);have:=h.len;subst u;refine ⟨by rw [e];rfl,Ź,_,⟨b.add j,?_,d⟩,z⟩;rw [e];simp [ae]
theorem dK {b:Nat}{xs:zA un}{ty:TypeId}{m:Nat×Nat}(h:V.aX b (.cells xs.toArray ty m)){i:Nat}{v:un}(u:xs[i]?=some v):V.at ⟨b,i,none⟩ v:=by refine ⟨h.1,?_⟩;unfold World.cell?;rw [h.2];simpa using u
theorem add_zero' (b i:Nat):(⟨b,0,none⟩:Addr).add i=⟨b,i,none⟩:=by unfold Addr.add;split;{rename_i h;simp_all};simp
theorem RD.aX {b:Nat}{ds:zA Nat}{ty:TypeId}{m:Nat×Nat}(h:V.aX b (.cells (aO ds).toArray ty m))(u:cR ds)(y:n=ds.length)(z:n<=c):RD V (some ⟨b,0,none⟩) n c ds:=
 ⟨y,z,λi v a=>⟨_,rfl,by rw [add_zero'];exact dK h a⟩,u,λe=>nomatch e⟩
end Go.Eng
namespace Go.Proofs.Tryz
open Go.Eng Go.Big
variable{V:Ó}{p q:OA}{c e m n:Nat}{ds xa xb:List Nat}
theorem bC (h:RD V p n c ds)(hm:ds.length<=4611686018427387904:=by omega):À 225 #[yD p n c] V λr W=>∃k,r=yD p k c/\RD W p k c (df ds):=by refine Mc V _ ?_;refine ⟨λz V'=>z.1=p/\z.2.2=c/\z.2.1<=ds.length/\df (ds.take z.2.1)=df ds/\RD V' p z.2.1 c (ds.take z.2.1),λz=>z.2.1,⟨(p,n,c),⟨rfl,rfl,rfl⟩,rfl,rfl,?_⟩,?_⟩;{have:=h.len;subst this;simp;exact h};rintro ⟨q,k,i⟩ l m ⟨rfl,rfl,j,e,d⟩;dsimp only at j e d ⊢;refine ⟨rfl,λa=>?_,λa=>?_⟩;{have a:0<k:=by{simpa using a};simp (disch:=omega) only [aq];have o:(ds.take k).length=k:=by{simp;omega};have f:ds.take k=ds.take (k-1)++[ds[k-1]]:=by{rw [<-Qz0 ω,Qm9 a]};refine d.rd (k-1) ω ω ⟨λb=>?_,λb=>?_⟩;{have b:ds[k-1]=0:=by{simpa using b};refine ⟨⟨ω,by have:=d.cap;omega⟩,(q,k-1,i),ω,⟨rfl,ω,rfl⟩,rfl,rfl,ω,?_,?_⟩;{dsimp only;rw [<-e,f,b,kv]};{have:=d.take (k:=k-1) ω;dsimp only;rwa [Wq0,Ħ ω] at this}};have b:ds[k-1]≠0:=by{simpa using b};refine λV2 g=>⟨k,rfl,?_⟩;rw [<-e,f,vr _ _ b,<-f];exact ra};have a:k=0:=by{simpa using a};subst a;refine λV2 g=>⟨0,rfl,?_⟩;rw [<-e];exact d.le g
theorem rj (h:RD V p n c ds)(hm:ds.length<=2^40:=by omega):À 256 #[yD p n c] V λr W=>∃q k y,r=yD q k y/\RD W q k y ds:=by have g:=h.len;refine A6 V _ ⟨λf m o=>⟨_,_,_,rfl,?_⟩,λf=>⟨aO ds,h.sl,by simp [g],ω,ω,ψ,by simp [g],?_,?_⟩⟩;{have f:p=none:=by{simpa using f};subst f;have:ds=[]:=by{rcases Ŀ ds.length with e|e;{exact Ĥ.1 e};obtain ⟨s,e,-⟩:=h.sl 0 _ (iZ e);cases e};subst this;exact RD.nil};{intro v a;simp only [aO,ÿ] at a;obtain ⟨d,-,rfl⟩:=a;rfl};intro t J sp y j u m o b l;refine ⟨_,_,_,rfl,?_⟩;simp only [č,ť,Qd4,Ŝ] at l j ⊢;exact ⟨g,j,λi v a=>⟨_,rfl,by rw [add_zero'];exact dK l (by rw [Ĺ (by rcases ę i (aO ds).length with e|e;exact e;rw [Ū e] at a;cases a)];exact a)⟩,h.gT,λe=>nomatch e⟩
abbrev RN (V:Ó)(p:OA)(n c:Nat)(x:Nat):Prop:=RD V p n c (ah x)
theorem lI (h:RD V p n c ds)(hm:ds.length<=2^40):À 210 #[yD p n c] V λr W=>∃q k u,r=yD q k u/\RN W q k u (val ds):=by refine L9 V _ λa b=>(bC ra).s ?_;rintro r V2 d ⟨k,rfl,e⟩;refine ⟨_,_,_,rfl,λf g=>(rj ra (by have:=oJ ds;omega)).s ?_⟩;rintro r i j ⟨q,l,u,rfl,m⟩;refine ⟨_,_,_,rfl,λo s=>⟨_,_,_,rfl,?_⟩⟩;unfold RN;rw [<-bf h.gT];exact ra
theorem HG (h:RD V p n c ds)(hm:ds.length<=2^40):À 287 #[yD p n c] V λr W=>r=gF (decide (ah (val ds)=ds)):=by have d:=h.len;refine Ft V _ ⟨λa e f=>?_,λa=>?_⟩;{have:ds=[]:=Ĥ.1 (by simp at a;omega);subst this;rfl};have a:0<n:=by{simp at a;omega};simp (disch:=omega) only [aq];refine h.rd (n-1) ω ω λe f=>?_;congr 1;rw [ĵ];simp only [bne_iff_ne,ne_eq,Ñ];subst d;constructor;{intro b;exact Ci h.gT (KT λ_=>by simpa using b)};intro he b;have:zY ds:=by{rw [<-he];exact mg _};exact this.last ω (by simpa using b)
theorem fQ (u:Int)(z:0<=u)(D:u<18446744073709551616:=by omega):À 226 #[Ô .u64 u] V λr W=>∃q k y,r=yD q k y/\RN W q k y u.toNat:=by obtain ⟨u,rfl⟩:=đ z;refine AK V _ ⟨ω,λe g f a=>?_⟩;rw [xf,kX,xl ω] at a;have a:e.aX f (.cells (aO [u%4294967296,u / 4294967296]).toArray 271 (0,0)):=by{simpa [aO] using a};have b:cR [u%4294967296,u / 4294967296]:=by{simp [cR];omega};refine (bC (RD.aX a b (n:=2) (c:=2) rfl (Ú _)) ψ).s ?_;rintro r V2 h ⟨k,rfl,d⟩;refine ⟨_,_,_,rfl,λ_ i j=>⟨_,_,_,rfl,?_⟩⟩;rw [bf b] at d;have:val [u%4294967296,u / 4294967296]=(u:Int).toNat:=by{simp;omega};rw [this] at d;exact ra
theorem Gc (N:RD V p n c xa)(O:RD V q m e xb)(hm:xa.length<=2^40)(Z:xb.length<=2^40:=by omega):À 255 #[yD p n c,yD q m e] V λr W=>r=Ô .i64 (oa (val xa) (val xb)):=by have la:=oJ xa;have lb:=oJ xb;refine OB V _ λH I=>(bC ra).s ?_;rintro r V2 J ⟨n,rfl,g⟩;refine ⟨_,_,_,rfl,λK B=>(bC ra).s ?_⟩;rintro r L C ⟨m,rfl,j⟩;refine ⟨_,_,_,rfl,?_⟩;replace g:=g.le (B.m C);rw [bf N.gT] at g la;rw [bf O.gT] at j lb;generalize val xa=x at *;generalize val xb=y at *;have D:=g.len;have E:=j.len;refine ⟨λh=>⟨λd w A=>?_,λd w A=>?_⟩,λh=>?_⟩;{have:=oC (a:=x) (b:=y) (by simp at d;omega);rw [oa,Ä this]};{have:=oC (a:=y) (b:=x) (by simp at h d;omega);rw [oa,Ã ω,Ä this]};have h:n=m:=by{simp at h;omega};subst h;simp (disch:=omega) only [aq];refine ⟨λz V'=>-1<=z/\z<n/\(ah x).drop (z+1).toNat=(ah y).drop (z+1).toNat,λz=>(z+1).toNat,⟨_,η,ω,ω,?_⟩,?_⟩;{(try dsimp only);rw [ń ω,ń ω]};rintro i M k ⟨o,s,t⟩;dsimp only at o s t ⊢;refine ⟨θ,λd=>?_,λd w A=>?_⟩;{have d:0<=i:=by{simpa using d};obtain ⟨i,rfl⟩:=đ d;simp (disch:=omega) only [aq];have f:(ah x).drop (i+1)=(ah y).drop (i+1):=t;refine (g.le k).rd i rfl ω ((j.le k).rd i rfl ω ⟨λu F G=>?_,λu=>?_⟩);{have:=mT (aP x) ω ω f (by simpa using u);rw [ag,ag] at this;rw [oa,Ä this]};refine (g.le k).rd i rfl ω ((j.le k).rd i rfl ω ⟨λv F G=>?_,λv=>?_⟩);{have:=mT (aP y) ω ω f.symm (by simpa using v);rw [ag,ag] at this;rw [oa,Ã ω,Ä this]};refine ⟨_,?_,η,?_,?_,?_⟩;{(try dsimp only);omega};{(try dsimp only);omega};{(try dsimp only);omega};(try dsimp only);have:((i:Int)-1+1).toNat=i:=ω;rw [this,ī ω,ī (l:=ah y) ω,f];congr 1;simp at u v;omega};have d:i=-1:=by{simp at d;omega};subst d;have:ah x=ah y:=by{simpa using t};have:=wm this;subst this;simp [oa]
theorem BD {E A B c d x y W:Nat}(h:E+W*c=A+B)(u:d=c+x+y:=by omega):E+W*(d%4294967296)+W*4294967296*(d / 4294967296)=A+W*x+(B+W*y):=by have a:W*(d%4294967296)+W*4294967296*(d / 4294967296)=W*d:=by{rw [ŏ,<-Ĵ,Qg9]};rw [Ŗ,a,u,Ĵ,Ĵ];omega
theorem QJ (ha:RD V p n c xa)(hb:RD V q m e xb)(hm:xa.length<=2^40)(hn:xb.length<=2^40):À 296 #[yD p n c,yD q m e] V λr W=>∃p' n' c',r=yD p' n' c'/\RN W p' n' c' (val xa+val xb):=by
 have B:=ha.len;have C:=hb.len;refine Oz V _ ⟨λz V'=>∃xs b,RD V' z.1 z.2.1 z.2.2.1 xs/\RD V' z.2.2.2.1 z.2.2.2.2.1 z.2.2.2.2.2 b/\b.length<=xs.length/\xs.length<=2^40/\val xs+val b=val xa+val xb,⟨λD=>?_,λD=>?_⟩,?_⟩
 ·exact ⟨(_,_,_,_,_,_),η,xb,xa,hb,ha,by simp at D;omega,hn,ω⟩
 ·exact ⟨(_,_,_,_,_,_),η,xa,xb,ha,hb,by simp at D;omega,hm,rfl⟩
 ·rintro ⟨p,n,c,q,m,e⟩ N O ⟨xs,b,x,A,P,hm,g⟩;dsimp only at x A ⊢;rw [<-g];clear g ha hb B C;have L:=x.len;have Q:=A.len;simp (disch:=omega) only [aq,eu];have E:((n:Int)+1).toNat=n+1:=ω
  rw [E]
  refine ⟨θ,ω,ω,ω,λz V'=>0<=z.1/\z.1<=1/\0<=z.2.1/\z.2.1<=n/\∃es:zA Nat,z.2.2=aO es/\es.length=n+1/\cR es /\
   val (es.take z.2.1.toNat)+4294967296^z.2.1.toNat*z.1.toNat=val (xs.take z.2.1.toNat)+val (b.take z.2.1.toNat),λz=>n-z.2.1.toNat,⟨(0,0,aO (List.replicate (n+1) 0)),η,by (try dsimp only);omega,by (try dsimp only);omega,by (try dsimp only);omega,by (try dsimp only);omega,_,rfl,ψ,cR.rep _,ψ⟩,?_⟩
  rintro ⟨f,i,R⟩ V2 K ⟨o,F,s,G,es,rfl,H,t,g⟩;dsimp only at o F s G g ⊢;obtain ⟨i,rfl⟩:=đ s;obtain ⟨f,rfl⟩:=đ o;simp only [ß] at g;refine ⟨θ,λl=>?_,λl=>?_⟩
  ·have l:i<n:=by simpa using l
   refine (x.le K).rd i rfl ω ?_;have S:=x.gT.get (i:=i) ω
   have next:∀d:Nat,d<8589934592->val (es.take i)+4294967296^i*(d%4294967296)+4294967296^i*4294967296*(d / 4294967296)=val (xs.take (i+1))+val (b.take (i+1)) ->
     ∃a:zA Nat,(aO es).set i (Ô .u32 ((d%4294967296:Nat):Int))=aO a/\a.length=n+1/\cR a /\
     val (a.take (i+1))+4294967296^(i+1)*(d / 4294967296)=val (xs.take (i+1))+val (b.take (i+1)):=by
    intro d T he;refine ⟨es.set i (d%4294967296),bT _ _ _,by simpa using H,t.set _ _ ω,?_⟩;rw [aV _ _ _,ħ];exact he
   refine ⟨λh=>?_,λh=>?_⟩
   ·have h:i<m:=by{simpa using h};refine (A.le K).rd i rfl ω ?_;have M:=A.gT.get (i:=i) ω;simp (disch:=omega) only [bw,aq,kX,xf];refine ⟨Ź,by simp;omega,ω,(_,_,_),?_,η,?_⟩;{(try dsimp only);omega};(try dsimp only);have j:((i:Int)+1).toNat=i+1:=ω;have ⟨a,u,v,I,J⟩:=next (f+xs[i]+b[i]) ω (by rw [aD _ _,aD _ _];exact BD g rfl);refine ⟨ω,ω,ω,ω,a,?_,v,I,?_⟩;{rw [<-u];simp};rw [j,<-J];congr 2
   ·have h:m<=i:=by simpa using h
    simp (disch:=omega) only [bw,aq,kX,xf];refine ⟨Ź,by simp;omega,ω,(_,_,_),?_,η,?_⟩
    ·(try dsimp only);omega
    ·(try dsimp only)
     have j:((i:Int)+1).toNat=i+1:=ω
     have ⟨a,u,v,I,J⟩:=next (f+xs[i]) ω (by
      rw [aD _ _,ar (ds:=b) (i:=i+1)];have:=BD (y:=0) g (d:=f+xs[i]) rfl
      rwa [ar (ds:=b),İ,ğ] at this)
     refine ⟨ω,ω,ω,ω,a,?_,v,I,?_⟩
     ·rw [<-u];simp
     ·rw [j,<-J];congr 2
  ·have l:i=n:=by{simp at l;omega};subst l;simp (disch:=omega) only [xl];refine ⟨Ź,by simp;omega,λU W X hb=>?_⟩;have u:(aO es).set (0+((i:Int).toNat)*1) (Ô .u32 (f:Int))=aO (es.set i f):=by{rw [<-bT];simp};rw [u] at hb;have w:=t.set i f ω;refine (bC (RD.aX hb w (n:=i+1) (c:=i+1) (by simp;omega) (Ú _)) (by simp;omega)).s ?_;rintro r Y Z ⟨k,rfl,h⟩;refine ⟨_,_,_,rfl,λ_ V5 l5=>⟨_,_,_,rfl,?_⟩⟩;rw [bf w] at h;have v:val (es.set i f)=val xs+val b:=by{have:=aV es i f;rw [ar (by simp;omega)] at this;rw [this,g,ar,ar]};rw [v] at h;exact ra
theorem VA {E A B x y W:Nat}(h:E+B=A+W*c){v:Int}(u:c<=1)(z:x<4294967296)(D:y<4294967296)(F:v=((x:Int)-(c+y))%18446744073709551616):0<=v/\v / 9223372036854775808<=1/\0<=v / 9223372036854775808/\E+W*(v%4294967296).toNat+(B+W*y)=A+W*x+W*4294967296*(v / 9223372036854775808).toNat:=by rcases ę x (c+y) with d|d;{have e:v=18446744073709551616+(x:Int)-(c+y):=ω;have a:(v / 9223372036854775808).toNat=1:=ω;have b:(v%4294967296).toNat+(c+y)=x+4294967296:=ω;refine ⟨ω,ω,ω,?_⟩;rw [a,Ġ];have:=Æ (W*·) b;simp only [Ĵ] at this;omega};have e:v=(x:Int)-(c+y):=ω;have a:(v / 9223372036854775808).toNat=0:=ω;have b:(v%4294967296).toNat+(c+y)=x:=ω;refine ⟨ω,ω,ω,?_⟩;rw [a,İ,ğ];have:=Æ (W*·) b;simp only [Ĵ] at this;omega
theorem Na {xs ys:zA Nat}(Z:RD V p n c xs)(hy:RD V q m e ys)(hm:xs.length<=2^40)(hl:ys.length<=xs.length)(hle:val ys<=val xs):À 312 #[yD p n c,yD q m e] V λr W=>∃p' n' c',r=yD p' n' c'/\RN W p' n' c' (val xs-val ys):=by
 have D:=Z.len;have N:=hy.len
 refine Ma V _ ⟨ω,ω,ω,λz V'=>0<=z.1/\z.1<=1/\0<=z.2.1/\z.2.1<=n/\∃es:zA Nat,z.2.2=aO es/\es.length=n/\cR es /\
   val (es.take z.2.1.toNat)+val (ys.take z.2.1.toNat)=val (xs.take z.2.1.toNat)+4294967296^z.2.1.toNat*z.1.toNat,λz=>n-z.2.1.toNat,
   ⟨(0,0,List.replicate n (Ô .u32 0)),η,by (try dsimp only);omega,by (try dsimp only);omega,by (try dsimp only);omega,by (try dsimp only);omega,List.replicate n 0,eu n,ψ,cR.rep _,ψ⟩,?_⟩
 rintro ⟨j,i,O⟩ V2 B ⟨l,u,o,w,es,rfl,d,a,s⟩;dsimp only at l u o w s ⊢;obtain ⟨i,rfl⟩:=đ o;obtain ⟨j,rfl⟩:=đ l;simp only [ß] at s;refine ⟨θ,λf=>?_,λf=>?_⟩
 ·have f:i<n:=by{simpa using f};refine (Z.le B).rd i rfl ω ?_;have E:=Z.gT.get (i:=i) ω;refine ⟨λz V'=>∃y:Nat,z=j+y/\y<4294967296/\val (ys.take (i+1))=val (ys.take i)+4294967296^i*y,⟨λb=>?_,λb=>?_⟩,?_⟩;{have b:i<m:=by{simpa using b};refine (hy.le B).rd i rfl ω ?_;have g:=hy.gT.get (i:=i) ω;simp (disch:=omega) only [bw];exact ⟨_,η,ys[i],rfl,g,aD _ _⟩};{have b:m<=i:=by{simpa using b};exact ⟨_,η,0,ψ,ω,by rw [ar,ar];simp⟩};rintro t F G ⟨y,rfl,g,x⟩;refine ⟨θ,⟨ω,by simpa using f⟩,by simp;omega,ω,?_⟩;simp (disch:=omega) only [bw,aq,Ar,kX,Vn];obtain ⟨v,C⟩:∃v:Int,v=((xs[i]:Int)-((j:Int)+(y:Int)))%18446744073709551616:=⟨_,rfl⟩;have ⟨P,H,I,J⟩:=VA s ω E g C;rw [<-C];refine ⟨(_,_,_),?_,η,?_⟩;{(try dsimp only);omega};(try dsimp only);have A:((i:Int)+1).toNat=i+1:=ω;refine ⟨I,H,ω,ω,es.set i (v%4294967296).toNat,?_,by simpa using d,a.set _ _ ω,?_⟩;{rw [<-bT];congr 2;{simp};omega};rw [A,aV _ _ _,x,J,aD _ _,ħ]
 ·have f:i=n:=by{simp at f;omega};subst f;intro F G Q K;refine (bC (RD.aX K a (n:=i) (c:=i) d.symm (Ú _))).s ?_;rintro r R S ⟨k,rfl,b⟩;refine ⟨_,_,_,rfl,λ_ T U=>⟨_,_,_,rfl,?_⟩⟩;rw [bf a] at b;rw [ar,ar,ar] at s;have L:=ja a;rw [d] at L;have M:j=0:=by{rcases Ŀ j with h|h;{exact h};{have:4294967296^i*1<=4294967296^i*j:=Ő _ h;omega}};subst M;rw [show val es=val xs-val ys from by omega] at b;exact ra
theorem iR {a b:Nat}:oa a b<0↔a<b:=by unfold oa;split;{simp;omega};split<;>simp<;>omega
theorem oe {a b:Nat}:oa a b=0↔a=b:=by unfold oa;split;{simp;omega};split;{simp;omega};simp;omega
theorem Gf (E:RD V p n c xa)(O:RD V q m e xb)(hm:xa.length<=2^40)(Z:xb.length<=2^40):À 297 #[yD p n c,yD q m e] V λr W=>∃F M N,r=ê #[yD F M N,gF (decide (val xb<=val xa))]/\RN W F M N (val xa-val xb):=by refine OH V _ λj b=>(Gc ra ra hm Z).s ?_;rintro r V2 k rfl;refine ⟨_,rfl,λa d f=>?_,λa d f=>?_⟩;{have a:val xa<val xb:=by{simpa [iR] using a};rw [Nat.sub_eq_zero_of_le ω,È ω];exact ⟨_,_,_,rfl,RD.nil⟩};have a:val xb<=val xa:=by{simpa [<-Ww7,iR] using a};rw [Ç a];refine (bC ((E.le b).le au)).s ?_;rintro r l o ⟨s,rfl,g⟩;refine ⟨_,_,_,rfl,λt u=>(bC ((O.le b).le au)).s ?_⟩;rintro r v w ⟨x,rfl,h⟩;rw [bf E.gT] at g;rw [bf O.gT] at h;have:=bJ E.gT;refine ⟨_,_,_,rfl,λy z=>(Na ra ra ω (aS a) (by rw [ag,ag];exact a)).s ?_⟩;rintro r A B ⟨F,M,N,rfl,i⟩;rw [ag,ag] at i;exact ⟨_,_,_,rfl,λC D=>⟨_,_,_,rfl,ra⟩⟩
end Go.Proofs.Tryz
namespace Go.Proofs.Tryz
open Go.Eng Go.Shelf
def nP {k : Nat}{f B : Func}(h : prog.funcs[k]? = some f)(u : (f.name == "runtime.NumGoroutine") = false := by kernel_rfl)(e : f = { B with name := f.name } := by kernel_rfl) : Bears prog k B := ⟨_, u, h.m (Æ some e)⟩
def Js {k:Nat}{f B:Func}(h:prog.funcs[k]?=some f)(e:f=B:=by kernel_rfl):prog.funcs[k]?=some B:=h.m (Æ some e)
abbrev layP:Ren:=⟨λ|6=>108|15=>180|14=>179|28=>236|29=>237|20=>228|21=>229|22=>230|23=>231|24=>232|25=>233|26=>234|27=>235|46=>277|47=>278|48=>279|49=>280|50=>281|57=>298|n=>n,λ|22=>101|24=>99|25=>190|3=>3|39=>266|0=>0|53=>271|55=>228|4=>4|46=>314|45=>313|50=>318|5=>5|9=>9|66=>358|70=>362|76=>375|77=>376|n=>n,λn=>n⟩
def G7:SlLaysF0.n6 prog layP:=
 ⟨ζ,nP func108,nP func179,Js func180,nP func228,nP func229,nP func230,nP func231,nP func232,nP func233,nP func234,nP func235,Js func236,Js func237,nP func277,Js func278,Js func279,nP func280,nP func281,nP func298,underlying0,isAgg0,sizeOf0,zeroValue0,underlying3,isAgg3,sizeOf3,zeroValue3,underlying4,isAgg4,sizeOf4,zeroValue4,underlying5,isAgg5,sizeOf5,zeroValue5,underlying9,isAgg9,sizeOf9,zeroValue9,underlying101,isAgg101,sizeOf101,zeroValue101,underlying190,isAgg190,sizeOf190,zeroValue190,underlying266,isAgg266,sizeOf266,zeroValue266,underlying313,isAgg313,sizeOf313,zeroValue313,underlying314,isAgg314,sizeOf314,zeroValue314,underlying318,isAgg318,sizeOf318,zeroValue318,underlying271,isAgg271,sizeOf271,zeroValue271,underlying228,isAgg228,sizeOf228,zeroValue228,underlying358,isAgg358,sizeOf358,zeroValue358,underlying362,isAgg362,sizeOf362,zeroValue362,underlying375,isAgg375,sizeOf375,zeroValue375,underlying376,isAgg376,sizeOf376,zeroValue376⟩
def aggP:∀w,(isAgg (layP.t 24)).run prog w=.ok true w:=isAgg99
def sizP:∀w,(Go.sizeOf (layP.t 24)).run prog w=.ok 6 w:=sizeOf99
abbrev layL:Ren:=⟨λ|6=>153|15=>180|14=>212|28=>236|29=>237|20=>259|21=>260|22=>261|23=>262|24=>263|25=>264|26=>265|27=>266|46=>290|47=>278|48=>279|49=>291|50=>292|57=>299|n=>n,λ|22=>175|24=>105|25=>241|3=>3|39=>266|0=>0|53=>271|55=>228|4=>4|46=>314|45=>313|50=>318|5=>5|9=>9|66=>358|70=>362|76=>375|77=>376|n=>n,λn=>n⟩
def G6:SlLaysF0.n6 prog layL:=
 ⟨ζ,nP func153,nP func212,Js func180,nP func259,nP func260,nP func261,nP func262,nP func263,nP func264,nP func265,nP func266,Js func236,Js func237,nP func290,Js func278,Js func279,nP func291,nP func292,nP func299,underlying0,isAgg0,sizeOf0,zeroValue0,underlying3,isAgg3,sizeOf3,zeroValue3,underlying4,isAgg4,sizeOf4,zeroValue4,underlying5,isAgg5,sizeOf5,zeroValue5,underlying9,isAgg9,sizeOf9,zeroValue9,underlying175,isAgg175,sizeOf175,zeroValue175,underlying241,isAgg241,sizeOf241,zeroValue241,underlying266,isAgg266,sizeOf266,zeroValue266,underlying313,isAgg313,sizeOf313,zeroValue313,underlying314,isAgg314,sizeOf314,zeroValue314,underlying318,isAgg318,sizeOf318,zeroValue318,underlying271,isAgg271,sizeOf271,zeroValue271,underlying228,isAgg228,sizeOf228,zeroValue228,underlying358,isAgg358,sizeOf358,zeroValue358,underlying362,isAgg362,sizeOf362,zeroValue362,underlying375,isAgg375,sizeOf375,zeroValue375,underlying376,isAgg376,sizeOf376,zeroValue376⟩
def aggL:∀w,(isAgg (layL.t 24)).run prog w=.ok true w:=isAgg105
def sizL:∀w,(Go.sizeOf (layL.t 24)).run prog w=.ok 9 w:=sizeOf105
abbrev layC:Ren:=⟨λ|6=>269|15=>180|14=>294|28=>236|29=>237|20=>303|21=>304|22=>305|23=>306|24=>307|25=>308|26=>309|27=>310|46=>313|47=>278|48=>279|49=>314|50=>315|57=>316|n=>n,λ|22=>347|24=>350|25=>352|3=>3|39=>266|0=>0|53=>271|55=>228|4=>4|46=>314|45=>313|50=>318|5=>5|9=>9|66=>358|70=>362|76=>375|77=>376|n=>n,λn=>n⟩
def G5:SlLaysF0.n6 prog layC:=
 ⟨ζ,nP func269,nP func294,Js func180,nP func303,nP func304,nP func305,nP func306,nP func307,nP func308,nP func309,nP func310,Js func236,Js func237,nP func313,Js func278,Js func279,nP func314,nP func315,nP func316,underlying0,isAgg0,sizeOf0,zeroValue0,underlying3,isAgg3,sizeOf3,zeroValue3,underlying4,isAgg4,sizeOf4,zeroValue4,underlying5,isAgg5,sizeOf5,zeroValue5,underlying9,isAgg9,sizeOf9,zeroValue9,underlying347,isAgg347,sizeOf347,zeroValue347,underlying352,isAgg352,sizeOf352,zeroValue352,underlying266,isAgg266,sizeOf266,zeroValue266,underlying313,isAgg313,sizeOf313,zeroValue313,underlying314,isAgg314,sizeOf314,zeroValue314,underlying318,isAgg318,sizeOf318,zeroValue318,underlying271,isAgg271,sizeOf271,zeroValue271,underlying228,isAgg228,sizeOf228,zeroValue228,underlying358,isAgg358,sizeOf358,zeroValue358,underlying362,isAgg362,sizeOf362,zeroValue362,underlying375,isAgg375,sizeOf375,zeroValue375,underlying376,isAgg376,sizeOf376,zeroValue376⟩
def aggC:∀w,(isAgg (layC.t 24)).run prog w=.ok true w:=isAgg350
def sizC:∀w,(Go.sizeOf (layC.t 24)).run prog w=.ok 5 w:=sizeOf350
abbrev Ub:Ren:=⟨λ|133=>239|128=>236|n=>n,λ|51=>271|3=>3|4=>4|46=>266|5=>5|9=>9|n=>n,λn=>n⟩
def KO:Lays.n133 prog Ub:=
 ⟨ζ,Js func236,Js func239,underlying3,isAgg3,sizeOf3,zeroValue3,underlying4,isAgg4,sizeOf4,zeroValue4,underlying5,isAgg5,sizeOf5,zeroValue5,underlying9,isAgg9,sizeOf9,zeroValue9,underlying266,isAgg266,sizeOf266,zeroValue266,underlying271,isAgg271,sizeOf271,zeroValue271⟩
abbrev Rp:Ren:=⟨λ|264=>275|n=>n,λ|53=>228|46=>266|n=>n,λn=>n⟩
def GS:Lays.n264 prog Rp:=
 ⟨ζ,Js func275,underlying266,isAgg266,sizeOf266,zeroValue266,underlying228,isAgg228,sizeOf228,zeroValue228⟩
end Go.Proofs.Tryz
namespace Go.Big
def dV (n:Nat):Nat:=if n=0 then 0 else n.log2+1
def wK (n:Nat):n<2^dV n:=by unfold dV;split;{subst_vars;decide};exact Nat.lt_log2_self
def Bk {n:Nat}(h:n≠0):2^(dV n-1)<=n:=by unfold dV;rw [Ã h];exact Nat.log2_self_le h
def JK {n b:Nat}(y:n<2^b)(u:b=0\/2^(b-1)<=n):dV n=b:=by rcases u with u|u;{subst u;have:n=0:=by{simpa using y};subst this;rfl};have a:n≠0:=by{have:=Ļ (b-1);omega};have c:=wK n;have d:=Bk a;have e:¬dV n<b:=λh=>by{have:=ŀ (n:=2) ω (show dV n<=b-1 by omega);omega};have f:¬b<dV n:=λh=>by{have:=ŀ (n:=2) ω (show b<=dV n-1 by omega);omega};omega
def mJ {n b:Nat}:dV n<=b↔n<2^b:=by constructor;{intro h;exact ł (wK n) (ŀ ω h)};intro h;rcases ę b (dV n) with a|a;{have c:n≠0:=by{intro e;subst e;simp [dV] at a};have:=Bk c;have:=ŀ (n:=2) ω (show b<=dV n-1 by omega);omega};exact a
end Go.Big
namespace Go.Proofs.Tryz
open Go.Eng Go.Big Go.Proofs Go.Shelf
variable{V:Ó}
theorem j7 (a k:Nat):((a:Nat):Int).fdiv (2^k)=((a / 2^k:Nat):Int):=χ
theorem FV {f:FuncId}{args:Array un}{V:ut}{v:un}(u:iK prog f)(h:Calls prog f args V.w λe w'=>e=.returned v/\w'=V.w):À f args V λr _=>r=v:=
 ⟨u,h.s λe w' ⟨a,b⟩=>by subst b;exact ⟨v,a,kI.refl _ _,rfl⟩⟩
theorem lt_bl:∀x:Nat,x<2^64->x<2^Lib.bitLen x:=by
 intro x
 induction x using Nat.strongRecOn<;>grind [Lib.bitLen_half]
theorem bl_eq {x:Nat}(h:x<2^64:=by omega):Lib.bitLen x=dV x:=
 Nat.le_antisymm (Lib.bitLen_le x _ (mJ.2 h) (wK x)) (mJ.2 (lt_bl x h))
theorem jh (x:Nat)(u:x<4294967296):À 239 #[Ô .u32 (x:Int)] V λr W=>r=Ô .i64 (32-(dV x:Int)):=by have h:=FV (V:=V) ⟨_,KO.f133,rfl,ζ⟩ (Any.bits_LeadingZeros32 KO (x:Int) V.w ω ω);rw [ß,bl_eq] at h;exact h
theorem and64 (a:Nat)(u:a<18446744073709551616:=by omega):ch .and .u64 (a:Int) 4294967295=((a%4294967296:Nat):Int):=by rw [ch,Ar];have b:(BitVec.ofInt IntKind.u64.bits ((a:Nat):Int) &&& BitVec.ofInt IntKind.u64.bits 4294967295).toNat=a%4294967296:=by{show (BitVec.ofInt 64 ((a:Nat):Int) &&& BitVec.ofInt 64 ((4294967295:Nat):Int)).toNat=_;rw [Ţ,Ţ,BitVec.toNat_and,Ũ,Ũ,ĩ ω,ĩ ω];have:=Nat.and_two_pow_sub_one_eq_mod a 32;exact this};omega
theorem WQ (x y:Nat)(u:x<18446744073709551616)(z:y<18446744073709551616:=by omega):À 275 #[Ô .u64 (x:Int),Ô .u64 (y:Int)] V λr W=>r=ê #[Ô .u64 ((x*y / 18446744073709551616:Nat):Int),Ô .u64 ((x*y%18446744073709551616:Nat):Int)]:=
 FV (V:=V) ⟨_,GS.f264,rfl,ζ⟩ (Any.bits_Mul64 GS x y u z V.w)
theorem WM (x y c:Nat)(u:x<4294967296)(z:y<4294967296)(D:c<4294967296:=by omega):À 283 #[Ô .u32 (x:Int),Ô .u32 (y:Int),Ô .u32 (c:Int)] V λr W=>r=ê #[Ô .u32 (((x+y+c)%4294967296:Nat):Int),Ô .u32 (((x+y+c) / 4294967296:Nat):Int)]:=by refine vw V _ ⟨ω,λd e=>?_⟩;simp (disch:=omega) only [bw,kX,xf];have a:((x:Int)+y+c)%4294967296=(((x+y+c)%4294967296:Nat):Int):=ω;have b:((x:Int)+y+c) / 4294967296%4294967296=(((x+y+c) / 4294967296:Nat):Int):=ω;rw [a,b]
end Go.Proofs.Tryz
namespace Go.Proofs.Tryz
open Go.Eng Go.Big
variable{V:Ó}{p:OA}{c n r:Nat}{ds:List Nat}
theorem UP (a b:Nat)(u:a<4294967296)(y:b<4294967296):ch .or .u64 (b:Int) ((a:Int)*4294967296)=(b:Int)+(a:Int)*4294967296:=by have h:ch .or .u64 (b:Int) ((a:Int)*4294967296)=ch .or .u64 ((a:Int)*4294967296) (b:Int):=by{simp only [ch,BitVec.or_comm]};rw [h,K0 a b u y];omega
theorem or64z (b:Nat)(u:b<4294967296):ch .or .u64 0 (b:Int)=b:=by have:=K0 0 b ω u;simpa using this
theorem oW (h:RD V p n c ds)(hm:ds.length<=2^40:=by omega):À 208 #[yD p n c] V λr W=>r=ê #[Ô .u64 ((if val ds<18446744073709551616 then val ds else 0:Nat):Int),gF (decide (val ds<18446744073709551616))]:=by refine L_ V _ λv w=>(bC ra).s ?_;rintro r V2 y ⟨n,rfl,e⟩;rw [bf h.gT] at e;generalize val ds=x at *;have A:=e.len;have B:(ah x).length<=2↔x<18446744073709551616:=aR (k:=2);refine ⟨_,_,_,rfl,λa C D=>?_,λa=>?_⟩;{have a:¬x<18446744073709551616:=by{simp at a;omega};rw [Ã a,È a];rfl};have l:x<18446744073709551616:=by{simp at a;omega};rw [Ä l,Ç l];have E:n<=2:=ω;refine ⟨λz V'=>0<=z.2/\z.2<=n/\z.1=(val ((ah x).take z.2.toNat):Int),λz=>n-z.2.toNat,⟨(0,0),by (try dsimp only);and_intros<;>trivial,ω,ω,ψ⟩,?_⟩;rintro ⟨u,i⟩ F o ⟨d,f,hu⟩;dsimp only at d f hu ⊢;subst hu;obtain ⟨i,rfl⟩:=đ d;simp only [ß];refine ⟨θ,λb=>?_,λb G H=>?_⟩;{have b:i<n:=by{simpa using b};refine (e.le o).rd i rfl ω ?_;have m:=(aP x).get (i:=i) ω;simp (disch:=omega) only [aq];refine ⟨ω,(_,_),?_,by (try dsimp only);and_intros<;>trivial,?_⟩;{(try dsimp only);omega};(try dsimp only);refine ⟨ω,ω,?_⟩;have g:((i:Int)+1).toNat=i+1:=ω;rw [g,aD _ _];have q:i=0\/i=1:=ω;rcases q with rfl|rfl;{simp (disch:=omega) only [bw];have j:(min ((32:Int)*((0:Nat):Int)).toNat IntKind.u64.bits)=0:=φ;rw [j];simp (disch:=omega) only [bw,Int.pow_zero,Int.mul_one,Qd4,gQ,Nat.pow_zero,ŗ,č];exact or64z _ m};have j:(min ((32:Int)*((1:Nat):Int)).toNat IntKind.u64.bits)=32:=φ;have a:0<(ah x).length:=ω;have s:(ah x).take 1=[(ah x)[0]]:=by{rw [Qz0 a];rfl};have t:((2:Int)^32)=4294967296:=φ;rw [j,s,t];simp (disch:=omega) only [bw];simp only [bP,gQ,İ,ğ];rw [UP _ _ m ((aP x).get (i:=0) a)];omega};have b:i=n:=by{simp at b;omega};subst b;rw [ar,ag]
theorem lH (h:RD V p n c ds)(hm:ds.length<=2^40):À 204 #[yD p n c] V λr W=>r=Ô .i64 (dV (val ds):Int):=by have k:=bJ h.gT;refine L7 V _ λo q=>(bC ra).s ?_;rintro r V2 s ⟨n,rfl,g⟩;rw [bf h.gT] at g;generalize val ds=x at *;have l:=g.len;refine ⟨_,_,_,rfl,λf t u=>?_,λf=>?_⟩;{have:ah x=[]:=Ĥ.1 (by simp at f;omega);have:=bS.1 this;subst this;rfl};have f:0<n:=by{simp at f;omega};simp (disch:=omega) only [aq];refine g.rd (n-1) ω ω λv w=>(jh _ ((aP x).get ω)).s λr y z rfl=>⟨_,rfl,λA B=>?_⟩;have C:=(aP x).get (i:=n-1) ω;have a:(ah x)[n-1]≠0:=by{have:=(mg x).last ω;simpa [l] using this};have D:dV (ah x)[n-1]<=32:=mJ.2 ω;simp (disch:=omega) only [aq];have key:dV x=32*(n-1)+dV (ah x)[n-1]:=by{have e:=jF (ah x) (n-1) ω;rw [ag,ń ω] at e;simp only [gQ,İ,ğ] at e;have b:=ja ((aP x).take (n-1));rw [ì,Ħ ω] at b;have j:(4294967296:Nat)^(n-1)=2^(32*(n-1)):=by{rw [Wx2]};rw [j] at e b;generalize (ah x)[n-1]=d at *;have m:0<dV d:=by{unfold dV;rw [Ã a];omega};refine JK ?_ (.inr ?_);{rw [Ĕ];have:2^(32*(n-1))*(d+1)<=2^(32*(n-1))*2^dV d:=Ő _ (wK d);rw [Ĵ,Ġ] at this;omega};rw [show 32*(n-1)+dV d-1=32*(n-1)+(dV d-1) from by omega,Ĕ];have:2^(32*(n-1))*2^(dV d-1)<=2^(32*(n-1))*d:=Ő _ (Bk a);omega};rw [key];congr 1;omega
theorem KR {E S t x y e Y B D:Nat}(h:E+B*D*c=S+B*x*Y)(u:t=c+x*y+e):E+B*D*(t%4294967296)+B*D*4294967296*(t / 4294967296)=S+B*D*e+B*x*(Y+D*y):=by have a:B*D*(t%4294967296)+B*D*4294967296*(t / 4294967296)=B*D*t:=by{rw [ŏ (B*D),<-Ĵ,Qg9]};rw [Ŗ,a,u];grind
theorem jm {q:OA}{m e:Nat}{xa xb:zA Nat}(ha:RD V p n c xa)(hb:RD V q m e xb)(hm:xa.length+xb.length<=2^40:=by omega):À 172 #[yD p n c,yD q m e] V λr W=>∃p' n' c',r=yD p' n' c'/\RN W p' n' c' (val xa*val xb):=by
 have la:=bJ ha.gT;have lb:=bJ hb.gT;refine OD V _ λV1 l1=>(bC ra).s ?_;rintro r V2 l2 ⟨n,rfl,o⟩;rw [bf ha.gT] at o;refine ⟨_,_,_,rfl,λV3 R=>(bC ra).s ?_⟩;rintro r V4 S ⟨m,rfl,F⟩;rw [bf hb.gT] at F
 replace o:=o.le (R.m S)
 have T:=o.len;have MI:=F.len;have u:val xa=val (ah (val xa)):=(ag _).symm;have v:val xb=val (ah (val xb)):=(ag _).symm;rw [u,v];clear u v;generalize ah (val xa)=xs at *;generalize ah (val xb)=ys at *;refine ⟨_,_,_,rfl,?_⟩;simp (disch:=omega) only [aq,eu];have H:((n:Int)+m).toNat=n+m:=ω
 rw [H]
 refine ⟨ω,ω,ω,λz V'=>0<=z.1/\z.1<=n/\∃es:zA Nat,z.2=aO es/\es.length=n+m/\cR es /\
  val (es.take (z.1.toNat+m))=val (xs.take z.1.toNat)*val ys,λz=>n-z.1.toNat,⟨(0,aO (List.replicate (n+m) 0)),η,by (try dsimp only);omega,by (try dsimp only);omega,_,rfl,ψ,cR.rep _,by simp [Bw,Qs0]⟩,?_⟩
 rintro ⟨i,U⟩ V5 W ⟨w,I,es,rfl,J,g,y⟩;dsimp only at w I y ⊢;obtain ⟨i,rfl⟩:=đ w;simp only [ß] at y;refine ⟨θ,λs=>?_,λs=>?_⟩
 ·have s:i<n:=by simpa using s
  refine (o.le W).rd i rfl ω ?_;have Et:=o.gT.get (i:=i) ω
  refine ⟨λz V'=>0<=z.1/\z.1<=4294967295/\0<=z.2.1/\z.2.1<=m/\∃a:zA Nat,z.2.2=aO a/\a.length=n+m/\cR a/\a.drop (i+z.2.1.toNat)=es.drop (i+z.2.1.toNat) /\
   val (a.take (i+z.2.1.toNat))+4294967296^(i+z.2.1.toNat)*z.1.toNat=val (es.take (i+z.2.1.toNat))+4294967296^i*xs[i]*val (ys.take z.2.1.toNat),λz=>m-z.2.1.toNat,
   ⟨(0,0,aO es),η,by (try dsimp only);omega,by (try dsimp only);omega,by (try dsimp only);omega,by (try dsimp only);omega,es,rfl,J,g,rfl,ψ⟩,?_⟩
  rintro ⟨G,k,U⟩ X Y ⟨A,K,B,L,a,rfl,C,h,d,hw⟩;dsimp only at A K B L d hw ⊢;obtain ⟨k,rfl⟩:=đ B;obtain ⟨G,rfl⟩:=đ A;simp only [ß] at d hw;refine ⟨θ,λf=>?_,λf=>?_⟩
  ·have f:k<m:=by{simpa using f};refine (F.le au).rd k rfl ω ?_;have Z:=F.gT.get (i:=k) ω;have P:=h.get (i:=i+k) ω;have M:a[i+k]'ω=es[i+k]'ω:=by{have Q:a[i+k]?=es[i+k]?:=by{have:=Æ (λl=>l[0]?) d;simpa [Qm3] using this};rw [ô ω,ô ω] at Q;exact ś Q};simp (disch:=omega) only [aq];have j:((i:Int)+k).toNat=i+k:=ω;rw [j];refine ⟨Ź,((a[i+k]'ω:Nat):Int),by rw [č,Ġ];exact iZ ω,Ź,by simp;omega,ω,?_⟩;have a0:xs[i]*ys[k]<=4294967295*4294967295:=Qg3 ω ω;have D:(xs[i]:Int)*(ys[k]:Int)=((xs[i]*ys[k]:Nat):Int):=ψ;obtain ⟨t,ht⟩:∃t:Nat,t=G+xs[i]*ys[k]+a[i+k]'ω:=⟨_,rfl⟩;rw [Ĕ] at hw;have b:=KR hw ht;have e1:u64.wrap ((G:Int)+u64.wrap (u64.wrap (u64.wrap (xs[i]:Int)*u64.wrap (ys[k]:Int))+u64.wrap ((a[i+k]'ω:Nat):Int)))=(t:Int):=by{clear b;generalize xs[i]*ys[k]=pq at *;rw [bw (x:=(xs[i]:Int)) ω,bw (x:=(ys[k]:Int)) ω,D,bw (x:=((pq:Nat):Int)) ω];simp (disch:=omega) only [bw];omega};rw [e1,kX,xf];refine ⟨(_,_,_),?_,η,?_⟩;{(try dsimp only);omega};(try dsimp only);have E:((k:Int)+1).toNat=k+1:=ω;refine ⟨ω,ω,ω,ω,a.set (i+k) (t%4294967296),?_,by simpa using C,h.set _ _ ω,?_,?_⟩;{rw [<-bT];simp};{rw [E,Qn7 ω];have:=Æ (List.drop 1) d;simpa [Qh8,Wy4,Ŗ,Nat.add_left_comm] using this};rw [E,show i+(k+1)=i+k+1 from by omega,aV _ _ _,aD es (i+k),aD ys k,<-M,ħ];have e2:((t:Int) / 4294967296).toNat=t / 4294967296:=ω;rw [e2,Ĕ,b]
  ·have f:k=m:=by{simp at f;omega};subst f;simp (disch:=omega) only [aq];have j:((i:Int)+k).toNat=i+k:=ω;rw [j];refine ⟨Ź,by simp;omega,(_,_),?_,η,?_⟩;{(try dsimp only);omega};(try dsimp only);have N:((i:Int)+1).toNat=i+1:=ω;refine ⟨ω,ω,a.set (i+k) G,?_,by simpa using C,h.set _ _ ω,?_⟩;{rw [<-bT,xl ω];simp};rw [N,show i+1+k=i+k+1 from by omega,aV _ _ _,hw,y,aD xs i,ar (ds:=ys)];grind
 ·have s:i=n:=by{simp at s;omega};subst s;intro X Y bk O;refine (bC (RD.aX O g (n:=i+m) (c:=i+m) ω (Ú _))).s ?_;rintro r V7 l7 ⟨k,rfl,f⟩;refine ⟨_,_,_,rfl,λ_ V8 l8=>⟨_,_,_,rfl,?_⟩⟩;rw [bf g] at f;rw [ar,ar] at y;rw [y] at f;exact ra
theorem Dp {x A d q rest B W:Nat}(u:A=d*B+rest)(h:d*q+r=rest*W+x):x+W*A=d*(q+W*B)+r:=by subst u;grind
theorem JY {xs:zA Nat}(O:RD V p n c xs)(hm:xs.length<=2^40)(d:Nat)(hd0:d≠0)(hd:d<4294967296):À 257 #[yD p n c,Ô .u32 (d:Int)] V λr W=>∃Z n' c',r=ê #[yD Z n' c',Ô .u32 ((val xs%d:Nat):Int)]/\RN W Z n' c' (val xs / d):=by
 have v:=O.len;refine I6 V _ ⟨ω,ω,ω,?_⟩;simp (disch:=omega) only [aq,bw,ß,eu]
 refine ⟨λz V'=>0<=z.1/\z.1<d/\-1<=z.2.1/\z.2.1<n/\∃es:zA Nat,z.2.2=aO es/\es.length=n/\cR es /\
   val (xs.drop (z.2.1+1).toNat)=d*val (es.drop (z.2.1+1).toNat)+z.1.toNat,λz=>(z.2.1+1).toNat,
   ⟨(0,(n:Int)-1,aO (List.replicate n 0)),η,by (try dsimp only);omega,by (try dsimp only);omega,by (try dsimp only);omega,by (try dsimp only);omega,_,rfl,ψ,cR.rep _,?_⟩,?_⟩
 ·(try dsimp only);rw [ń ω,ń ψ];rfl
 rintro ⟨rest,i,E⟩ V2 w ⟨f,g,h,j,es,rfl,m,b,a⟩;dsimp only at f g h j a ⊢;obtain ⟨rest,rfl⟩:=đ f;refine ⟨θ,λe=>?_,λe=>?_⟩
 ·have e:0<=i:=by{simpa using e};obtain ⟨i,rfl⟩:=đ e;have o:((i:Int)+1).toNat=i+1:=ω;rw [o] at a;simp only [ß] at a;refine ⟨ω,(O.le w).rd i rfl ω ?_⟩;have x:=O.gT.get (i:=i) ω;have s:ch .or .u64 (u64.wrap ((rest:Int)*2^32)) (u64.wrap ((xs[i]:Nat):Int))=((rest*4294967296+xs[i]:Nat):Int):=by{have y:((2:Int)^32)=4294967296:=φ;rw [y,bw ω,bw ω,K0 _ _ ω x];omega};rw [s];have t:((rest*4294967296+xs[i]:Nat):Int).tdiv (d:Int)=(((rest*4294967296+xs[i]) / d:Nat):Int):=by{rw [Qv0 ω];omega};have A:((rest*4294967296+xs[i]:Nat):Int).tmod (d:Int)=(((rest*4294967296+xs[i])%d:Nat):Int):=by{rw [Qk9 ω];omega};rw [t,A];have F:(rest*4294967296+xs[i]) / d<4294967296:=by{rw [Qn4 ω];have:rest+1<=d:=ω;have:=ć 4294967296 this;rw [Ľ 4294967296 d];omega};have G:(rest*4294967296+xs[i])%d<d:=ġ _ ω;have B:=Qd7 (rest*4294967296+xs[i]) d;generalize (rest*4294967296+xs[i]) / d=q at *;generalize (rest*4294967296+xs[i])%d=r at *;simp (disch:=omega) only [bw,xl,aq];refine ⟨ω,Ź,by simp;omega,ω,?_⟩;refine ⟨((r:Int),(i:Int)-1,aO (es.set i q)),?_,?_,?_⟩;{(try dsimp only);omega};{(try dsimp only);(and_intros<;>first|trivial|(rw [<-bT];simp))};(try dsimp only);refine ⟨ω,ω,ω,ω,_,rfl,by simpa using m,b.set _ _ ω,?_⟩;have u:((i:Int)-1+1).toNat=i:=ω;rw [u,ī ω,ī (l:=es.set i q) (by simp;omega),Qg0,Qn7 ω];rw [bP,bP,ß];exact (Dp a B)
 ·have e:i=-1:=by{simp at e;omega};subst e;simp only [ß] at a;have a:val xs=d*val es+rest:=by{simpa using a};intro H I J C;refine (bC (RD.aX C b (n:=n) (c:=n) ω (Ú _))).s ?_;rintro r K L ⟨k,rfl,D⟩;refine ⟨_,_,_,rfl,λ_ M N=>?_⟩;have s:val xs / d=val es:=by{rw [a,Wk9 ω,ũ ω,ğ]};have t:val xs%d=rest:=by{rw [a,Wj0,ĩ ω]};rw [xl ω,s,t];rw [bf b] at D;exact ⟨_,_,_,rfl,ra⟩
theorem NV (a b:Nat)(u:a<4294967296)(y:b<4294967296:=by omega):ch .or .u32 (a:Int) (b:Int)=((a ||| b:Nat):Int):=by rw [ch,kX];have c:(BitVec.ofInt IntKind.u32.bits ((a:Nat):Int) ||| BitVec.ofInt IntKind.u32.bits (b:Int)).toNat=a ||| b:=by{show (BitVec.ofInt 32 ((a:Nat):Int) ||| BitVec.ofInt 32 (b:Int)).toNat=_;rw [Ţ,Ţ,Wk8,Ũ,Ũ,ĩ ω,ĩ ω]};have d:a ||| b<2^32:=Wz4 ω ω;rw [c];omega
theorem or_low {m:Nat}(h:c<2^r):c ||| m*2^r=c+m*2^r:=by rw [Nat.or_comm,<-Wk3,<-Wq8 h,Wy4]
theorem Lx {d:Nat}(u:d<4294967296)(z:r<32)(y:c<2^r):c ||| (d*2^r%4294967296)=c+d*2^r%4294967296/\c+d*2^r%4294967296<4294967296/\d*2^r / 4294967296<2^r/\d*2^r<18446744073709551616:=by have e:4294967296=2^(32-r)*2^r:=by{rw [<-Ĕ,Qm9 ω]};have a:d*2^r%4294967296=(d%2^(32-r))*2^r:=by{rw [e,Nat.mul_mod_mul_right]};have f:d%2^(32-r)+1<=2^(32-r):=ġ _ (Ļ _);have b:=ć (2^r) f;have h:2^r<=2^31:=ŀ ω ω;have g:d*2^r<4294967296*2^r:=Qc7 u (Ļ _);refine ⟨by rw [a,or_low y],?_,?_,ω⟩;{rw [a];rw [ĕ,ŗ] at b;rw [<-e] at b;omega};rw [Qn4 ω,Ľ (2^r)];exact g
theorem Ge (h:RD V p n c ds)(hm:ds.length<=2^40)(k:Nat)(hk:k<=1048576:=by omega):À 288 #[yD p n c,Ô .u64 (k:Int)] V λr W=>∃p' n' c',r=yD p' n' c'/\RN W p' n' c' (val ds*2^k)/\(val ds=0\/c'=(ah (val ds)).length+k / 32+1):=by
 have H:=bJ h.gT;refine OE V _ λW X=>(bC ra).s ?_;rintro r V2 Y ⟨n,rfl,s⟩;rw [bf h.gT] at s;generalize hxv:val ds=x at *;have Z:=s.len;refine ⟨_,_,_,rfl,λq V3 l3=>?_,λq=>?_⟩
 ·have:ah x=[]:=Ĥ.1 (by simp at q;omega);have:=bS.1 this;subst this;rw [ť];exact ⟨_,_,_,rfl,RD.nil,.inl rfl⟩
 ·have q:0<n:=by simp at q;omega
  have E:cN (k:Int) 1048576=k:=by unfold cN;rw [Ã ω]
  have F:(k:Int).tdiv 32=((k / 32:Nat):Int):=by rw [Qv0 ω];omega
  have G:(k:Int).tmod 32=((k%32:Nat):Int):=by rw [Qk9 ω];omega
  rw [E,F,G]
  have t:x*2^k=4294967296^(k / 32)*x*2^(k%32):=by have:2^k=4294967296^(k / 32)*2^(k%32):=by{rw [show (4294967296:Nat)=2^32 from rfl,<-Wx2,<-Ĕ,Qd7]};rw [this];grind
  rw [t];generalize hw:k / 32=w at *;have u:k%32<32:=ġ _ ω;have I:w<=32768:=ω
  generalize k%32=r at *;clear E F G;simp (disch:=omega) only [aq,bw,eu];have v:((n:Int)+w+1).toNat=n+w+1:=ω
  rw [v]
  refine ⟨ω,ω,ω,ω,ω,λz V'=>0<=z.1/\z.1<=n/\∃es:zA Nat,z.2=aO es/\es.length=n+w+1/\cR es/\(∀c,es[z.1.toNat+w]?=some c->c<2^r) /\
   val (es.take (z.1.toNat+w+1))=4294967296^w*val ((ah x).take z.1.toNat)*2^r,λz=>n-z.1.toNat,
   ⟨(0,aO (List.replicate (n+w+1) 0)),η,ω,ω,_,rfl,ψ,cR.rep _,?_,?_⟩,?_⟩
  ·intro c a;rw [Qs7] at a;split at a;{cases a;exact Ļ r};cases a
  ·simp [Qs0,Bw]
  rintro ⟨i,vs⟩ V4 J ⟨f,y,es,rfl,A,b,a,d⟩;dsimp only at f y a d ⊢;obtain ⟨i,rfl⟩:=đ f;simp only [ß] at a d;refine ⟨θ,λe=>?_,λe=>?_⟩
  ·have e:i<n:=by{simpa using e};refine (s.le J).rd i rfl ω ?_;have K:=(aP x).get (i:=i) ω;have B:=a (es[i+w]'ω) (ô _);have ⟨L,g2,M,g4⟩:=Lx K u B;have g:(min ((r:Nat):Int).toNat IntKind.u64.bits)=r:=by{show min _ 64=r;omega};have N:((2:Int)^r)=((2^r:Nat):Int):=ψ;rw [g,N];have hmul:(((ah x)[i]:Nat):Int)*((2^r:Nat):Int)=(((ah x)[i]*2^r:Nat):Int):=ψ;simp (disch:=omega) only [aq];rw [bw (x:=(((ah x)[i]:Nat):Int)) ω,hmul,bw ω,kX,xf];have C:((i:Int)+w).toNat=i+w:=ω;have j:((i:Int)+w+1).toNat=i+w+1:=ω;rw [C,j];refine ⟨ω,Ź,((es[i+w]'ω:Nat):Int),by rw [č,Ġ];exact iZ ω,Ź,by simp;omega,ω,Ź,by simp;omega,?_⟩;have O:(((ah x)[i]*2^r:Nat):Int)%4294967296=(((ah x)[i]*2^r%4294967296:Nat):Int):=ω;have P:(((ah x)[i]*2^r:Nat):Int) / 4294967296=(((ah x)[i]*2^r / 4294967296:Nat):Int):=ω;rw [O,P,NV _ _ ω,L];have Q:=Qg9 ((ah x)[i]*2^r) 4294967296;have R:(ah x)[i]*2^r / 4294967296<4294967296:=ω;have D:val (List.take (i+1) (ah x))=val (List.take i (ah x))+4294967296^i*(ah x)[i]:=aD _ _;have l:val (es.take (i+w+1))=val (es.take (i+w))+4294967296^(i+w)*es[i+w]'ω:=aD _ _;generalize (ah x)[i]*2^r%4294967296=lo at *;generalize hhi:(ah x)[i]*2^r / 4294967296=hi at *;rw [xl ω];refine ⟨((i:Int)+1,aO ((es.set (i+w) (es[i+w]'ω+lo)).set (i+w+1) hi)),?_,?_,?_⟩;{(try dsimp only);omega};{(try dsimp only);(and_intros<;>first|trivial|(rw [<-bT,<-bT];simp))};(try dsimp only);have m:((i:Int)+1).toNat=i+1:=ω;refine ⟨ω,ω,_,rfl,by simpa using A,(b.set _ _ ω).set _ _ ω,?_,?_⟩;{intro c o;rw [m,show i+1+w=i+w+1 from by omega,Qt3 (by simp;omega)] at o;cases o;exact M};rw [m,show i+1+w+1=i+w+1+1 from by omega,aV _ _ _ (by simp;omega),aV _ _ _,D];rw [l] at d;have S:4294967296^(i+w+1)*hi=4294967296^(i+w)*(4294967296*hi):=by{rw [ħ];grind};rw [S,Ĵ,<-Ŗ,d,Ŗ,<-Ĵ,Q,Ĕ];grind
  ·have e:i=n:=by{simp at e;omega};subst e;intro V5 l5 bk T;refine (bC (RD.aX T b (n:=i+w+1) (c:=i+w+1) ω (Ú _))).s ?_;rintro r' V6 l6 ⟨k',rfl,U⟩;refine ⟨_,_,_,rfl,λ_ V7 l7=>⟨_,_,_,rfl,?_,.inr ω⟩⟩;rw [ar,ar,ag] at d;rw [bf b,d] at U;exact ra
theorem Ly {d Y r:Nat}(u:d<4294967296)(y:r<32):(d+4294967296*Y) / 2^r=(d+4294967296*(Y%4294967296)) / 2^r%4294967296+4294967296*(Y / 2^r):=by
 have e:4294967296=2^r*2^(32-r):=by rw [<-Ĕ,Nat.add_sub_cancel' ω]
 have c:=Ļ r;have k:=Ļ (32-r);generalize z:2^r=a at *;generalize D:2^(32-r)=b at *
 have f:∀Z,(d+4294967296*Z) / a=d / a+b*Z:=by intro Z;rw [e,ŏ,Qg6 _ _ c]
 rw [f,f]
 have g:d / a<b:=by rw [Qn4 c,Ľ,<-e];exact u
 have h:b*(Y%4294967296)%4294967296=b*(Y%a):=by rw [e,Ľ a b,Nat.mul_mod_mul_left,Nat.mod_mul_left_mod]
 have l:b*(Y%a)+b<=4294967296:=by have:Y%a+1<=a:=ġ _ c;have:=Ő b this;rw [Ĵ,Ġ,Ľ b a,<-e] at this;exact this
 have i:(d / a+b*(Y%4294967296))%4294967296=d / a+b*(Y%a):=by rw [Nat.add_mod,h,ĩ (a:=d / a) ω,ĩ ω]
 rw [i]
 have j:b*Y=b*(Y%a)+4294967296*(Y / a):=by
  conv=>lhs;rw [<-(Qg9 Y a)]
  rw [Ĵ,<-ŏ,Ľ b a,<-e]
 rw [j];omega
theorem xo {xs:zA Nat}(h:cR xs)(i:Nat):val (xs.drop i)%4294967296=(xs[i]?).getD 0:=by rcases ę i xs.length with a|a;{rw [ī a,bP,ô a,Qf8,Wy9,ĩ (h.get a)]};rw [ń a,Ū a];rfl
theorem QK (h:RD V p n c ds)(hm:ds.length<=2^40)(k:Nat)(hk:k<18446744073709551616:=by omega):À 289 #[yD p n c,Ô .u64 (k:Int)] V λr W=>∃p' n' c',r=yD p' n' c'/\RN W p' n' c' (val ds / 2^k):=by
 have S:=bJ h.gT;refine OG V _ λZ l1=>(bC ra).s ?_;rintro r V2 l2 ⟨n,rfl,B⟩;rw [bf h.gT] at B;generalize val ds=x at *;have hl:=B.len;have P:(k:Int).tdiv 32=((k / 32:Nat):Int):=by rw [Qv0 ω];omega
 have C:(k:Int).tmod 32=((k%32:Nat):Int):=by rw [Qk9 ω];omega
 refine ⟨_,_,_,rfl,?_⟩;rw [P,C]
 have q:x / 2^k=x / 4294967296^(k / 32) / 2^(k%32):=by rw [Nat.div_div_eq_div_mul,show (4294967296:Nat)=2^32 from rfl,<-Wx2,<-Ĕ,Qd7]
 rw [q];have T:k / 32<576460752303423488:=ω
 generalize k / 32=w at *;have E:k%32<32:=ġ _ ω;generalize k%32=r at *;clear P C q;refine ⟨ω,λf V3 l3=>?_,λf=>?_⟩
 ·have f:n<=w:=by{rw [bw ω,bw ω] at f;simp at f;omega};have:x / 4294967296^w=0:=ũ (ł (aR.1 (Ú _)) (ŀ ω ω));rw [this,Wj1];exact ⟨_,_,_,rfl,RD.nil⟩
 ·have f:w<n:=by
   rw [bw ω,bw ω] at f;simp at f;omega
  simp (disch:=omega) only [aq,bw,eu];have F:((n:Int)-w).toNat=n-w:=ω
  rw [F]
  have G:x / 4294967296^w=val ((ah x).drop w):=by have e:val (ah x)=val ((ah x).take w++(ah x).drop w):=by{rw [Qv4]};have s:=ja ((aP x).take w);rw [fA,ag] at e;rw [ì,Ħ ω] at e s;have g:∀y,y=val ((ah x).take w)+4294967296^w*val ((ah x).drop w)->y / 4294967296^w=val ((ah x).drop w):=by{intro y U;rw [U,Qg6 _ _ (Wx3 ω),ũ s,č]};exact g x e
  rw [G]
  refine ⟨ω,ω,ω,ω,ω,λz V'=>0<=z.1/\z.1<=(n-w:Nat)/\∃es:zA Nat,z.2=aO es/\es.length=n-w/\cR es /\
   val (es.take z.1.toNat)+4294967296^z.1.toNat*(val ((ah x).drop (w+z.1.toNat)) / 2^r)=val ((ah x).drop w) / 2^r,λz=>(n-w)-z.1.toNat,
   ⟨(0,aO (List.replicate (n-w) 0)),η,ω,ω,_,rfl,ψ,cR.rep _,ψ⟩,?_⟩
  rintro ⟨i,vs⟩ V4 Q ⟨t,H,es,rfl,I,j,b⟩;dsimp only at t H b ⊢;obtain ⟨i,rfl⟩:=đ t;simp only [ß] at b;refine ⟨θ,λu=>?_,λu=>?_⟩
  ·have u:i<n-w:=by simpa using u
   simp (disch:=omega) only [aq];refine (B.le Q).rd (w+i) ω ω ?_;have R:=(aP x).get (i:=w+i) ω;have v:=Ly (Y:=val ((ah x).drop (w+i+1))) R E;rw [xo (aP x)] at v
   have d:(min ((r:Nat):Int).toNat IntKind.u64.bits)=r:=by show min _ 64=r;omega
   have m:val ((ah x).drop (w+i))=(ah x)[w+i]+4294967296*val ((ah x).drop (w+i+1)):=by rw [ī ω,bP]
   rw [m] at b;rw [v] at b
   have nxt:∀D:Nat,D=((ah x)[w+i]+4294967296*((ah x)[w+i+1]?).getD 0) / 2^r%4294967296 ->
     ∃a:zA Nat,(aO es).set (0+i*1) (Ô .u32 (D:Int))=aO a/\a.length=n-w/\cR a /\
     val (a.take (i+1))+4294967296^(i+1)*(val ((ah x).drop (w+(i+1))) / 2^r)=val ((ah x).drop w) / 2^r:=by
    intro D W;refine ⟨es.set i D,by rw [<-bT];simp,by simpa using I,j.set _ _ ω,?_⟩;rw [aV _ _ _,<-b,W,ħ,Ĵ,Ŗ,ŏ,Ŗ w i 1]
   have A:((i:Int)+1).toNat=i+1:=ω
   refine ⟨λo=>?_,λo=>?_⟩
   ·have o:w+i+1<n:=by{simp at o;omega};refine (B.le Q).rd (w+i+1) ω ω ?_;have J:=(aP x).get (i:=w+i+1) ω;have K:ch .or .u64 (u64.wrap (((ah x)[w+i]:Nat):Int)) (u64.wrap (u64.wrap (((ah x)[w+i+1]:Nat):Int)*2^32))=(((ah x)[w+i]+4294967296*((ah x)[w+i+1]?).getD 0:Nat):Int):=by{have C:((2:Int)^32)=4294967296:=φ;rw [C,bw ω,bw (x:=(((ah x)[w+i+1]:Nat):Int)) ω,bw ω,UP _ _ J R,ô ω,Qf8];omega};rw [K,d,j7,kX];refine ⟨ω,ω,Ź,by simp;omega,?_⟩;have ⟨a,L,M,N,O⟩:=nxt _ rfl;refine ⟨((i:Int)+1,aO a),?_,?_,?_⟩;{(try dsimp only);omega};{(try dsimp only);(and_intros<;>first|trivial|(rw [<-L];simp))};(try dsimp only);exact ⟨ω,ω,a,rfl,M,N,by rw [A];exact O⟩
   ·have o:n<=w+i+1:=by{simp at o;omega};have K:u64.wrap (((ah x)[w+i]:Nat):Int)=(((ah x)[w+i]+4294967296*((ah x)[w+i+1]?).getD 0:Nat):Int):=by{rw [bw ω,Ū ω];simp};rw [K,d,j7,kX];refine ⟨ω,Ź,by simp;omega,?_⟩;have ⟨a,L,M,N,O⟩:=nxt _ rfl;refine ⟨((i:Int)+1,aO a),?_,?_,?_⟩;{(try dsimp only);omega};{(try dsimp only);(and_intros<;>first|trivial|(rw [<-L];simp))};(try dsimp only);exact ⟨ω,ω,a,rfl,M,N,by rw [A];exact O⟩
  ·have u:i=n-w:=by{simp at u;omega};intro V5 l5 bk X;refine (bC (RD.aX X j (n:=n-w) (c:=n-w) ω (Ú _))).s ?_;rintro r' V6 l6 ⟨k',rfl,o⟩;refine ⟨_,_,_,rfl,λ_ V7 l7=>⟨_,_,_,rfl,?_⟩⟩;rw [ar,ń (l:=ah x) (i:=w+i) ω] at b;have b:val es=val ((ah x).drop w) / 2^r:=by{rw [<-b,gQ,Wj1,İ,ğ]};rw [bf j,b] at o;exact ra
end Go.Proofs.Tryz
namespace Go.Big
variable{B G T W Y t' u0 u1 u2 v' v1 v2 ρ:Nat}
theorem Re (hY:Y=(v1*W+v2)*B+v')(hT:T=((u0*W+u1)*W+u2)*B+t')(u:t'<B)(y:G*v1+ρ=u0*W+u1)(z:ρ*W+u2<G*v2):T<G*Y:=by have a:(u0*W+u1)*W+u2+1<=G*(v1*W+v2):=by{grind [Nat.add_mul]};have b:=ć B a;have c:G*(v1*W+v2)*B<=G*Y:=by{rw [hY,ŏ];exact Ő _ (Qr6 _ _)};rw [ĕ,ŗ] at b;omega
theorem GG (hY:Y=(v1*W+v2)*B+v')(hT:T=((u0*W+u1)*W+u2)*B+t')(y:v'<B)(u:1<=v1)(z:0<W)(E:G*v1+ρ=u0*W+u1)(F:G*v2<=ρ*W+u2)(D:G<=W:=by omega):G*Y<T+Y:=by have a:G*(v1*W+v2)<=(u0*W+u1)*W+u2:=by{grind [Nat.add_mul]};have b:=ć B a;have c:G*v'<=W*v':=ć _ D;have d:=Nat.mul_lt_mul_of_pos_left y z;have e:W*B<=v1*W*B:=by{have:=ć (W*B) u;grind};have f:(v1*W+v2)*B=v1*W*B+v2*B:=ĕ _ _ _;have g:G*Y=G*(v1*W+v2)*B+G*v':=by{rw [hY,Ĵ,ŏ]};omega
theorem GH (hY:Y=(v1*W+v2)*B+v')(hT:T=((u0*W+u1)*W+u2)*B+t')(u:v'<B)(h:T<W*Y):u0*W+u1<=v1*W+v2:=by rcases ę (v1*W+v2) (u0*W+u1) with a|a;{exfalso;have b:(v1*W+v2+1)*W<=(u0*W+u1)*W:=ć _ a;have c:=ć B b;have d:W*Y<=W*((v1*W+v2+1)*B):=by{rw [hY,ĕ (v1*W+v2) 1 B,ŗ];exact Ő _ ω};grind};exact a
theorem TY (hY:Y=(v1*W+v2)*B+v')(hT:T=((u0*W+u1)*W+u2)*B+t')(u:t'<B)(hu:u2<W)(y:G*v1+ρ=u0*W+u1)(z:ρ<v1):T<(G+1)*Y:=by have a:u0*W+u1+1<=(G+1)*v1:=by{rw [ĕ,ŗ];omega};have b:=ć (W*B) a;have c:(G+1)*v1*(W*B)<=(G+1)*Y:=by{rw [hY,ŏ];grind};have d:((u0*W+u1)*W+u2)*B+t'<(u0*W+u1+1)*(W*B):=by{have e:(u2+1)*B<=W*B:=ć _ hu;grind};omega
theorem Hc {F U c b g d u Y W S:Nat}{x:Int}(h:F+W*(g*Y)=U+W*S*(c+b))(y:c<4294967296)(z:b<=1)(hu:u<4294967296)(D:x=((u:Int)-((c+g*d)%4294967296:Nat)-b)%18446744073709551616):0<=x/\0<=x / 9223372036854775808/\x / 9223372036854775808<=1 /\ F+W*S*(x%4294967296).toNat+W*(g*(Y+S*d))=U+W*S*u+W*(S*4294967296)*((c+g*d) / 4294967296+(x / 9223372036854775808).toNat):=by have k:=Qg9 (c+g*d) 4294967296;have hm:(c+g*d)%4294967296<4294967296:=ġ _ ω;generalize (c+g*d) / 4294967296=q at *;generalize (c+g*d)%4294967296=m at *;have key:∃o B:Nat,(x%4294967296).toNat=o/\(x / 9223372036854775808).toNat=B/\u+4294967296*B=o+m+b/\0<=x/\0<=x / 9223372036854775808/\x / 9223372036854775808<=1:=χ;obtain ⟨o,B,a,e,l,f,i,j⟩:=key;refine ⟨f,i,j,?_⟩;rw [a,e];have n:u+4294967296*(B+q)=o+b+(c+g*d):=ω;have p:W*S*u+W*(S*4294967296)*(q+B)=W*S*(u+4294967296*(B+q)):=χ;grind
theorem FX {F U c d u Y W S t:Nat}(h:F+W*S*c=U+W*Y)(y:t=c+u+d:=by omega):F+W*S*(t%4294967296)+W*(S*4294967296)*(t / 4294967296)=U+W*S*u+W*(Y+S*d):=by have a:W*S*(t%4294967296)+W*(S*4294967296)*(t / 4294967296)=W*S*t:=by{grind [Nat.mod_add_div]};grind
end Go.Big
