import Derived.Test.YtapnijmlbakblaaGreatDoorS1
set_option linter.unusedVariables false
open Go.IntKind (i64 u64 u32)
namespace Go.Eng
variable {P:Program} {T:cO} {n:Nat} {V0:View} {bA:Em} {β0:Nat->Nat} {st:St} {β:Nat->Nat} {a:Act} {w:World} {V:View}
theorem dg:∀(sc:List Prop)(k:Prop),Aw sc k↔(∀p∈sc,p)/\k
 | [],k=>by simp [Aw]
 | p::r,k=>by
  simp only [Aw,dg r k,List.mem_cons];constructor
  ·rintro ⟨h1,h2,h3⟩;exact ⟨fun q hq=>by rcases hq with rfl|hq;exact h1;exact h2 q hq,h3⟩
  ·rintro ⟨h1,h2⟩;exact ⟨h1 p (.inl rfl),fun q hq=>h1 q (.inr hq),h2⟩
theorem az {t:TypeId}{i:TI}(h:lj P t=some i):∃info d z,P.info? t=some info/\P.underlying t=some d/\info.zero=some z/\i.k=jT d/\i.size=info.size/\i.bytes=info.bytes/\i.zero=z.cells.toList.map C.ofConst:=by
 unfold lj at h;split at h
 ·rename_i info d a b;split at h
  ·rename_i z c;simp only [Option.some.injEq] at h;subst h;exact ⟨info,d,z,a,b,c,rfl,rfl,rfl,rfl⟩
  ·cases h
 ·cases h
theorem Cy (β:Nat->Nat)(y:Value):(C.ofConst y).den β=y:=by
 unfold C.ofConst;split<;>rfl
theorem C2 (β:Nat->Nat)(l:List Value):(l.map C.ofConst).map (C.den β)=l:=by
 induction l with
 | nil=>rfl
 | cons y r ih=>simp only [List.map_cons,Cy,ih]
theorem CP (y:Value):(C.ofConst y).ids=[]:=by unfold C.ofConst;split<;>rfl
theorem A3 (l:List Value):(l.map C.ofConst).flatMap C.ids=[]:=by
 induction l with
 | nil=>rfl
 | cons y r ih=>simp [CP]
theorem aj {t:TypeId}{d:TypeDesc}(h:P.underlying t=some d)(w:World):(underlying t).run P w=.ok d w:=by simp [underlying,h]
theorem jS {t:TypeId}{i:TypeInfo}(h:P.info? t=some i)(w:World):(typeInfo t).run P w=.ok i w:=by simp [typeInfo,h]
theorem aG {t:TypeId}{i:TypeInfo}(h:P.info? t=some i)(w:World):(sizeOf t).run P w=.ok i.size w:=by simp [sizeOf,jS h]
theorem iI {t:TypeId}{i:TypeInfo}{z:Value}(h:P.info? t=some i)(hz:i.zero=some z)(w:World):(zeroValue t).run P w=.ok z w:=by
 simp [zeroValue,jS h,hz]
def qO:TK->Bool
 | .struct _|.arr _ _=>true
 | _=>false
theorem gI {t:TypeId}{d:TypeDesc}(h:P.underlying t=some d)(w:World):(isAgg t).run P w=.ok (qO (jT d)) w:=by
 simp only [isAgg,Sem.run_bind,aj h,Result.andThen_ok];cases d<;>rfl
def Live (st:St)(x:SV):Prop:=∀s∈x.ids,∃b,st.boxes s=some b
theorem zY {k k':IntKind}(h:vG k k'=true):k=k':=by cases k<;>cases k'<;>simp_all [vG]
theorem E5 {op:BinOp}{k:IntKind}{x y:Int}{sc:List Prop}{v:SV}{xt:TypeId}(h:mq op k x y=.ret sc v)(hsc:∀p∈sc,p) :
  (binOp op xt (.int k x) (.int k y)).run P w=.ok (v.den β) w/\v.ids=[]:=by
 cases op<;>simp only [mq,Q.ret.injEq] at h<;>obtain ⟨rfl,rfl⟩:=h <;>
  simp only [List.mem_cons,List.not_mem_nil,or_false,forall_eq,false_imp_iff,implies_true] at hsc <;>
  refine ⟨?_,rfl⟩ <;>
  simp [binOp,Op.intArith,Op.intDiv,Op.intBits,Op.intCmp,Op.shift,SV.den,C.den,bz,hsc]
 all_goals (try (intro h;omega))
theorem Ak {op:BinOp}{k k':IntKind}{x y:Int}{sc:List Prop}{v:SV}{xt:TypeId}(hop:op=.shl\/op=.shr)(h:mq op k x y=.ret sc v)(hsc:∀p∈sc,p) :
  (binOp op xt (.int k x) (.int k' y)).run P w=.ok (v.den β) w/\v.ids=[]:=by
 rcases hop with rfl|rfl<;>simp only [mq,Q.ret.injEq] at h<;>obtain ⟨rfl,rfl⟩:=h <;>
  simp only [List.mem_cons,List.not_mem_nil,or_false,forall_eq] at hsc <;>
  refine ⟨?_,rfl⟩ <;>
  simp [binOp,Op.shift,SV.den,C.den]<;>(intro h;omega)
section eqs
variable {t:TypeId} (d:Nat)
theorem Hv (h:P.underlying t=some .bool)(x y:Bool):(Op.equalIn (d+1) t (.bool x) (.bool y)).run P w=.ok (x==y) w:=by
 simp [Op.equalIn,aj h]
theorem zL {e:TypeId}(h:P.underlying t=some (.pointer e))(p:OA):(Op.equalIn (d+1) t (.pointer p) (.pointer none)).run P w=.ok p.isNone w:=by
 cases p<;>simp [Op.equalIn,aj h]
theorem oH {e:TypeId}(h:P.underlying t=some (.slice e))(p:OA)(n c m k:Nat):(Op.equalIn (d+1) t (.slice p n c) (.slice none m k)).run P w=.ok p.isNone w:=by
 cases p<;>simp [Op.equalIn,aj h]
theorem vq {ms:Array (String×TypeId)}(h:P.underlying t=some (.interface ms)){x:Value}(hx:IsIface x):(Op.equalIn (d+1) t x .nilIface).run P w=.ok (mu x) w:=by
 rcases hx with rfl|⟨u,v,rfl⟩<;>simp [Op.equalIn,aj h,mu]
end eqs
theorem jF {t:TypeId}{x y:Value}{r:Bool}(h:∀d,(Op.equalIn (d+1) t x y).run P w=.ok r w):(Op.equal t x y).run P w=.ok r w:=h 9999
theorem Ch {op:BinOp}{xt:TypeId}{x y:Bool}(ht:P.underlying xt=some .bool)(hop:op=.eql\/op=.neq) :
  (binOp op xt (.bool x) (.bool y)).run P w=.ok (.bool (if op=.eql then x==y else !(x==y))) w:=by
 have:=jF (w:=w) fun d=>Hv d ht x y;rcases hop with rfl|rfl<;>simp only [binOp,Sem.run_bind,this,Result.andThen_ok,Sem.run_pure]<;>rfl
theorem zm {c:C}{b:Bool}(h:c.bool?=some b):c.den β=.bool b/\c.ids=[]:=by
 cases c with
 | v x=>cases x<;>simp_all [C.bool?,C.den,C.ids]
 | _=>simp_all [C.bool?,C.den,C.ids]
theorem CA {d:TypeDesc}{k:IntKind}(h:jT d=.int k):d=.int k:=by cases d<;>simp_all [jT]
theorem AW {d:TypeDesc}(h:jT d=.bool):d=.bool:=by cases d<;>simp_all [jT]
theorem CB {d:TypeDesc}{e:TypeId}(h:jT d=.ptr e):d=.pointer e:=by cases d<;>simp_all [jT]
theorem aT {d:TypeDesc}{e:TypeId}(h:jT d=.slice e):d=.slice e:=by cases d<;>simp_all [jT]
theorem xZ {d:TypeDesc}(h:jT d=.iface):∃ms,d=.interface ms:=by cases d<;>simp_all [jT]
theorem iU {d:TypeDesc}{fs:List (TypeId×Nat)}(h:jT d=.struct fs):∃gs,d=.struct gs/\fs=gs.toList.map fun f=>(f.type,f.offset):=by
 cases d<;>simp_all [jT]
theorem mg {d:TypeDesc}{m:Nat}{e:TypeId}(h:jT d=.arr m e):d=.array m e:=by cases d<;>simp_all [jT]
theorem iK {t:TypeId}{x y:Value}{r:Bool}(neg:Bool)(h:(Op.equal t x y).run P w=.ok r w)
  (hx:(∃p,x=.pointer p/\y=.pointer none)\/(∃p n c m k,x=.slice p n c/\y=.slice none m k)\/(IsIface x/\y=.nilIface)) :
  (binOp (if neg then .neq else .eql) t x y).run P w=.ok (.bool (if neg then !r else r)) w:=by
 rcases hx with ⟨p,rfl,rfl⟩|⟨p,n,c,m,k,rfl,rfl⟩|⟨hx,rfl⟩
 ·cases p<;>cases neg<;>simp only [Bool.false_eq_true,if_false,if_true,binOp,Sem.run_bind,h,Result.andThen_ok,Sem.run_pure]
 ·cases neg<;>simp only [Bool.false_eq_true,if_false,if_true,binOp,Sem.run_bind,h,Result.andThen_ok,Sem.run_pure]
 ·rcases hx with rfl|⟨u,v,rfl⟩<;>cases neg<;>simp only [Bool.false_eq_true,if_false,if_true,binOp,Sem.run_bind,h,Result.andThen_ok,Sem.run_pure]
theorem oI {op:BinOp}{t:TypeId}{x y:Operand}{u v:Value}(h:(∃p,u=.pointer p)\/(∃p n c,u=.slice p n c)\/(∃k n,u=.int k n)\/(∃b,u=.bool b)\/∃c,y=.const c)(hn:v=.nilIface->∃c,y=.const c)(hu:∀cs,u≠.agg cs) :
  (eqGuard op t x y u v).run P w=.ok () w:=by
 have key:∀(m:Sem Unit),m=(match (generalizing:=false) u,v with
   | .nilIface,.nilIface=>do
    if (match (generalizing:=false) x with|.const _=>true|_=>false)||(match (generalizing:=false) y with|.const _=>true|_=>false) then return
    if ← Op.eqGuardIn Op.maxDepth t u v then unsupported (.noEntry "binop/eql: two nil values of an interface type with methods, neither of them the literal nil")
   | .agg _,.agg _=>do
    if !(←program).eqGuardType (←program).depth t then return
    if ← Op.eqGuardIn Op.maxDepth t u v then unsupported (.noEntry "binop/eql: two nil values of an interface type with methods, in a part of a struct or an array")
   | _,_=>pure ())->m.run P w=.ok () w:=by
  intro m hm;rw [hm];clear hm;revert hn hu;split
  ·intro hn _;obtain ⟨c,rfl⟩:=hn rfl;simp
  ·rename_i cs _;intro _ hu;exact absurd rfl (hu cs)
  ·intro _ _;rfl
 cases op<;>first|rfl|exact key _ rfl
theorem Kn {xt:TypeId}{i:TI}(hi:lj P xt=some i){x y:C}(neg:Bool){sc:List Prop}{v:SV}
  (h:Bo neg i.k x y=.ret sc v)(hsc:∀p∈sc,p) :
  (binOp (if neg then .neq else .eql) xt (x.den β) (y.den β)).run P w=.ok (v.den β) w/\v.ids=[] /\
  ((∃p,x.den β=.pointer p)\/(∃p n c,x.den β=.slice p n c)\/y.den β=.nilIface)/\(y.den β=.nilIface->y=.v .nilIface)/\(∀cs,x.den β≠.agg cs):=by
 obtain ⟨info,d,z,j,b,l,g,-⟩:=az hi;unfold Bo at h;split at h
 ·rename_i e a;rw [g] at a;obtain rfl:=CB a;split at h
  ·split at h
   ·simp only [Q.ret.injEq] at h;obtain ⟨rfl,rfl⟩:=h;refine ⟨?_,by cases neg<;>rfl,.inl ⟨_,rfl⟩,by simp [C.den],by simp [C.den]⟩;rename_i s o;have:=iK (w:=w) neg (jF fun d=>zL d b (some ⟨β s,o,none⟩)) (.inl ⟨_,rfl,rfl⟩);cases neg<;>exact this
   ·simp only [Q.ret.injEq] at h;obtain ⟨rfl,rfl⟩:=h;refine ⟨?_,rfl,.inl ⟨_,rfl⟩,by simp [C.den],by simp [C.den]⟩;exact iK (w:=w) neg (jF fun d=>zL d b _) (.inl ⟨_,rfl,rfl⟩)
   ·cases h
  ·cases h
 ·rename_i e a;rw [g] at a;obtain rfl:=aT a;split at h
  ·split at h
   ·simp only [Q.ret.injEq] at h;obtain ⟨rfl,rfl⟩:=h;refine ⟨?_,by cases neg<;>rfl,.inr (.inl ⟨_,_,_,rfl⟩),by simp [C.den],by simp [C.den]⟩;rename_i m k _ s o n c;have:=iK (w:=w) neg (jF fun d=>oH d b (some ⟨β s,o,none⟩) n c m k) (.inr (.inl ⟨_,_,_,_,_,rfl,rfl⟩));cases neg<;>exact this
   ·simp only [Q.ret.injEq] at h;obtain ⟨rfl,rfl⟩:=h;refine ⟨?_,rfl,.inr (.inl ⟨_,_,_,rfl⟩),by simp [C.den],by simp [C.den]⟩;rename_i m k _ s n c;have:=iK (w:=w) neg (jF fun d=>oH d b (mA (β s) c) n c m k) (.inr (.inl ⟨_,_,_,_,_,rfl,rfl⟩));have e:(mA (β s) c).isNone=Nat.beq c 0:=by cases c<;>rfl
    rw [e] at this;exact this
   ·simp only [Q.ret.injEq] at h;obtain ⟨rfl,rfl⟩:=h;refine ⟨?_,rfl,.inr (.inl ⟨_,_,_,rfl⟩),by simp [C.den],by simp [C.den]⟩;exact iK (w:=w) neg (jF fun d=>oH d b _ _ _ _ _) (.inr (.inl ⟨_,_,_,_,_,rfl,rfl⟩))
   ·cases h
  ·cases h
 ·rename_i a;rw [g] at a;obtain ⟨ms,rfl⟩:=xZ a;split at h
  ·split at h
   ·simp only [Q.ret.injEq] at h;obtain ⟨rfl,rfl⟩:=h;have f:=hsc _ (List.mem_singleton.2 rfl);refine ⟨?_,rfl,.inr (.inr rfl),fun _=>rfl,?_⟩
    ·exact iK (w:=w) neg (jF fun d=>vq d b f) (.inr (.inr ⟨f,rfl⟩))
    ·intro cs e;rcases f with f|⟨u,v,f⟩<;>· simp only [C.den] at e;rw [f] at e;cases e
   ·simp only [Q.ret.injEq] at h;obtain ⟨rfl,rfl⟩:=h;refine ⟨?_,by cases neg<;>rfl,.inr (.inr rfl),fun _=>rfl,by simp [C.den]⟩;have:=iK (w:=w) neg (jF fun d=>vq d b (x:=.nilIface) (.inl rfl)) (.inr (.inr ⟨.inl rfl,rfl⟩));cases neg<;>exact this
   ·cases h
  ·cases h
 ·cases h
theorem Kl (hT:cO.ok P T){op:BinOp}{xt:TypeId}{x y:C}{ox oy:Operand}{sc:List Prop}{v:SV}
  (h:Bm T op xt x y=.ret sc v)(hsc:∀p∈sc,p)(hy:y=.v .nilIface->∃c,oy=.const c) :
  (do eqGuard op xt ox oy (x.den β) (y.den β);binOp op xt (x.den β) (y.den β)).run P w=.ok (v.den β) w/\v.ids=[]:=by
 unfold Bm at h;split at h
 ·rename_i i j;have j:=hT _ _ j;obtain ⟨info,d,z,D,l,E,r,-⟩:=az j;split at h
  ·split at h
   ·rename_i k a m b
    have g:(eqGuard op xt ox oy (C.den β (.v (.int k a))) (C.den β (.v (.int m b)))).run P w=.ok () w:=
     oI (.inr (.inr (.inl ⟨_,_,rfl⟩))) (by simp [C.den]) (by simp [C.den])
    have key:(binOp op xt (.int k a) (.int m b)).run P w=.ok (v.den β) w/\v.ids=[]:=by
     split at h
     ·exact Ak (.inl rfl) h hsc
     ·exact Ak (.inr rfl) h hsc
     ·split at h
      ·rename_i e;obtain rfl:=zY e;exact E5 h hsc
      ·cases h
    simp only [Sem.run_bind,g,Result.andThen_ok];exact key
   ·cases h
  ·rename_i n;rw [r] at n;obtain rfl:=AW n;split at h
   ·rename_i a b s t;have o:=zm (β:=β) s;have hy:=zm (β:=β) t
    have g:(eqGuard op xt ox oy (x.den β) (y.den β)).run P w=.ok () w:=by
     rw [o.1,hy.1];exact oI (.inr (.inr (.inr (.inl ⟨_,rfl⟩)))) (by simp) (by simp)
    simp only [Sem.run_bind,g,Result.andThen_ok];rw [o.1,hy.1];split at h
    ·simp only [Q.ret.injEq] at h;obtain ⟨rfl,rfl⟩:=h;exact ⟨Ch l (.inl rfl),rfl⟩
    ·simp only [Q.ret.injEq] at h;obtain ⟨rfl,rfl⟩:=h;exact ⟨Ch l (.inr rfl),rfl⟩
    ·cases h
   ·cases h
  ·have key:∀neg:Bool,Bo neg i.k x y=.ret sc v->(do eqGuard (if neg then .neq else .eql) xt ox oy (x.den β) (y.den β);binOp (if neg then .neq else .eql) xt (x.den β) (y.den β)).run P w=.ok (v.den β) w/\v.ids=[]:=by
    intro neg h;obtain ⟨u,A,f,q,B⟩:=Kn (w:=w) (β:=β) j neg h hsc
    have g:(eqGuard (if neg then BinOp.neq else BinOp.eql) xt ox oy (x.den β) (y.den β)).run P w=.ok () w:=by
     refine oI ?_ (fun e=>hy (q e)) B;rcases f with f|f|f
     ·exact .inl f
     ·exact .inr (.inl f)
     ·exact .inr (.inr (.inr (.inr (hy (q f)))))
    simp only [Sem.run_bind,g,Result.andThen_ok];exact ⟨u,A⟩
   split at h
   ·exact key false h
   ·exact key true h
   ·cases h
 ·cases h
end Go.Eng
namespace Go.Eng
variable {P:Program} {T:cO} {n:Nat} {V0:View} {bA:Em} {β0:Nat->Nat} {st:St} {β:Nat->Nat} {a:Act} {w:World} {V:View}
theorem eL (b o k:Nat):(⟨b,o,none⟩:Addr).add k=⟨b,o+k,none⟩:=by
 unfold Addr.add;split
 ·rename_i h;subst h;rfl
 ·rfl
theorem cell_of_row {g o:Nat}{vs:List Value}{ty:TypeId}(h:w.heap[g]?=some (.cells vs.toArray ty (0,0))):w.cell? ⟨g,o,none⟩=vs[o]?:=by
 simp [World.cell?,h]
theorem C1 {g o m:Nat}{vs:List Value}{ty t:TypeId}{info:TypeInfo}{d:TypeDesc}(h:w.heap[g]?=some (.cells vs.toArray ty (0,0)))
  (h1:P.info? t=some info)(h2:P.underlying t=some d)(hm:info.size=m)(hk:qO (jT d)=true)(hl:o+m<=vs.length) :
  (loadVar t ⟨g,o,none⟩).run P w=.ok (.agg ((vs.drop o).take m).toArray) w:=by
 subst hm
 have key:=run_loadCells_list (P:=P) (w:=w) ⟨g,o,none⟩ ((vs.drop o).take info.size) (by
  intro j v a;rw [eL,cell_of_row h];rw [List.getElem?_take] at a;split at a
  ·rw [List.getElem?_drop] at a;exact a
  ·cases a)
 rw [List.length_take,List.length_drop,Nat.min_eq_left (by omega)] at key;simp only [loadVar,Sem.run_bind,gI h2,Result.andThen_ok,hk,if_true,aG h1,key,Sem.run_pure]
theorem zZ {g o:Nat}{vs:List Value}{ty t:TypeId}{d:TypeDesc}{v:Value}(h:w.heap[g]?=some (.cells vs.toArray ty (0,0)))
  (h2:P.underlying t=some d)(hk:qO (jT d)=false)(hv:vs[o]?=some v) :
  (loadVar t ⟨g,o,none⟩).run P w=.ok v w:=by
 simp only [loadVar,Sem.run_bind,gI h2,Result.andThen_ok,hk,Bool.false_eq_true,if_false,run_load,cell_of_row h,hv]
theorem Mod.row (hM:Mod n V0 bA β0 st β a w V){s:Nat}{b:aO}(hb:st.boxes s=some b)(lb:b.live):w.heap[β s]?=some (.cells (b.cs.den β).toArray b.ty (0,0)):=hM.boxes s b hb lb
theorem gW {cs:List C}{c:C}{s:Nat}(hc:c∈cs)(hs:s∈c.ids):s∈cs.flatMap C.ids:=List.mem_flatMap.2 ⟨c,hc,hs⟩
theorem Ad (hM:Mod n V0 bA β0 st β a w V){t:TypeId}{i:TI}(hi:lj P t=some i){x:SV}{sc:List Prop}{v:SV}(h:jf st.boxes i x=.ret sc v) :
  (Instr.loadAt t (x.den β)).run P w=.ok (v.den β) w/\Live st v:=by
 obtain ⟨info,d,z,D,y,F,A,E,-⟩:=az hi;unfold jf at h;split at h
 ·rename_i b o;split at h
  ·rename_i cs ty B;have e:=hM.row B cD;have f:=hM.xB b _ B;simp only [Cells.den] at e
   have g:qO i.k=true->(if Nat.ble (o+i.size) cs.length then Q.ret [] (.agg ((cs.drop o).take i.size)) else .fail)=.ret sc v ->
     (Instr.loadAt t (SV.den β (.c (.ptr b o)))).run P w=.ok (v.den β) w/\Live st v:=by
    intro j h;split at h
    ·rename_i q;have q:=Nat.le_of_ble_eq_true q;simp only [Q.ret.injEq] at h;obtain ⟨-,rfl⟩:=h;refine ⟨?_,?_⟩
     ·have:=C1 (t:=t) (o:=o) (m:=i.size) e D y E.symm (A▸j) (by simpa using q);simp only [Instr.loadAt,Instr.sureAddr,SV.den,C.den,Sem.run_bind,Sem.run_pure,Result.andThen_ok,this];rw [List.map_take,List.map_drop]
     ·intro s l;obtain ⟨c,p,l⟩:=List.mem_flatMap.1 l;exact f s (gW (List.mem_of_mem_drop (List.mem_of_mem_take p)) l)
    ·cases h
   split at h
   ·rename_i j;exact g (by rw [j];rfl) h
   ·rename_i j;exact g (by rw [j];rfl) h
   ·rename_i r u
    have j:qO i.k=false:=by
     cases hik:i.k<;>first|rfl|exact absurd hik (r _)|exact absurd hik (u _ _)
    split at h
    ·rename_i c p;simp only [Q.ret.injEq] at h;obtain ⟨-,rfl⟩:=h;refine ⟨?_,?_⟩
     ·have:=zZ (t:=t) (o:=o) (v:=c.den β) e y (A▸j) (by simp [p]);simp only [Instr.loadAt,Instr.sureAddr,SV.den,C.den,Sem.run_bind,Sem.run_pure,Result.andThen_ok,this]
     ·intro s l;exact f s (gW (List.mem_of_getElem? p) l)
    ·cases h
  ·cases h
  ·split at h<;>cases h
  ·cases h
 ·split at h<;>cases h
 ·cases h
theorem xu.dY:∀(s:xu) {K:C->Prop},s.ex K->∃c,c.ids=[]/\K c
 | .int _,_,⟨_,h⟩=>⟨_,rfl,h⟩
 | .bool,_,⟨_,h⟩=>⟨_,rfl,h⟩
 | .slice,_,⟨_,_,_,h⟩=>⟨_,rfl,h⟩
 | .ptr,_,⟨_,h⟩=>⟨_,rfl,h⟩
 | .str,_,⟨_,h⟩=>⟨_,rfl,h⟩
 | .any,_,⟨_,h⟩=>⟨_,rfl,h⟩
theorem pO:∀(l:List xu) {K:List C->Prop},OS l K->∃cs,cs.flatMap C.ids=[]/\cs.length=l.length/\K cs
 | [],_,h=>⟨[],rfl,rfl,h⟩
 | s::r,K,h=>by
  obtain ⟨c,hc,h'⟩:=xu.dY s h;obtain ⟨cs,a,b,d⟩:=pO r h';exact ⟨c::cs,by simp [hc,a],by simp [b],d⟩
theorem uB.dY:∀(s:uB) {K:SV->Prop},s.ex K->∃x,x.ids=[]/\((∃c,x=.c c/\∃s',s=.one s')\/∃cs l,x=.agg cs/\s=.agg l/\cs.length=l.length)/\K x
 | .one s,K,h=>by obtain ⟨c,hc,h'⟩:=xu.dY s h;exact ⟨.c c,hc,.inl ⟨c,rfl,s,rfl⟩,h'⟩
 | .agg l,K,h=>by obtain ⟨cs,a,b,h'⟩:=pO l h;exact ⟨.agg cs,a,.inr ⟨cs,l,rfl,rfl,b⟩,h'⟩
theorem vr:∀(l:List uB) {K:List (Bool×List C)->Prop},Qa l K->∃xs,(xs.flatMap fun x=>x.2.flatMap C.ids)=[]/\K xs
 | [],_,h=>⟨[],rfl,h⟩
 | .one s::r,K,h=>by
  obtain ⟨c,hc,h'⟩:=xu.dY s h;obtain ⟨xs,a,b⟩:=vr r h';exact ⟨_,by simp [hc,a],b⟩
 | .agg l::r,K,h=>by
  obtain ⟨cs,hc,-,h'⟩:=pO l h;obtain ⟨xs,a,b⟩:=vr r h';exact ⟨(true,cs)::xs,by simp only [List.flatMap_cons,hc,a,List.append_nil],b⟩
theorem Sh.dY:∀(s:Sh) {K:SV->Prop},s.ex K->∃x,x.ids=[]/\K x
 | .val s,K,h=>by obtain ⟨x,hx,-,h'⟩:=uB.dY s h;exact ⟨x,hx,h'⟩
 | .pt l,K,h=>by obtain ⟨xs,hx,h'⟩:=vr l h;exact ⟨.pt xs,hx,h'⟩
 | .none,K,h=>⟨.pt [],rfl,h⟩
theorem jz {x:SV}(h:x.ids=[])(β β':Nat->Nat):x.den β=x.den β':=SV.bL fun s a=>by rw [h] at a;cases a
theorem bQ {x:SV}(h:x.ids=[]):Live st x:=fun s a=>by rw [h] at a;cases a
theorem Dm:∀(cs:List C) (p:Addr) (i:Nat) {k:Prop},V.MD p i cs k->(∀j c,cs[j]?=some c->V.at (p.add (i+j)) (c.den fun _=>0))/\k
 | [],_,_,_,h=>⟨fun j c hj=>by simp at hj,h⟩
 | c::r,p,i,k,⟨h1,h2⟩=>by
  obtain ⟨h3,h4⟩:=Dm r p (i+1) h2;refine ⟨fun j d hj=>?_,h4⟩
  cases j with
  | zero=>simp at hj;subst hj;exact h1
  | succ j=>simp at hj;have:=h3 j d hj;rwa [show i+1+j=i+(j+1) from by omega] at this
theorem Mod.Uf (hM:Mod n V0 bA β0 st β a w V){p:Addr}{v:Value}(h:V.at p v):w.cell? p=some v:=by
 obtain ⟨d,b⟩:=h;unfold World.cell? at b ⊢;split at b
 ·rename_i c e f g;rw [(hM.ot p.block _ ⟨d,g⟩).1];exact b
 ·cases b
theorem GU {i:TI}{l:List xu}(h:kv i=.agg l):qO i.k=true/\l.length=i.zero.length:=by
 unfold kv at h;split at h
 ·rename_i a;simp only [uB.agg.injEq] at h;subst h;exact ⟨by rw [a];rfl,by simp⟩
 ·rename_i a;simp only [uB.agg.injEq] at h;subst h;exact ⟨by rw [a];rfl,by simp⟩
 ·split at h<;>cases h
theorem GV {i:TI}{s:xu}(h:kv i=.one s):qO i.k=false:=by
 unfold kv at h;split at h
 ·cases h
 ·cases h
 ·rename_i a b;cases hik:i.k<;>first|rfl|exact absurd hik (a _)|exact absurd hik (b _ _)
theorem PM (hM:Mod n V0 bA β0 st β a w V){t:TypeId}{i:TI}(hi:lj P t=some i)(hz:i.zero.length=i.size){p:OA}{x:SV}{k:Prop}
  (hx:x.ids=[])(hs:(∃c,x=.c c/\∃s',kv i=.one s')\/∃cs l,x=.agg cs/\kv i=.agg l/\cs.length=l.length)(h:V.Lm p x k) :
  (Instr.loadAt t (.pointer p)).run P w=.ok (x.den β) w/\k:=by
 obtain ⟨info,d,z,r,o,F,q,u,-⟩:=az hi;rcases hs with ⟨c,rfl,s,hs⟩|⟨cs,l,rfl,hs,y⟩
 ·obtain ⟨⟨f,rfl,g⟩,A⟩:=h;have b:=GV hs;rw [q] at b;refine ⟨?_,A⟩;simp only [Instr.loadAt,Instr.sureAddr,Sem.run_bind,Sem.run_pure,Result.andThen_ok,loadVar,gI o,b,Bool.false_eq_true,if_false,run_load,hM.Uf g];rw [jz hx β fun _=>0];rfl
 ·obtain ⟨f,rfl,B⟩:=h;obtain ⟨b,m⟩:=GU hs;rw [q] at b;obtain ⟨D,E⟩:=Dm cs f 0 B;refine ⟨?_,E⟩
  have key:=run_loadCells_list (P:=P) (w:=w) f (cs.map (C.den fun _=>0)) (by
   intro j v e;rw [List.getElem?_map] at e
   cases hc:cs[j]? with
   | none=>rw [hc] at e;cases e
   | some c=>
    rw [hc] at e;simp only [Option.map_some,Option.some.injEq] at e;subst e;have:=hM.Uf (D j c hc);simpa using this)
  rw [List.length_map,y,m,hz,u] at key;simp only [Instr.loadAt,Instr.sureAddr,Sem.run_bind,Sem.run_pure,Result.andThen_ok,loadVar,gI o,b,if_true,aG r,key];rw [jz hx β fun _=>0];rfl
theorem Af (hM:Mod n V0 bA β0 st β a w V){t:TypeId}{i:TI}(hi:lj P t=some i){b o:Nat}{vs:List Value}{ty:TypeId}(hb:st.boxes b=some ⟨.row vs,ty⟩\/(st.boxes b=some ⟨.aP vs,ty⟩/\i.size≠0)){x:SV}
  (hx:x.ids=[])(hs:(∃c,x=.c c/\∃s',kv i=.one s')\/∃cs l,x=.agg cs/\kv i=.agg l/\cs.length=l.length)(h:MJ vs o i.size x) :
  (Instr.loadAt t (SV.den β (.c (.ptr b o)))).run P w=.ok (x.den β) w:=by
 obtain ⟨info,d,z,p,j,A,k,q,-⟩:=az hi
 have g:w.heap[β b]?=some (.cells vs.toArray ty (0,0)):=by
  rcases hb with hb|⟨hb,B⟩
  ·exact hM.row hb cq
  ·refine hM.row hb (eg fun e=>?_);subst e;rcases hs with ⟨c,rfl,s,hs⟩|⟨cs,l,rfl,hs,r⟩
   ·simp [MJ] at h
   ·have:=h.1;simp at this;omega
 rcases hs with ⟨c,rfl,s,hs⟩|⟨cs,l,rfl,hs,r⟩
 ·have f:=GV hs;rw [k] at f;have:=zZ (t:=t) (o:=o) g j f h;rw [show SV.den β (.c c)=C.den (fun _=>0) c from jz (x:=.c c) hx β _];show (Instr.loadAt t (.pointer (some ⟨β b,o,none⟩))).run P w=_;simp only [Instr.loadAt,Instr.sureAddr,Sem.run_bind,Sem.run_pure,Result.andThen_ok,this]
 ·obtain ⟨f,u⟩:=GU hs;rw [k] at f;obtain ⟨v,y⟩:=h;have:=C1 (t:=t) (o:=o) (m:=i.size) g p j q.symm f v;simp only [Instr.loadAt,Instr.sureAddr,C.den,SV.den,Sem.run_bind,Sem.run_pure,Result.andThen_ok,this,y];have:=jz (x:=.agg cs) hx β fun _=>0;simp only [SV.den,Value.agg.injEq] at this;rw [this]
theorem PE {c:C}(h:∀p∈eX c,p):(c.den β).oneCell'=true:=by
 cases c with
 | v x=>cases x<;>first|rfl|exact (h False (by simp [eX])).elim
 | w x=>exact h (x.oneCell'=true) (by simp [eX])
 | _=>rfl
theorem Hr {v:Value}(h:v.oneCell'=true):v.cells=#[v]:=by cases v<;>first|rfl|simp [Value.oneCell'] at h
theorem SV.rj {x:SV}(ht:x.vF=false)(h:∀p∈x.eX,p):(x.den β).cells=(x.cells.map (C.den β)).toArray/\∀v∈x.cells.map (C.den β),v.oneCell'=true:=by
 have b:∀c∈x.cells,(c.den β).oneCell'=true:=fun c a=>PE fun p d=>h p (List.mem_flatMap.2 ⟨c,a,d⟩);refine ⟨?_,fun v e=>by obtain ⟨c,a,rfl⟩:=List.mem_map.1 e;exact b c a⟩
 cases x with
 | c c=>exact Hr (b c (by simp [SV.cells]))
 | agg cs=>rfl
 | pt xs=>cases ht
theorem ji {g:Nat}{old cs:Array Value}{ty:TypeId}(h:w.heap[g]?=some (.cells old ty (0,0))):(w.setRow g cs).heap=w.heap.setIfInBounds g (.cells cs ty (0,0)):=by
 apply Array.ext_getElem?;intro i;by_cases e:i=g
 ·subst e;rw [setRow_heap w i old cs ty (0,0) h,Array.getElem?_setIfInBounds,if_pos rfl,if_pos (ax h)]
 ·rw [setRow_other w g i cs e,Array.getElem?_setIfInBounds,if_neg (Ne.symm e)]
theorem eC {cs:List C}{vs:List Value}(h:jG cs=some vs):cs.map (C.den β)=vs/\cs.flatMap C.ids=[]:=by
 induction cs generalizing vs with
 | nil=>simp [jG] at h;subst h;exact ⟨rfl,rfl⟩
 | cons c r ih=>
  simp only [jG] at h;split at h
  ·rename_i v ws e a;simp only [Option.some.injEq] at h;subst h;obtain ⟨b,d⟩:=ih a;have:c.den β=v/\c.ids=[]:=by cases c<;>simp_all [C.val?,C.den,C.ids]
   exact ⟨by simp [b,this.1],by simp [d,this.2]⟩
  ·cases h
theorem qt {cs xs:List C}{o:Nat}:(setCells cs o xs).map (C.den β)=(cs.map (C.den β)).take o++xs.map (C.den β)++(cs.map (C.den β)).drop (o+xs.length):=by
 simp [setCells,List.map_take,List.map_drop]
theorem qp {cs xs:List C}{o s:Nat}(h:s∈(setCells cs o xs).flatMap C.ids):s∈cs.flatMap C.ids\/s∈xs.flatMap C.ids:=by
 obtain ⟨c,a,b⟩:=List.mem_flatMap.1 h;simp only [setCells,List.mem_append] at a;rcases a with (a|a)|a
 ·exact .inl (gW (List.mem_of_mem_take a) b)
 ·exact .inr (gW a b)
 ·exact .inl (gW (List.mem_of_mem_drop a) b)
theorem jj {vs xs:List Value}{o:Nat}(h:o+xs.length<=vs.length):aU vs o xs=vs.take o++xs++vs.drop (o+xs.length):=by
 unfold aU;split
 ·rename_i x;have:o<vs.length:=by simp at h;omega
  rw [List.set_eq_take_append_cons_drop,if_pos this];simp
 ·rfl
theorem SV.rk {x:SV}{s:Nat}(ht:x.vF=false):s∈x.cells.flatMap C.ids->s∈x.ids:=by
 cases x with
 | c c=>simp [SV.cells,SV.ids]
 | agg cs=>exact id
 | pt xs=>cases ht
theorem Fs (hM:Mod n V0 bA β0 st β a w V){t:TypeId}{i:TI}(hi:lj P t=some i){av xv:SV}(hx:Live st xv){sc:List Prop}{s:Nat}{b:aO}
  (h:gH st.boxes i av xv=.tI sc s b)(hsc:∀p∈sc,p) :
  ∃w',(Instr.storeAt t (av.den β) (xv.den β)).run P w=.ok () w'/\Mod n V0 bA β0 (st.box s b) β a w' V:=by
 obtain ⟨info,d,z,W,Y,Z,h4,U,-⟩:=az hi;unfold gH at h;split at h
 ·rename_i g o;split at h
  ·rename_i k;simp only [Bool.and_eq_true,beq_eq,Bool.not_eq_eq_eq_not] at k;obtain ⟨hlen,y⟩:=k
   have core:∀(j:List Value)(ty:TypeId)(K:aO),w.heap[β g]?=some (.cells j.toArray ty (0,0))->(∀p∈xv.eX,p)->o+xv.cells.length<=j.length->K.ty=ty ->
     K.cs.den β=j.take o++xv.cells.map (C.den β)++j.drop (o+xv.cells.length) ->
     ∃w',(Instr.storeAt t (SV.den β (.c (.ptr g o))) (xv.den β)).run P w=.ok () w'/\w'.heap=w.heap.setIfInBounds (β g) (K.obj β)/\w'.os=w.os/\w'.tape=w.tape/\w'.output=w.output:=by
    intro j ty K f A hle M B;obtain ⟨D,N⟩:=SV.rj (β:=β) y A;have key:=run_storeCells_at (P:=P) (β g) o ty (xv.cells.map (C.den β)) 0 j.toArray w f (by simpa using hle) N;refine ⟨w.setRow (β g) (j.take o++xv.cells.map (C.den β)++j.drop (o+xv.cells.length)).toArray,?_,?_⟩
    ·generalize xv.den β=v at D;show (Instr.storeAt t (.pointer (some ⟨β g,o,none⟩)) v).run P w=_;simp only [Instr.storeAt,Instr.sureAddr,Sem.run_bind,Sem.run_pure,Result.andThen_ok,storeVar,aG W,D];simp [hlen,U];simpa [hlen,U] using key
    ·exact ⟨by rw [ji f,aO.obj,B,M],rfl,rfl,rfl⟩
   split at h
   ·rename_i cs ty q;split at h
    ·rename_i O;have O:=Nat.le_of_ble_eq_true O;simp only [Q.tI.injEq] at h;obtain ⟨rfl,rfl,rfl⟩:=h;have f:=hM.row q cD;obtain ⟨w',E,F,G,H,I⟩:=core _ _ ⟨.lit (setCells cs o xv.cells),ty⟩ f hsc (by simpa [Cells.den,hlen] using O) rfl (by simp only [Cells.den];exact qt);refine ⟨w',E,hM.tI q cD ?_ F G H I⟩;intro L l;rcases qp l with R|R
     ·exact hM.xB _ _ q L R
     ·exact hx L (SV.rk y R)
    ·cases h
   ·rename_i x ty q;split at h
    ·rename_i xs r;simp only [Q.tI.injEq] at h;obtain ⟨rfl,rfl,rfl⟩:=h;have f:=hM.row q cq;obtain ⟨m,S⟩:=eC (β:=β) r;have hle:o+i.size<=x.length:=hsc _ (by simp);have u:xs.length=i.size:=by rw [←m,List.length_map,hlen]
     obtain ⟨w',E,F,G,H,I⟩:=core _ _ ⟨.row (aU x o xs),ty⟩ f (fun p T=>hsc p (List.mem_append_left _ T)) (by simpa [Cells.den,hlen] using hle) rfl (by
      simp only [Cells.den];rw [jj (by omega),m,hlen,u])
     exact ⟨w',E,hM.tI q cq (by intro L l;simp [Cells.ids] at l) F G H I⟩
    ·cases h
   ·rename_i x ty q;split at h
    ·cases h
    rename_i X;split at h
    ·rename_i xs r;simp only [Q.tI.injEq] at h;obtain ⟨rfl,rfl,rfl⟩:=h;obtain ⟨m,S⟩:=eC (β:=β) r;have hle:o+i.size<=x.length:=hsc _ (by simp)
     have J:aO.live ⟨.aP x,ty⟩:=eg fun e=>by
      subst e;simp at hle;exact X (by rw [hle.2];rfl)
     have f:=hM.row q J;have u:xs.length=i.size:=by rw [←m,List.length_map,hlen]
     obtain ⟨w',E,F,G,H,I⟩:=core _ _ ⟨.aP (aU x o xs),ty⟩ f (fun p T=>hsc p (List.mem_append_left _ T)) (by simpa [Cells.den,hlen] using hle) rfl (by
      simp only [Cells.den];rw [jj (by omega),m,hlen,u])
     exact ⟨w',E,hM.tI q J (by intro L l;simp [Cells.ids] at l) F G H I⟩
    ·cases h
   ·cases h
  ·cases h
 ·cases h
end Go.Eng
namespace Go.Eng
variable {P:Program} {T:cO} {n:Nat} {V0:View} {bA:Em} {β0:Nat->Nat} {st:St} {β:Nat->Nat} {a:Act} {w:World} {V:View}
theorem Hy (xs:List Value):∀(cs:Array Value)(off:Nat),off+xs.length<=cs.size ->
  (xs.toArray.zipIdx.foldl (fun cs (p:Value×Nat)=>cs.setIfInBounds (off+p.2) p.1) cs)=(cs.toList.take off++xs++cs.toList.drop (off+xs.length)).toArray:=by
 have gen:∀(xs:List Value)(k:Nat)(cs:List Value)(off:Nat),off+k+xs.length<=cs.length ->
   (xs.zipIdx k).foldl (fun (cs:Array Value) (p:Value×Nat)=>cs.setIfInBounds (off+p.2) p.1) cs.toArray=(cs.take (off+k)++xs++cs.drop (off+k+xs.length)).toArray:=by
  intro xs
  induction xs with
  | nil=>intro k cs off _;simp
  | cons x r ih=>
   intro k cs off h;simp only [List.length_cons] at h;simp only [List.zipIdx_cons,List.foldl_cons,List.setIfInBounds_toArray];rw [ih (k+1) (cs.set (off+k) x) off (by simp;omega)];congr 1;have a:off+k<cs.length:=by omega
   rw [List.set_eq_take_append_cons_drop,if_pos a]
   have b:(cs.take (off+k)++x::cs.drop (off+k+1)).take (off+(k+1))=cs.take (off+k)++[x]:=by
    rw [List.take_append,List.take_of_length_le (by simp;omega),List.length_take,Nat.min_eq_left (by omega),show off+(k+1)-(off+k)=1 from by omega];simp
   have c:(cs.take (off+k)++x::cs.drop (off+k+1)).drop (off+(k+1)+r.length)=cs.drop (off+k+(r.length+1)):=by
    rw [List.drop_append,List.drop_of_length_le (by simp;omega),List.length_take,Nat.min_eq_left (by omega),show off+(k+1)+r.length-(off+k)=r.length+1 from by omega];simp only [List.nil_append,List.drop_succ_cons,List.drop_drop];congr 1;omega
   rw [b,c];simp
 intro cs off h;have:=gen xs 0 cs.toList off (by simpa using h);simpa [←Array.foldl_toList] using this
theorem mZ {place:Nat->Option (Nat×Nat)}:∀(ps:List (Nat×SV))(cells out:List C),nW place cells ps=some out ->
  (∀x∈ps,∀v:C,v∈x.2.cells->∀p∈eX v,p) ->
  Instr.fill place (cells.map (C.den β)).toArray (ps.map fun x=>(x.1,x.2.den β))=some (out.map (C.den β)).toArray /\
  (∀s∈out.flatMap C.ids,s∈cells.flatMap C.ids\/∃x∈ps,s∈x.2.ids)
 | [],cells,out,h,_=>by
  simp only [nW,Option.some.injEq] at h;subst h;exact ⟨rfl,fun s hs=>.inl hs⟩
 | (i,x)::r,cells,out,h,hone=>by
  simp only [nW] at h;split at h
  ·cases h
  ·rename_i off size hp;split at h
   ·rename_i hc;simp only [Bool.and_eq_true,beq_eq,Bool.not_eq_eq_eq_not] at hc;obtain ⟨⟨hl,hle⟩,hnt⟩:=hc;have hle:=Nat.le_of_ble_eq_true hle;have hnt:x.vF=false:=by simpa using hnt
    have e:∀p∈x.eX,p:=fun p hp=>by
     obtain ⟨v,f,hp⟩:=List.mem_flatMap.1 hp;exact hone (i,x) (by simp) v f p hp
    obtain ⟨b,-⟩:=SV.rj (β:=β) hnt e;obtain ⟨g,j⟩:=mZ r _ _ h (fun y c=>hone y (List.mem_cons_of_mem _ c));refine ⟨?_,?_⟩
    ·simp only [List.map_cons,Instr.fill,hp];rw [if_neg (by rw [b];simp [hl];omega)];rw [b];have:=Hy (x.cells.map (C.den β)) (cells.map (C.den β)).toArray off (by simpa [hl] using hle);rw [this];rw [←g,qt];simp
    ·intro s hs;rcases j s hs with d|⟨y,c,d⟩
     ·rcases qp d with a|a
      ·exact .inl a
      ·exact .inr ⟨(i,x),by simp,SV.rk hnt a⟩
     ·exact .inr ⟨y,List.mem_cons_of_mem _ c,d⟩
   ·cases h
theorem jE (hM:Mod n V0 bA β0 st β a w V):∀(l:List (Nat×Operand))(ps:List (Nat×SV)),partsOf st.a_ l=some ps ->
  (l.map fun x=>(x.1,a.eval x.2))=(ps.map fun x=>(x.1,x.2.den β))/\∀x∈ps,Live st x.2
 | [],ps,h=>by simp only [partsOf,Option.some.injEq] at h;subst h;exact ⟨rfl,fun x hx=>by cases hx⟩
 | (i,o)::r,ps,h=>by
  simp only [partsOf] at h;split at h
  ·rename_i x l hx hl;simp only [Option.some.injEq] at h;subst h;obtain ⟨h1,h2⟩:=jE hM r l hl;refine ⟨by simp [h1,hM.eval hx],fun y b=>?_⟩;rcases List.mem_cons.1 b with rfl|b
   ·exact hM.live hx
   ·exact h2 y b
  ·cases h
theorem fK (hM:Mod n V0 bA β0 st β a w V):∀(l:List Operand)(xs:List SV),bU st.a_ l=some xs ->
  l.map a.eval=xs.map (SV.den β)/\∀x∈xs,Live st x
 | [],xs,h=>by simp only [bU,Option.some.injEq] at h;subst h;exact ⟨rfl,fun x hx=>by cases hx⟩
 | o::r,xs,h=>by
  simp only [bU] at h;split at h
  ·rename_i x l hx hl;simp only [Option.some.injEq] at h;subst h;obtain ⟨h1,h2⟩:=fK hM r l hl;refine ⟨by simp [h1,hM.eval hx],fun y b=>?_⟩;rcases List.mem_cons.1 b with rfl|b
   ·exact hM.live hx
   ·exact h2 y b
  ·cases h
theorem lM (hT:cO.ok P T):∀(gs:List Field)(pl:List (Nat×Nat)),fH T (gs.map fun f=>(f.type,f.offset))=some pl ->
  ∀w:World,(gs.mapM fun f:Field=>do pure (f.offset,←sizeOf f.type)).run P w=.ok pl w
 | [],pl,h,w=>by simp only [List.map_nil,fH,Option.some.injEq] at h;subst h;simp
 | f::r,pl,h,w=>by
  simp only [List.map_cons,fH] at h;split at h
  ·rename_i i l hi hl;simp only [Option.some.injEq] at h;subst h;obtain ⟨info,d,z,h1,h2,h3,h4,h5,-⟩:=az (hT _ _ hi);have:=lM hT r l hl w;simp only [bind_pure_comp] at this;simp [List.mapM_cons,aG h1,this,h5]
  ·cases h
theorem dQ {i:TI}{z:Value}(h:i.zero=z.cells.toList.map C.ofConst):(i.zero.map (C.den β)).toArray=z.cells/\i.zero.flatMap C.ids=[]:=by
 rw [h];exact ⟨by rw [C2],A3 _⟩
theorem Bg {ps:List (Nat×SV)}(h:∀p∈ps.flatMap (fun x=>x.2.eX),p):∀x∈ps,∀v:C,v∈x.2.cells->∀p∈eX v,p:=
 fun x a v b p c=>h p (List.mem_flatMap.2 ⟨x,a,List.mem_flatMap.2 ⟨v,b,c⟩⟩)
theorem parts_eq {parts:Array (Nat×Operand)}{ps:List (Nat×SV)}(h:(parts.toList.map fun x=>(x.1,a.eval x.2))=(ps.map fun x=>(x.1,x.2.den β))) :
  (parts.map fun x=>(x.1,a.eval x.2)).toList=ps.map fun x=>(x.1,x.2.den β):=by rw [Array.toList_map];exact h
theorem AB (hT:cO.ok P T)(hM:Mod n V0 bA β0 st β a w V){t:TypeId}{i:TI}(hi:lj P t=some i){fs:List (TypeId×Nat)}(hk:i.k=.struct fs)
  {parts:Array (Nat×Operand)}{ps:List (Nat×SV)}(hp:partsOf st.a_ parts.toList=some ps){pl:List (Nat×Nat)}(hpl:fH T fs=some pl)
  {cs:List C}(hf:nW (fun j=>pl[j]?) i.zero ps=some cs)(hsc:∀p∈ps.flatMap (fun x=>x.2.eX),p) :
  (Instr.build t (parts.map fun x=>(x.1,a.eval x.2))).run P w=.ok (SV.den β (.agg cs)) w/\Live st (.agg cs):=by
 obtain ⟨info,d,z,b,c,e,g,A,B,l⟩:=az hi;obtain ⟨m,o⟩:=jE hM _ _ hp;rw [g] at hk;obtain ⟨gs,rfl,rfl⟩:=iU hk;obtain ⟨q,r⟩:=dQ (β:=β) l;obtain ⟨f1,f2⟩:=mZ (β:=β) _ _ _ hf (Bg hsc);have hm:=lM hT gs.toList pl hpl w;refine ⟨?_,?_⟩
 ·have u:(gs.mapM fun f:Field=>do pure (f.offset,←sizeOf f.type)).run P w=.ok pl.toArray w:=by
   rw [Array.mapM_eq_mapM_toList];simp only [Sem.run_map,hm,Result.andThen_ok]
  simp only [Instr.build,Sem.run_bind,iI b e,Result.andThen_ok,aj c,u];rw [parts_eq m,←q];have:(fun j:Nat=>pl.toArray[j]?)=fun j:Nat=>pl[j]?:=by funext j;simp
  rw [this,f1];rfl
 ·intro s v;rcases f2 s v with h|⟨x,y,h⟩
  ·rw [r] at h;cases h
  ·exact o x y s h
theorem Ci (hT:cO.ok P T)(hM:Mod n V0 bA β0 st β a w V){t:TypeId}{i:TI}(hi:lj P t=some i){m:Nat}{e:TypeId}(hk:i.k=.arr m e)
  {parts:Array (Nat×Operand)}{ps:List (Nat×SV)}(hp:partsOf st.a_ parts.toList=some ps){ei:TI}(he:ay T e=some ei)
  {cs:List C}(hf:nW (fun j=>some (j*ei.size,ei.size)) i.zero ps=some cs)(hsc:∀p∈ps.flatMap (fun x=>x.2.eX),p) :
  (Instr.build t (parts.map fun x=>(x.1,a.eval x.2))).run P w=.ok (SV.den β (.agg cs)) w/\Live st (.agg cs):=by
 obtain ⟨info,d,z,b,c,f,g,D,E,l⟩:=az hi;obtain ⟨F,G,H,o,I,J,K,q,L,M⟩:=az (hT _ _ he);obtain ⟨r,u⟩:=jE hM _ _ hp;rw [g] at hk;obtain rfl:=mg hk;obtain ⟨v,y⟩:=dQ (β:=β) l;obtain ⟨f1,f2⟩:=mZ (β:=β) _ _ _ hf (Bg hsc);refine ⟨?_,?_⟩
 ·simp only [Instr.build,Sem.run_bind,iI b f,Result.andThen_ok,aj c,aG o];rw [parts_eq r,←v,←q,f1];rfl
 ·intro s A;rcases f2 s A with h|⟨x,B,h⟩
  ·rw [y] at h;cases h
  ·exact u x B s h
theorem HY {α:Type}[Inhabited α](zs:List α)(m:Nat):((List.range (m*zs.length)).map fun j=>zs.toArray[j%zs.length]!)=(List.replicate m zs).flatten:=by
 induction m with
 | zero=>simp
 | succ m ih=>
  rw [List.replicate_succ',List.flatten_append,←ih,Nat.succ_mul,List.range_add,List.map_append];congr 1;simp only [List.flatten_cons,List.flatten_nil,List.append_nil,List.map_map];apply List.ext_getElem?;intro j;rw [List.getElem?_map];by_cases a:j<zs.length
  ·rw [List.getElem?_range a];simp only [Option.map_some,Function.comp];rw [Nat.add_comm,Nat.add_mul_mod_self_right,Nat.mod_eq_of_lt a];simp [a]
  ·rw [List.getElem?_eq_none (by simp;omega),List.getElem?_eq_none (by omega)];rfl
theorem MF (m:Nat)(zs:List C):(rep m zs).map (C.den β)=(List.replicate m (zs.map (C.den β))).flatten:=by
 unfold rep;rw [List.map_flatten,List.map_replicate]
theorem ME {m:Nat}{zs:List C}(h:zs.flatMap C.ids=[]):(rep m zs).flatMap C.ids=[]:=by
 unfold rep
 induction m with
 | zero=>rfl
 | succ m ih=>rw [List.replicate_succ,List.flatten_cons,List.flatMap_append,h,ih];rfl
theorem nH (m:Nat)(zs:List Value):qM m zs=(List.replicate m zs).flatten:=by
 unfold qM;split
 ·rename_i z
  induction m with
  | zero=>rfl
  | succ m ih=>rw [List.replicate_succ,List.replicate_succ,List.flatten_cons,ih];rfl
 ·rfl
theorem qQ {z:Value}{m:Nat}(k:Nat)(hk:k=m*z.cells.size) :
  ((Array.range k).map fun j=>z.cells[j%z.cells.size]!)=((List.replicate m z.cells.toList).flatten).toArray:=by
 apply Array.ext';rw [Array.toList_map,Array.toList_range];subst hk;have:=HY z.cells.toList m;simpa using this
theorem uM {z:Value}{m:Nat}(h0:m*z.cells.size=0):(List.replicate m z.cells.toList).flatten=[]:=by
 rcases Nat.mul_eq_zero.1 h0 with h|h
 ·subst h;rfl
 ·have:z.cells.toList=[]:=by
   have:z.cells.toList.length=0:=by simpa using h
   exact List.length_eq_zero_iff.1 this
  rw [this];simp
theorem Ks:Array.range 0=#[]:=rfl
theorem uO (hT:cO.ok P T)(hM:Mod n V0 bA β0 st β a w V){t:TypeId}{i:TI}(hi:lj P t=some i){e:TypeId}(hk:i.k=.slice e){len:Nat}
  {parts:Array (Nat×Operand)}{ps:List (Nat×SV)}(hp:partsOf st.a_ parts.toList=some ps){ei:TI}(he:ay T e=some ei)
  (hlen:len*ei.size<=16777216)(hzl:ei.zero.length=ei.size)(hz0:ei.size≠0)
  {cs:List C}(hf:nW (fun j=>some (j*ei.size,ei.size)) (rep len ei.zero) ps=some cs)(hsc:∀p∈ps.flatMap (fun x=>x.2.eX),p) :
  (Instr.buildSlice t len (parts.map fun x=>(x.1,a.eval x.2))).run P w=.ok (.slice (some ⟨w.heap.size,0,none⟩) len len) (w.alloc (aO.obj β ⟨.lit cs,e⟩)) /\
  ∀s∈cs.flatMap C.ids,∃b,st.boxes s=some b:=by
 obtain ⟨info,d,z,L,A,M,B,N,O,Q⟩:=az hi;obtain ⟨g,R,l,u,S,D,U,o,W,E⟩:=az (hT _ _ he);obtain ⟨v,F⟩:=jE hM _ _ hp;rw [B] at hk;obtain rfl:=aT hk;obtain ⟨y,G⟩:=dQ (β:=β) E;obtain ⟨f1,f2⟩:=mZ (β:=β) _ _ _ hf (Bg hsc);have f:l.cells.size=g.size:=by rw [←y];simp [hzl,o]
 refine ⟨?_,?_⟩
 ·have c:((List.replicate len l.cells.toList).flatten).toArray=((rep len ei.zero).map (C.den β)).toArray:=by
   rw [MF,←y]
  have H:¬len*g.size>2^24:=by rw [←o];simpa using hlen
  simp only [Instr.buildSlice,Sem.run_bind,aj A,Result.andThen_ok,aG u,Sem.run_ite,if_neg H];by_cases q:len*g.size=0
  ·have I:=uM (z:=l) (m:=len) (by rw [f];exact q);rw [I] at c;simp only [q,if_true,Sem.run_pure,Result.andThen_ok,Ks,Array.map_empty,←c] at f1 ⊢;rw [parts_eq v,←o];have r:Instr.fill (fun j=>some (j*ei.size,ei.size)) #[] (ps.map fun x=>(x.1,x.2.den β))=some (cs.map (C.den β)).toArray:=f1;rw [r];simp only [Sem.run_bind,newRow,run_newObj,Result.andThen_ok,Sem.run_pure];rfl
  ·simp only [q,if_false,iI u D,Sem.run_pure,Result.andThen_ok];rw [qQ (z:=l) (m:=len) (len*g.size) (by rw [f]),c,parts_eq v,←o,f1];simp only [Sem.run_bind,newRow,run_newObj,Result.andThen_ok,Sem.run_pure];rfl
 ·intro s J;rcases f2 s J with h|⟨x,K,h⟩
  ·rw [ME G] at h;cases h
  ·exact F x K s h
theorem Ar {x:Int}(h0:0<=x)(h1:x<9223372036854775808):i64.wrap x=x:=by
 unfold IntKind.wrap IntKind.bits IntKind.signed;simp;omega
theorem yf (hT:cO.ok P T){t:TypeId}{i:TI}(hi:lj P t=some i){e:TypeId}(hk:i.k=.slice e){ei:TI}(he:ay T e=some ei)
  {k1 k2:IntKind}{l c:Int}(hb:ei.bytes≠0)(hs:ei.size≠0){zs:List Value}(hz:jG ei.zero=some zs)(hzl:ei.size=zs.length)
  (c1:0<=l)(c2:l<=c)(c3:(ei.bytes:Int)*c<=140737488355328) :
  (Instr.makeSlice t (.int k1 l) (.int k2 c)).run P w=.ok (.slice (some ⟨w.heap.size,0,none⟩) l.toNat c.toNat) (w.alloc (aO.obj β ⟨.row (qM c.toNat zs),e⟩)):=by
 obtain ⟨info,d,z,B,p,C,q,D,E,F⟩:=az hi;obtain ⟨f,G,g,h,H,r,I,s,u,v⟩:=az (hT _ _ he);rw [q] at hk;obtain rfl:=aT hk;obtain ⟨n,J⟩:=dQ (β:=β) v;obtain ⟨d1,-⟩:=eC (β:=β) hz;have b:g.cells.size=f.size:=by rw [←n,d1];simp [←hzl,s]
 have o:c<=140737488355328:=by
  have:1<=(ei.bytes:Int):=by omega
  have:=Int.mul_le_mul_of_nonneg_right this (by omega:0<=c);omega
 have x:i64.wrap l=l:=Ar c1 (by omega);have y:i64.wrap c=c:=Ar (by omega) (by omega);rw [u] at c3
 have t1:(decide (c<0)||decide ((f.bytes:Int)*c>2^48))=false:=by
  rw [show ((2:Int)^48)=281474976710656 from by decide];simp;omega
 have t2:decide (l<0)=false:=by simp;omega
 have t3:decide (l>c)=false:=by simp;omega
 have a:(List.replicate c.toNat g.cells.toList).flatten=qM c.toNat zs:=by rw [nH,←d1,←n]
 simp only [Instr.makeSlice,Sem.run_bind,aj p,Result.andThen_ok,jS h,asInt,asIntOf,Sem.run_pure,x,y,t1,t2,t3,Bool.or_self,Bool.false_eq_true,if_false,run_askRoom,aG h,Sem.run_ite];by_cases j:c.toNat*f.size=0
 ·have A:=uM (z:=g) (m:=c.toNat) (by rw [b];exact j);rw [A] at a;simp only [j,if_true,Sem.run_bind,Sem.run_pure,Result.andThen_ok,Ks,Array.map_empty,newRow,run_newObj,←a];rfl
 ·simp only [j,if_false,iI h r,Result.andThen_ok];rw [qQ (z:=g) (m:=c.toNat) (c.toNat*f.size) (by rw [b]),a];simp only [Sem.run_bind,newRow,run_newObj,Result.andThen_ok,Sem.run_pure];rfl
end Go.Eng
namespace Go.Eng
variable {P:Program} {T:cO} {n:Nat} {V0:View} {bA:Em} {β0:Nat->Nat} {st:St} {β:Nat->Nat} {a:Act} {w:World} {V:View}
theorem CE {gs:Array Field}{f ft off:Nat}(h:(gs.toList.map fun f=>(f.type,f.offset))[f]?=some (ft,off)):∃Lg,gs[f]?=some Lg/\Lg.type=ft/\Lg.offset=off:=by
 rw [List.getElem?_map] at h
 cases hg:gs.toList[f]? with
 | none=>rw [hg] at h;cases h
 | some Lg=>
  rw [hg] at h;simp only [Option.map_some,Option.some.injEq,Prod.mk.injEq] at h;exact ⟨Lg,by simpa using hg,h.1,h.2⟩
theorem sH (hT:cO.ok P T){t:TypeId}{i:TI}(hi:lj P t=some i){fs:List (TypeId×Nat)}(hk:i.k=.struct fs){f ft off:Nat}(hf:fs[f]?=some (ft,off))
  {fi:TI}(hfi:ay T ft=some fi)(hs:fi.size≠0)(ad:Addr):(Instr.fieldAt t (.pointer (some ad)) f).run P w=.ok (.pointer (some (ad.add off))) w:=by
 obtain ⟨info,d,z,g,a,h,b,j,l,m⟩:=az hi;obtain ⟨n,fd,o,c,p,q,r,s,u,v⟩:=az (hT _ _ hfi);rw [b] at hk;obtain ⟨gs,rfl,rfl⟩:=iU hk;obtain ⟨x,e,rfl,rfl⟩:=CE hf;simp only [Instr.fieldAt,Sem.run_bind,aj a,Result.andThen_ok,e,Instr.sureAddr,Sem.run_pure,fieldPlace,aG c];rw [Sem.run_ite,if_neg (by omega)];rfl
theorem Dd {t:TypeId}{i:TI}(hi:lj P t=some i)(cs:List C)(off:Nat) :
  (qO i.k=true->(part t (cs.map (C.den β)).toArray off).run P w=.ok (SV.den β (.agg ((cs.drop off).take i.size))) w) /\
  (∀c,qO i.k=false->cs[off]?=some c->(part t (cs.map (C.den β)).toArray off).run P w=.ok (c.den β) w):=by
 obtain ⟨info,d,z,f,b,j,e,g,l,m⟩:=az hi;refine ⟨fun a=>?_,fun c a h=>?_⟩
 ·rw [e] at a;simp only [part,Sem.run_bind,gI b,Result.andThen_ok,a,if_true,aG f,Sem.run_pure,SV.den];congr 2;apply Array.ext';rw [←g];simp [List.map_take,List.map_drop,List.extract,List.take_drop]
 ·rw [e] at a;simp [part,gI b,a,h]
theorem Hw (hT:cO.ok P T){t:TypeId}{i:TI}(hi:lj P t=some i){fs:List (TypeId×Nat)}(hk:i.k=.struct fs){f ft off:Nat}(hf:fs[f]?=some (ft,off))
  {fi:TI}(hfi:ay T ft=some fi){cs:List C} :
  (qO fi.k=true->(Instr.field t (SV.den β (.agg cs)) f).run P w=.ok (SV.den β (.agg ((cs.drop off).take fi.size))) w) /\
  (∀c,qO fi.k=false->cs[off]?=some c->(Instr.field t (SV.den β (.agg cs)) f).run P w=.ok (c.den β) w):=by
 obtain ⟨info,d,z,n,g,o,j,p,q,s⟩:=az hi;rw [j] at hk;obtain ⟨gs,rfl,rfl⟩:=iU hk;obtain ⟨b,l,rfl,rfl⟩:=CE hf;have e:=Dd (w:=w) (β:=β) (hT _ _ hfi) cs b.offset
 have a:∀r,(part b.type (cs.map (C.den β)).toArray b.offset).run P w=r->(Instr.field t (SV.den β (.agg cs)) f).run P w=r:=by
  intro r a;simp only [Instr.field,Sem.run_bind,aj g,Result.andThen_ok,l,asAgg,SV.den,Sem.run_pure,a]
 exact ⟨fun h=>a _ (e.1 h),fun c h m=>a _ (e.2 c h m)⟩
theorem dI (k:IntKind)(x:Int):(asIntOf (.int k x)).run P w=.ok (k,x) w:=rfl
theorem wi (hT:cO.ok P T){t:TypeId}{i:TI}(hi:lj P t=some i){x ix:SV}{sc:List Prop}{v:SV}(h:gG T i x ix=.ret sc v)(hsc:∀p∈sc,p) :
  (Instr.indexAt t (x.den β) (ix.den β)).run P w=.ok (v.den β) w/\∀s∈v.ids,s∈x.ids:=by
 obtain ⟨info,d,z,J,j,K,r,L,M,N⟩:=az hi;unfold gG at h;split at h
 ·rename_i k m;split at h
  ·rename_i e l;rw [r] at l;obtain rfl:=aT l;split at h
   ·rename_i u he;obtain ⟨y,A,B,f,D,E,F,g,G,H⟩:=az (hT _ _ he);split at h
    ·rename_i n len c;simp only [Q.ret.injEq] at h;obtain ⟨rfl,rfl⟩:=h;have q:=hsc (n.isSome=true) (by simp);have a:=hsc (0<=m/\m<(len:Int)) (by simp);obtain ⟨p,rfl⟩:=Option.isSome_iff_exists.1 q;refine ⟨?_,fun s b=>b⟩;simp [Instr.indexAt,SV.den,C.den,dI,aj j,a,aG f,ah,g]
    ·rename_i s o len c;simp only [Q.ret.injEq] at h;obtain ⟨rfl,rfl⟩:=h;have a:=hsc (0<=m/\m<(len:Int)) (by simp);refine ⟨?_,fun s b=>by simpa [SV.ids,C.ids] using b⟩;simp [Instr.indexAt,SV.den,C.den,dI,aj j,a,aG f,eL,g]
    ·rename_i s len c;simp only [Q.ret.injEq] at h;obtain ⟨rfl,rfl⟩:=h;have a:=hsc (0<=m/\m<(len:Int)) (by simp);have O:=hsc (len<=c) (by simp);refine ⟨?_,fun s b=>by simpa [SV.ids,C.ids] using b⟩;have I:mA (β s) c=some ⟨β s,0,none⟩:=by unfold mA;rw [if_neg (by omega)]
     simp [Instr.indexAt,SV.den,C.den,dI,aj j,a,aG f,eL,g,I]
    ·cases h
   ·cases h
  ·rename_i len e l;rw [r] at l;obtain rfl:=mg l;split at h
   ·rename_i u he;obtain ⟨y,A,B,f,D,E,F,g,G,H⟩:=az (hT _ _ he);split at h
    ·rename_i s o;simp only [Q.ret.injEq] at h;obtain ⟨rfl,rfl⟩:=h;have a:=hsc (0<=m/\m<(len:Int)) (by simp);refine ⟨?_,fun s b=>by simpa [SV.ids,C.ids] using b⟩;simp [Instr.indexAt,Instr.sureAddr,SV.den,C.den,dI,aj j,a,aG f,eL,g]
    ·rename_i n;simp only [Q.ret.injEq] at h;obtain ⟨rfl,rfl⟩:=h;have q:=hsc (n.isSome=true) (by simp);have a:=hsc (0<=m/\m<(len:Int)) (by simp);obtain ⟨p,rfl⟩:=Option.isSome_iff_exists.1 q;refine ⟨?_,fun s b=>b⟩;simp [Instr.indexAt,Instr.sureAddr,SV.den,C.den,dI,aj j,a,aG f,ah,g]
    ·cases h
   ·cases h
  ·cases h
 ·cases h
theorem Hh {k:IntKind}{x:Int}{y:Nat}(code:BoundsCode)(h:0<=x/\x<=(y:Int)):(Instr.sliceBound (.int k x) y code).run P w=.ok x.toNat w:=by
 simp [Instr.sliceBound,dI,h]
theorem gY {len c:Nat}{lo hi mx:Option SV}{sc:List Prop}{l:Option Nat}{h m:Nat}(hq:nh len c lo hi mx=some (sc,l,h,m))(hsc:∀p∈sc,p) :
  (Instr.sliceBounds true len c (lo.map (SV.den β)) (hi.map (SV.den β)) (mx.map (SV.den β))).run P w=.ok (l.getD 0,h,m) w:=by
 unfold nh at hq
 cases ht:My c mx with
 | none=>rw [ht] at hq;cases hq
 | some t=>
  obtain ⟨g,a⟩:=t;rw [ht] at hq;dsimp only at hq
  cases hh:Km len a hi mx with
  | none=>rw [hh] at hq;cases hq
  | some t=>
   obtain ⟨i,b⟩:=t;rw [hh] at hq;dsimp only at hq
   cases hl:PH b lo with
   | none=>rw [hl] at hq;cases hq
   | some t=>
    obtain ⟨j,f⟩:=t;rw [hl] at hq;simp only [Option.some.injEq,Prod.mk.injEq] at hq;obtain ⟨rfl,rfl,rfl,rfl⟩:=hq
    have hm:((mx=none/\a=c)\/∃k x,mx=some (.c (.v (.int k x)))/\a=x.toNat/\(0<=x/\x<=(c:Int))):=by
     unfold My at ht;split at ht
     ·simp only [Option.some.injEq,Prod.mk.injEq] at ht;exact .inl ⟨rfl,ht.2.symm⟩
     ·rename_i k x;simp only [Option.some.injEq,Prod.mk.injEq] at ht;obtain ⟨rfl,rfl⟩:=ht;exact .inr ⟨k,x,rfl,rfl,hsc _ (by simp)⟩
     ·cases ht
    have d:((hi=none/\mx=none/\b=len)\/∃k x,hi=some (.c (.v (.int k x)))/\b=x.toNat/\(0<=x/\x<=(a:Int))):=by
     unfold Km at hh;split at hh
     ·rename_i k x;simp only [Option.some.injEq,Prod.mk.injEq] at hh;obtain ⟨rfl,rfl⟩:=hh;exact .inr ⟨k,x,rfl,rfl,hsc _ (by simp)⟩
     ·simp only [Option.some.injEq,Prod.mk.injEq] at hh;exact .inl ⟨rfl,rfl,hh.2.symm⟩
     ·cases hh
    have e:((lo=none/\f=none)\/∃k x,lo=some (.c (.v (.int k x)))/\f=some x.toNat/\(0<=x/\x<=(b:Int))):=by
     unfold PH at hl;split at hl
     ·simp only [Option.some.injEq,Prod.mk.injEq] at hl;exact .inl ⟨rfl,hl.2.symm⟩
     ·rename_i k x;simp only [Option.some.injEq,Prod.mk.injEq] at hl;obtain ⟨rfl,rfl⟩:=hl;exact .inr ⟨k,x,rfl,rfl,hsc _ (by simp)⟩
     ·cases hl
    clear ht hh hl hsc
    rcases hm with ⟨rfl,rfl⟩|⟨n,o,rfl,rfl,b1⟩<;>rcases d with ⟨rfl,hx,rfl⟩|⟨k2,x2,rfl,rfl,b2⟩<;>rcases e with ⟨rfl,rfl⟩|⟨k3,x3,rfl,rfl,b3⟩ <;>
     (try cases hx) <;>
     simp only [Instr.sliceBounds,Option.map_none,Option.map_some,SV.den,C.den,Sem.run_bind,Sem.run_pure,Result.andThen_ok,Option.getD_none,Option.getD_some,Option.isSome_none,Option.isSome_some,if_true,Bool.false_eq_true,if_false] <;>
     (repeat (rw [Hh _ (by assumption)];simp only [Result.andThen_ok]))
theorem Fq (hT:cO.ok P T){t:TypeId}{i:TI}(hi:lj P t=some i){e:TypeId}(hk:i.k=.slice e){ei:TI}(he:ay T e=some ei){x:SV}{lo hi' mx:Option SV}{sc:List Prop}{v:SV}
  (h:rL ei.size x lo hi' mx=.ret sc v)(hsc:∀p∈sc,p) :
  (Instr.sliceAt t (x.den β) (lo.map (SV.den β)) (hi'.map (SV.den β)) (mx.map (SV.den β))).run P w=.ok (v.den β) w/\∀s∈v.ids,s∈x.ids:=by
 obtain ⟨info,d,z,y,g,A,u,B,D,E⟩:=az hi;obtain ⟨F,G,H,j,I,J,K,r,L,M⟩:=az (hT _ _ he);rw [u] at hk;obtain rfl:=aT hk;have b:∀p:OA,p.map (fun x=>x.add 0)=p:=by intro p;cases p<;>simp [Addr.add]
 unfold rL at h;split at h
 ·rename_i N len c;split at h
  ·rename_i n q m a;simp only [Q.ret.injEq] at h;obtain ⟨rfl,rfl⟩:=h;have:=gY (P:=P) (w:=w) (β:=β) a hsc;refine ⟨?_,fun s f=>f⟩;simp only [Instr.sliceAt,Instr.slice,SV.den,C.den,Sem.run_bind,aj g,Result.andThen_ok,this,aG j,Sem.run_pure,Option.getD_none,Nat.zero_mul,Nat.sub_zero,b,ite_self]
  ·rename_i n l q m a;simp only [Q.ret.injEq] at h;obtain ⟨rfl,rfl⟩:=h;have:=gY (P:=P) (w:=w) (β:=β) a hsc;refine ⟨?_,fun s f=>f⟩;simp only [Instr.sliceAt,Instr.slice,SV.den,C.den,Sem.run_bind,aj g,Result.andThen_ok,this,aG j,Sem.run_pure,Option.getD_some,r];rfl
  ·cases h
 ·rename_i s o len c;split at h
  ·rename_i n q m a;simp only [Q.ret.injEq] at h;obtain ⟨rfl,rfl⟩:=h;have:=gY (P:=P) (w:=w) (β:=β) a hsc;refine ⟨?_,fun s f=>by simpa [SV.ids,C.ids] using f⟩;simp only [Instr.sliceAt,Instr.slice,SV.den,C.den,Sem.run_bind,aj g,Result.andThen_ok,this,aG j,Sem.run_pure,Option.getD_none,Nat.zero_mul,Nat.sub_zero,b,ite_self]
  ·rename_i n l q m a;simp only [Q.ret.injEq] at h;obtain ⟨rfl,rfl⟩:=h;have:=gY (P:=P) (w:=w) (β:=β) a hsc;refine ⟨?_,fun s f=>by simpa [SV.ids,C.ids] using f⟩;simp only [Instr.sliceAt,Instr.slice,SV.den,C.den,Sem.run_bind,aj g,Result.andThen_ok,this,aG j,Sem.run_pure,Option.getD_some,r];congr 2;unfold Bz;split<;>simp [eL]
  ·cases h
 ·rename_i s len c;split at h
  ·split at h
   ·rename_i n q m a;simp only [Q.ret.injEq] at h;obtain ⟨rfl,rfl⟩:=h
    have hm:m=c:=by
     unfold nh at a;simp only [My] at a;split at a
     ·cases a
     ·split at a
      ·cases a
      ·simp only [Option.some.injEq,Prod.mk.injEq] at a;exact a.2.2.2.symm
    have:=gY (P:=P) (w:=w) (β:=β) a hsc;refine ⟨?_,fun s f=>by simpa [SV.ids,C.ids] using f⟩;simp only [Instr.sliceAt,Instr.slice,SV.den,C.den,Sem.run_bind,aj g,Result.andThen_ok,this,aG j,Sem.run_pure,Option.getD_none,Nat.zero_mul,Nat.sub_zero,b,ite_self,hm]
   ·cases h
  ·cases h
 ·cases h
end Go.Eng
namespace Go.Eng
variable {P:Program} {T:cO} {n:Nat} {V0:View} {bA:Em} {β0:Nat->Nat} {st:St} {β:Nat->Nat} {a:Act} {w:World} {V:View}
theorem dE {s:Sem Value}{v:Value}{w':World}(h:s.run P w=.ok v w'):(do pure (Next.value (←s)):Sem Next).run P w=.ok (.value v) w':=by
 simp [h]
theorem SJ {s:Sem Unit}{w':World}(h:s.run P w=.ok () w'):(do s;pure Next.skip:Sem Next).run P w=.ok .skip w':=by
 simp [h]
theorem rv {f:Int->Int->Int}{k:IntKind}{g:Value->Value->Sem Value}(hg:∀x y k',(g (.int k x) (.int k' y))=pure (.int k (f x y))):∀(r:List SV)(x m:Int),foldI f k x r=some m ->
  ((r.map (SV.den β)).foldlM g (.int k x)).run P w=.ok (.int k m) w
 | [],x,m,h=>by simp only [foldI,Option.some.injEq] at h;subst h;rfl
 | y::r,x,m,h=>by
  unfold foldI at h;split at h
  ·rename_i e;cases e
  ·rename_i k' b r' e;simp only [List.cons.injEq] at e;obtain ⟨rfl,rfl⟩:=e;split at h
   ·simp only [List.map_cons,List.foldlM_cons,SV.den,C.den,hg,pure_bind];exact rv hg r _ m h
   ·cases h
  ·cases h
theorem GX:∀{cs:List C} {l:List (OA×Nat×Nat)} {k:Nat},GW cs=some l->k<l.length->cs[k]?=some (.v (.slice (l.getD k (none,0,0)).1 (l.getD k (none,0,0)).2.1 (l.getD k (none,0,0)).2.2))
 | [],l,k,h,hk=>by cases h;cases hk
 | c::r,l,k,h,hk=>by
  unfold GW at h;split at h
  ·cases ‹_=[]›
  ·rename_i p n d r' e;cases e;split at h
   ·rename_i l' hl';cases h
    cases k with
    | zero=>rfl
    | succ k=>simpa using GX hl' (by simpa using hk)
   ·cases h
  ·cases h
theorem sF {d:TypeDesc}(h:jT d=.str):d=.string:=by cases d<;>simp_all [jT]
theorem Bn {b:Builtin}{xs:List SV}{t:TypeId}{ts:List TypeId}{ty:TypeId}{cs:Array Bool}{i:TI}(hi:lj P t=some i){sc:List Prop}{v:SV}(h:kt b i.k xs=.ret sc v) :
  (builtin b (t::ts).toArray ty cs (xs.map (SV.den β)).toArray).run P w=.ok (.value (v.den β)) w/\v.ids=[]:=by
 obtain ⟨info,d,z,u,l,A,n,B,D,E⟩:=az hi;unfold kt at h;split at h
 ·cases h
 ·rename_i x r;split at h
  ·split at h
   ·rename_i e p m c j;rw [n] at j;obtain rfl:=aT j;simp only [Q.ret.injEq] at h;obtain ⟨rfl,rfl⟩:=h;refine ⟨?_,rfl⟩;simp [builtin,Builtin.len_,aj l,SV.den,C.den,goInt]
   ·rename_i e s o m c j;rw [n] at j;obtain rfl:=aT j;simp only [Q.ret.injEq] at h;obtain ⟨rfl,rfl⟩:=h;refine ⟨?_,rfl⟩;simp [builtin,Builtin.len_,aj l,SV.den,C.den,goInt]
   ·rename_i e s m c j;rw [n] at j;obtain rfl:=aT j;simp only [Q.ret.injEq] at h;obtain ⟨rfl,rfl⟩:=h;refine ⟨?_,rfl⟩;simp [builtin,Builtin.len_,aj l,SV.den,C.den,goInt]
   ·rename_i s j;rw [n] at j;obtain rfl:=sF j;simp only [Q.ret.injEq] at h;obtain ⟨rfl,rfl⟩:=h;refine ⟨?_,rfl⟩;simp [builtin,Builtin.len_,aj l,SV.den,C.den,goInt]
   ·cases h
  ·split at h
   ·rename_i e p m c j;rw [n] at j;obtain rfl:=aT j;simp only [Q.ret.injEq] at h;obtain ⟨rfl,rfl⟩:=h;refine ⟨?_,rfl⟩;simp [builtin,Builtin.cap_,aj l,SV.den,C.den,goInt]
   ·rename_i e s o m c j;rw [n] at j;obtain rfl:=aT j;simp only [Q.ret.injEq] at h;obtain ⟨rfl,rfl⟩:=h;refine ⟨?_,rfl⟩;simp [builtin,Builtin.cap_,aj l,SV.den,C.den,goInt]
   ·rename_i e s m c j;rw [n] at j;obtain rfl:=aT j;simp only [Q.ret.injEq] at h;obtain ⟨rfl,rfl⟩:=h;refine ⟨?_,rfl⟩;simp [builtin,Builtin.cap_,aj l,SV.den,C.den,goInt]
   ·cases h
  ·split at h
   ·rename_i k a;split at h
    ·rename_i m hm;simp only [Q.ret.injEq] at h;obtain ⟨rfl,rfl⟩:=h;refine ⟨?_,rfl⟩;have:=rv (P:=P) (w:=w) (β:=β) (f:=bS) (k:=k) (g:=Builtin.min2) (fun x y q=>by simp [Builtin.min2,bS]) r a m hm;simp [builtin,Builtin.min_,SV.den,C.den] at this ⊢;rw [this];rfl
    ·cases h
   ·cases h
  ·split at h
   ·rename_i k a;split at h
    ·rename_i m hm;simp only [Q.ret.injEq] at h;obtain ⟨rfl,rfl⟩:=h;refine ⟨?_,rfl⟩;have:=rv (P:=P) (w:=w) (β:=β) (f:=bR) (k:=k) (g:=Builtin.max2) (fun x y q=>by simp [Builtin.max2,bR]) r a m hm;simp [builtin,Builtin.max_,SV.den,C.den] at this ⊢;rw [this];rfl
    ·cases h
   ·cases h
  ·cases h
theorem Jb {x:Bool×List C}{y:SV}(h:rl x=some y):ir β x=y.den β/\∀s∈y.ids,s∈x.2.flatMap C.ids:=by
 obtain ⟨b,cs⟩:=x
 cases b with
 | true=>simp only [rl,Option.some.injEq] at h;subst h;exact ⟨rfl,fun s a=>a⟩
 | false=>
  match cs,h with
  | [],h=>simp [rl] at h
  | [c],h=>simp only [rl,Option.some.injEq] at h;subst h;exact ⟨rfl,fun s a=>by simpa [SV.ids] using a⟩
  | _::_::_,h=>simp [rl] at h
theorem sO:∀(xs:List SV)(ss:List Nat),we xs=some ss->xs.map (SV.den β)=(ss.map fun s=>Value.pointer (some ⟨β s,0,none⟩))/\∀s∈ss,∃x∈xs,s∈x.ids
 | [],ss,h=>by simp only [we,Option.some.injEq] at h;subst h;exact ⟨rfl,fun s hs=>by cases hs⟩
 | x::r,ss,h=>by
  unfold we at h;split at h
  ·rename_i e;cases e
  ·rename_i s r' e;simp only [List.cons.injEq] at e;obtain ⟨rfl,rfl⟩:=e;split at h
   ·rename_i l d;simp only [Option.some.injEq] at h;subst h;obtain ⟨f,g⟩:=sO r l d;refine ⟨by simp [f,SV.den,C.den],fun b a=>?_⟩;rcases List.mem_cons.1 a with rfl|a
    ·exact ⟨.c (.ptr b 0),by simp,by simp [SV.ids,C.ids]⟩
    ·obtain ⟨y,i,a⟩:=g b a;exact ⟨y,List.mem_cons_of_mem _ i,a⟩
   ·cases h
  ·cases h
theorem vZ (hM:Mod n V0 bA β0 st β a w V){x:Option Operand}{v:Option SV}(h:Bi st.a_ x=some v):x.map a.eval=v.map (SV.den β):=by
 cases x with
 | none=>simp only [Bi,Option.some.injEq] at h;subst h;rfl
 | some o=>
  simp only [Bi] at h;split at h
  ·rename_i y b;simp only [Option.some.injEq] at h;subst h;simp [hM.eval b]
  ·cases h
theorem nf {x y:SV}(hx:Live st x)(h:∀s∈y.ids,s∈x.ids):Live st y:=fun s a=>hx s (h s a)
theorem lu {bx:Nat->Option aO}{t:TypeId}{x:SV}:lr T bx t x=.fail\/∃sc s b,lr T bx t x=.tI sc s b:=by
 unfold lr;split<;>(try split)<;>(try split)<;>(try split)<;>(try split)<;>(try split)<;>first|exact .inl rfl|exact .inr ⟨_,_,_,rfl⟩
theorem Fo {bx:Nat->Option aO}{t:TypeId}{x:SV}{sc:List Prop}{v:SV}(h:lr T bx t x=.ret sc v):False:=by
 rcases lu (T:=T) (bx:=bx) (t:=t) (x:=x) with e|⟨_,_,_,e⟩<;>rw [e] at h<;>cases h
theorem Dh {bx:Nat->Option aO}{e:TypeId}{ei:TI}{b x:SV}{sc:List Prop}{v:SV}(h:cf bx e ei b x=.ret sc v):False:=by
 unfold cf at h;split at h
 ·cases h
 ·split at h
  ·cases h
  ·dsimp only at h;split at h
   ·cases h
   ·split at h
    ·cases h
    ·split at h
     ·split at h<;>cases h
     ·cases h
    ·split at h
     ·split at h<;>cases h
     ·cases h
    ·cases h
theorem HU (hT:cO.ok P T)(hM:Mod n V0 bA β0 st β a w V){o:Oper}{sc:List Prop}{v:SV}(h:aH T st.a_ st.boxes o.op=.ret sc v)(hsc:∀p∈sc,p) :
  (execOp a.eval o).run P w=.ok (.value (v.den β)) w/\Live st v:=by
 unfold aH at h;split at h
 case h_1 op x hop=>
  split at h
  ·rename_i y hy;simp only [Q.ret.injEq] at h;obtain ⟨rfl,rfl⟩:=h;refine ⟨?_,hM.live hy⟩;simp only [execOp,hop,hM.eval hy];rfl
  ·cases h
 case h_2 op x hop=>
  split at h
  ·rename_i y hy;simp only [Q.ret.injEq] at h;obtain ⟨rfl,rfl⟩:=h;refine ⟨?_,hM.live hy⟩;simp only [execOp,hop,hM.eval hy];rfl
  ·cases h
 case h_3 op c x y hop=>
  split at h
  ·rename_i hc;split at h
   ·rename_i z hz;simp only [Q.ret.injEq] at h;obtain ⟨rfl,rfl⟩:=h;refine ⟨?_,hM.live hz⟩;simp [execOp,hop,hM.eval hz,hM.eval hc,SV.den,C.den,asBool]
   ·cases h
  ·rename_i hc;split at h
   ·rename_i z hz;simp only [Q.ret.injEq] at h;obtain ⟨rfl,rfl⟩:=h;refine ⟨?_,hM.live hz⟩;simp [execOp,hop,hM.eval hz,hM.eval hc,SV.den,C.den,asBool]
   ·cases h
  ·cases h
 case h_4=>split at h<;>cases h
 case h_5=>
  split at h
  ·split at h<;>cases h
  ·cases h
 case h_6 op t parts hop=>
  split at h
  ·rename_i i ps hi hps;have hi:=hT _ _ hi;split at h
   ·rename_i fs hk;split at h
    ·rename_i pl hpl;split at h
     ·rename_i cs hcs;simp only [Q.ret.injEq] at h;obtain ⟨rfl,rfl⟩:=h;obtain ⟨h1,h2⟩:=AB hT hM hi hk hps hpl hcs hsc;refine ⟨?_,h2⟩;simp only [execOp,hop];exact dE h1
     ·cases h
    ·cases h
   ·rename_i m e hk;split at h
    ·rename_i ei CL;split at h
     ·rename_i cs hcs;simp only [Q.ret.injEq] at h;obtain ⟨rfl,rfl⟩:=h;obtain ⟨h1,h2⟩:=Ci hT hM hi hk hps CL hcs hsc;refine ⟨?_,h2⟩;simp only [execOp,hop];exact dE h1
     ·cases h
    ·cases h
   ·cases h
  ·cases h
 case h_7=>
  split at h
  ·split at h
   ·split at h
    ·split at h
     ·split at h<;>cases h
     ·cases h
    ·cases h
   ·cases h
  ·cases h
 case h_8 op t x hop=>
  split at h
  ·rename_i i y hi hy;obtain ⟨h1,h2⟩:=Ad hM (hT _ _ hi) h;refine ⟨?_,h2⟩;simp only [execOp,hop,hM.eval hy];exact dE h1
  ·cases h
 case h_9=>
  split at h
  ·unfold gH at h;split at h
   ·split at h
    ·split at h
     ·split at h<;>cases h
     ·split at h<;>cases h
     ·split at h
      ·cases h
      ·split at h<;>cases h
     ·cases h
    ·cases h
   ·cases h
  ·cases h
 case h_10 op x hop=>
  split at h
  ·rename_i s o hx;simp only [Q.ret.injEq] at h;obtain ⟨rfl,rfl⟩:=h;refine ⟨?_,hM.live hx⟩;simp [execOp,hop,hM.eval hx,SV.den,C.den]
  ·rename_i p hx;simp only [Q.ret.injEq] at h;obtain ⟨rfl,rfl⟩:=h;obtain ⟨ad,rfl⟩:=Option.isSome_iff_exists.1 (hsc (p.isSome=true) (by simp));refine ⟨?_,hM.live hx⟩;simp [execOp,hop,hM.eval hx,SV.den,C.den]
  ·cases h
 case h_11 op Z4 xt x y yt hop=>
  split at h
  ·rename_i p q hp hq
   have key:(q=.v .nilIface->∃c,y=.const c)->Bm T Z4 xt p q=.ret sc v->(execOp a.eval o).run P w=.ok (.value (v.den β)) w/\Live st v:=by
    intro hc h;obtain ⟨h1,h2⟩:=Kl (P:=P) (w:=w) (β:=β) hT (ox:=x) (oy:=y) h hsc hc;refine ⟨?_,bQ h2⟩;simp only [execOp,hop,hM.eval hp,hM.eval hq];exact dE h1
   split at h
   ·split at h
    ·exact key (fun _=>⟨_,rfl⟩) h
    ·cases h
   ·rename_i hne;exact key (fun e=>absurd e hne) h
  ·cases h
 case h_12 op t x hop=>
  split at h
  ·rename_i hx;simp only [Q.ret.injEq] at h;obtain ⟨rfl,rfl⟩:=h;refine ⟨?_,bQ rfl⟩;simp [execOp,hop,hM.eval hx,SV.den,C.den,Op.unary]
  ·rename_i hx;simp only [Q.ret.injEq] at h;obtain ⟨rfl,rfl⟩:=h;refine ⟨?_,bQ rfl⟩;simp [execOp,hop,hM.eval hx,SV.den,C.den,Op.unary]
  ·rename_i b hx;simp only [Q.ret.injEq] at h;obtain ⟨rfl,rfl⟩:=h;refine ⟨?_,bQ rfl⟩;simp [execOp,hop,hM.eval hx,SV.den,C.den,Op.unary]
  ·cases h
 case h_13 op t x hop=>
  split at h
  ·rename_i k m hx;simp only [Q.ret.injEq] at h;obtain ⟨rfl,rfl⟩:=h;refine ⟨?_,bQ rfl⟩;simp [execOp,hop,hM.eval hx,SV.den,C.den,Op.unary,Op.intBits,bz]
  ·cases h
 case h_14 op t x hop=>
  split at h
  ·rename_i k m hx;simp only [Q.ret.injEq] at h;obtain ⟨rfl,rfl⟩:=h;refine ⟨?_,bQ rfl⟩;simp [execOp,hop,hM.eval hx,SV.den,C.den,Op.unary,Op.intArith]
  ·cases h
 case h_15 op src dst x hop=>
  split at h
  ·rename_i i0 i k m hi0 hi hx;obtain ⟨NH,d0,z0,g1,g2,-⟩:=az (hT _ _ hi0);obtain ⟨info,d,z,h1,h2,h3,h4,h5,h6,h7⟩:=az (hT _ _ hi);split at h
   ·rename_i k' hk;rw [h4] at hk;obtain rfl:=CA hk;simp only [Q.ret.injEq] at h;obtain ⟨rfl,rfl⟩:=h;refine ⟨?_,bQ rfl⟩;simp only [execOp,hop,hM.eval hx];refine dE ?_;simp only [convert,Sem.run_bind,aj g2,aj h2,Result.andThen_ok,SV.den,C.den];cases d0<;>rfl
   ·cases h
  ·cases h
 case h_16 op f first caps hop=>
  split at h
  ·rename_i hf;split at h
   ·rename_i xs hxs;split at h
    ·rename_i ss hss;simp only [Q.ret.injEq] at h;obtain ⟨rfl,rfl⟩:=h;obtain ⟨h1,h2⟩:=fK hM _ _ hxs;obtain ⟨h3,h4⟩:=sO (β:=β) _ _ hss;refine ⟨?_,fun s hs=>?_⟩
     ·have e1:first=#[]:=by apply Array.ext';exact hf
      have e2:caps.map a.eval=(ss.map fun s=>Value.pointer (some ⟨β s,0,none⟩)).toArray:=by
       apply Array.ext';rw [Array.toList_map,h1,h3]
      simp [execOp,hop,Instr.makeFunc,e1,e2,SV.den,C.den]
     ·obtain ⟨x,hx,hs'⟩:=h4 s hs;exact h2 x hx s hs'
    ·cases h
   ·cases h
  ·cases h
 case h_17=>
  split at h
  ·unfold Ae at h;split at h
   ·split at h
    ·split at h
     ·split at h
      ·split at h<;>cases h
      ·cases h
     ·cases h
    ·cases h
   ·cases h
  ·cases h
 case h_18 op t x lo hi mx hop=>
  split at h
  ·rename_i i xv l h' m hi' hx hl hh hm;have hi':=hT _ _ hi';split at h
   ·rename_i e hk;split at h
    ·rename_i ei CL;obtain ⟨h1,h2⟩:=Fq (P:=P) (w:=w) (β:=β) hT hi' hk CL h hsc;refine ⟨?_,nf (hM.live hx) h2⟩;simp only [execOp,hop,hM.eval hx,vZ hM hl,vZ hM hh,vZ hM hm];exact dE h1
    ·cases h
   ·cases h
  ·cases h
 case h_19 op t x f hop=>
  split at h
  ·rename_i i xv hi hx;have hi:=hT _ _ hi;split at h
   ·rename_i fs hk;split at h
    ·rename_i ft off hf;split at h
     ·rename_i fi hfi;split at h
      ·cases h
      ·rename_i hs;have hs:fi.size≠0:=fun e=>hs (beq_eq.2 e);split at h
       ·rename_i s o';simp only [Q.ret.injEq] at h;obtain ⟨rfl,rfl⟩:=h;have:=sH (w:=w) hT hi hk hf hfi hs ⟨β s,o',none⟩;rw [eL] at this;refine ⟨?_,nf (hM.live hx) (fun s hs=>by simpa [SV.ids,C.ids] using hs)⟩;simp only [execOp,hop,hM.eval hx];exact dE this
       ·rename_i p;simp only [Q.ret.injEq] at h;obtain ⟨rfl,rfl⟩:=h;obtain ⟨ad,rfl⟩:=Option.isSome_iff_exists.1 (hsc (p.isSome=true) (by simp));have:=sH (w:=w) hT hi hk hf hfi hs ad;refine ⟨?_,bQ rfl⟩;simp only [execOp,hop,hM.eval hx];exact dE this
       ·cases h
     ·cases h
    ·cases h
   ·cases h
  ·cases h
 case h_20 op t x f hop=>
  split at h
  ·rename_i i cs hi hx;have hi:=hT _ _ hi;split at h
   ·rename_i fs hk;split at h
    ·rename_i ft off hf;split at h
     ·rename_i fi hfi;obtain ⟨g1,g2⟩:=Hw (P:=P) (w:=w) (β:=β) hT hi hk hf hfi (cs:=cs)
      have hagg:qO fi.k=true->Q.ret [] (.agg ((cs.drop off).take fi.size))=.ret sc v->(execOp a.eval o).run P w=.ok (.value (v.den β)) w/\Live st v:=by
       intro hk' h;simp only [Q.ret.injEq] at h;obtain ⟨rfl,rfl⟩:=h;refine ⟨?_,nf (hM.live hx) fun s hs=>?_⟩
       ·simp only [execOp,hop,hM.eval hx];exact dE (g1 hk')
       ·obtain ⟨c,hc,hs⟩:=List.mem_flatMap.1 hs;exact gW (List.mem_of_mem_drop (List.mem_of_mem_take hc)) hs
      split at h
      ·rename_i hk';exact hagg (by rw [hk'];rfl) h
      ·rename_i hk';exact hagg (by rw [hk'];rfl) h
      ·rename_i hk1 hk2
       have hk':qO fi.k=false:=by
        cases hik:fi.k<;>first|rfl|exact absurd hik (hk1 _)|exact absurd hik (hk2 _ _)
       split at h
       ·rename_i c hc;simp only [Q.ret.injEq] at h;obtain ⟨rfl,rfl⟩:=h;refine ⟨?_,nf (hM.live hx) fun s hs=>?_⟩
        ·simp only [execOp,hop,hM.eval hx];exact dE (g2 c hk' hc)
        ·exact gW (List.mem_of_getElem? hc) hs
       ·cases h
     ·cases h
    ·cases h
   ·cases h
  ·cases h
 case h_21 op t x ix hop=>
  split at h
  ·rename_i i xv iv hi hx hix;obtain ⟨h1,h2⟩:=wi (P:=P) (w:=w) (β:=β) hT (hT _ _ hi) h hsc;refine ⟨?_,nf (hM.live hx) h2⟩;simp only [execOp,hop,hM.eval hx,hM.eval hix];exact dE h1
  ·cases h
 case h_22 op x j hop=>
  split at h
  ·rename_i xs hx;split at h
   ·rename_i y hy;split at h
    ·rename_i z hz;simp only [Q.ret.injEq] at h;obtain ⟨rfl,rfl⟩:=h;obtain ⟨h1,h2⟩:=Jb (β:=β) hz;refine ⟨?_,nf (hM.live hx) fun s hs=>List.mem_flatMap.2 ⟨y,List.mem_of_getElem? hy,h2 s hs⟩⟩;have:(xs.map (ir β))[j]?=some (z.den β):=by rw [List.getElem?_map,hy];simp [h1]
     simp [execOp,hop,hM.eval hx,SV.den,Instr.extract,hy,h1]
    ·cases h
   ·cases h
  ·cases h
 case h_23 op c hop=>
  split at h
  ·split at h
   ·split at h
    ·split at h
     ·split at h
      ·exact (Dh h).elim
      ·cases h
     ·cases h
    ·cases h
   ·cases h
  ·split at h
   ·exact (Fo h).elim
   ·cases h
  ·rename_i b hb hb2 hc;split at h
   ·rename_i xs t ts hxs hts;split at h
    ·rename_i i hi;obtain ⟨h1,h2⟩:=fK hM _ _ hxs;have e1:c.argTypes=(t::ts).toArray:=by apply Array.ext';exact hts
     have e2:c.args.map a.eval=(xs.map (SV.den β)).toArray:=by apply Array.ext';rw [Array.toList_map];exact h1
     obtain ⟨k1,k2⟩:=Bn (P:=P) (w:=w) (β:=β) (ts:=ts) (ty:=o.type) (cs:=c.args.map fun|.const _=>true|_=>false) (hT _ _ hi) h;refine ⟨?_,bQ k2⟩;simp only [execOp,hop,resolve,hc,pure_bind,invoke,e1,e2];exact k1
    ·cases h
   ·cases h
  ·cases h
 case h_24 op t x ix hop=>
  split at h
  ·rename_i i s k m hi hx hix;split at h
   ·rename_i hk;obtain ⟨info,d,z,h1,h2,h3,h4,h5,h6,h7⟩:=az (hT _ _ hi);rw [h4] at hk;obtain rfl:=sF hk;simp only [Q.ret.injEq] at h;obtain ⟨rfl,rfl⟩:=h;have hb:=hsc _ (List.mem_singleton.2 rfl);refine ⟨?_,bQ rfl⟩;have hlt:m.toNat<s.size:=by omega
    have e:s.data.toList.getD m.toNat 0=s[m.toNat]'hlt:=by
     have:s.data.toList[m.toNat]?=some (s[m.toNat]'hlt):=by
      rw [Array.getElem?_toList];exact Array.getElem?_eq_getElem (by simpa using hlt)
     rw [List.getD_eq_getElem?_getD,this];rfl
    simp only [execOp,hop,hM.eval hx,hM.eval hix,SV.den,C.den];refine dE ?_;rw [run_index_string (w:=w) t s k m h2,dif_pos hb,e]
   ·cases h
  ·rename_i i cs k m hi hx hix;unfold ku at h;split at h
   ·rename_i n e hk;split at h
    ·rename_i ei l CL hl;split at h
     ·rename_i e2 hek;split at h
      ·rename_i hb;rw [Bool.and_eq_true] at hb;simp only [Q.ret.injEq] at h;obtain ⟨rfl,rfl⟩:=h;have hm:=hsc _ (List.mem_singleton.2 rfl);obtain ⟨info,d,z,h1,h2,h3,h4,h5,h6,h7⟩:=az (hT _ _ hi);rw [h4] at hk;obtain rfl:=mg hk;obtain ⟨gU,ed,ez,e1,e2,e3,e4,e5,e6,e7⟩:=az (hT _ _ CL);refine ⟨?_,bQ rfl⟩;have b1:=beq_eq.1 hb.1;have b2:=beq_eq.1 hb.2;have hc:=GX hl (show m.toNat<l.length by omega);have hp:=(Dd (w:=w) (β:=β) (hT _ _ CL) cs m.toNat).2 _ (by rw [hek];rfl) hc;simp only [execOp,hop,hM.eval hx,hM.eval hix];refine dE ?_;have es:m.toNat*gU.size=m.toNat:=by rw [←e5,b1,Nat.mul_one]
       simp only [Instr.index,SV.den,C.den,dI,Sem.run_bind,Result.andThen_ok,aj h2,Sem.run_ite,if_pos hm,aG e1,es];exact hp
      ·cases h
     ·cases h
    ·cases h
   ·cases h
  ·cases h
 case h_25 op t x hop=>
  split at h
  ·rename_i i y hi hx;obtain ⟨info,d,z,h1,h2,h3,h4,h5,h6,h7⟩:=az (hT _ _ hi);unfold wh at h;split at h
   ·cases h
   ·rename_i hk;split at h
    ·rename_i fO htup;simp only [Q.ret.injEq] at h;obtain ⟨rfl,rfl⟩:=h;refine ⟨?_,bQ rfl⟩;simp only [execOp,hop,hM.eval hx];refine dE ?_;have hd:∀ms,d≠.interface ms:=fun ms e=>by rw [e] at h4;exact hk h4
     have e2:y.den β=y.den fun _=>0:=SV.bL fun s hs=>by rw [fO] at hs;cases hs
     show (Instr.makeInterface t (y.den β)).run P w=.ok (.iface t (y.den fun _=>0)) w;rw [e2];generalize y.den (fun _=>0)=u;simp only [Instr.makeInterface,Sem.run_bind,aj h2,Result.andThen_ok];cases d<;>first|rfl|exact absurd rfl (hd _)
    ·cases h
  ·cases h
 case h_26=>cases h
end Go.Eng
