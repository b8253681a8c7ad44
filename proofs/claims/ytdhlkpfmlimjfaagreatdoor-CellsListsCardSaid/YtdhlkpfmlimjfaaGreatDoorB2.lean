import Derived.Test.YtdhlkpfmlimjfaaGreatDoorB1
set_option linter.unusedVariables false
open Go.IntKind (i64 u64 u32)
namespace Go.Eng
variable {P:Program} {T:cD} {n:Nat} {V0:View} {bf:Ce} {β0:Nat->Nat} {st:St} {β:Nat->Nat} {a:Act} {w:World} {V:View}
theorem cT:∀(sc:List Prop)(k:Prop),xT sc k↔(∀p∈sc,p)/\k
 | [],k=>by simp [xT]
 | p::r,k=>by
  simp only [xT,cT r k,List.mem_cons]
  constructor
  ·rintro ⟨h1,h2,h3⟩
   exact ⟨fun q hq=>by rcases hq with rfl|hq;exact h1;exact h2 q hq,h3⟩
  ·rintro ⟨h1,h2⟩
   exact ⟨h1 p (.inl rfl),fun q hq=>h1 q (.inr hq),h2⟩
theorem aw {t:TypeId}{i:TI}(h:jF P t=some i):∃info d z,P.info? t=some info/\P.underlying t=some d/\info.zero=some z/\i.k=jd d/\i.size=info.size/\i.bytes=info.bytes/\i.zero=z.cells.toList.map C.ofConst:=by
 unfold jF at h
 split at h
 ·rename_i info d h1 h2
  split at h
  ·rename_i z hz
   simp only [Option.some.injEq] at h
   subst h
   exact ⟨info,d,z,h1,h2,hz,rfl,rfl,rfl,rfl⟩
  ·cases h
 ·cases h
theorem Ao (β:Nat->Nat)(y:Value):(C.ofConst y).den β=y:=by
 unfold C.ofConst;split<;>rfl
theorem AQ (β:Nat->Nat)(l:List Value):(l.map C.ofConst).map (C.den β)=l:=by
 induction l with
 | nil=>rfl
 | cons y r ih=>simp only [List.map_cons,Ao,ih]
theorem AE (y:Value):(C.ofConst y).ids=[]:=by unfold C.ofConst;split<;>rfl
theorem yJ (l:List Value):(l.map C.ofConst).flatMap C.ids=[]:=by
 induction l with
 | nil=>rfl
 | cons y r ih=>simp [AE]
theorem ag {t:TypeId}{d:TypeDesc}(h:P.underlying t=some d)(w:World):(underlying t).run P w=.ok d w:=by simp [underlying,h]
theorem i_ {t:TypeId}{i:TypeInfo}(h:P.info? t=some i)(w:World):(typeInfo t).run P w=.ok i w:=by simp [typeInfo,h]
theorem aC {t:TypeId}{i:TypeInfo}(h:P.info? t=some i)(w:World):(sizeOf t).run P w=.ok i.size w:=by simp [sizeOf,i_ h]
theorem gK {t:TypeId}{i:TypeInfo}{z:Value}(h:P.info? t=some i)(hz:i.zero=some z)(w:World):(zeroValue t).run P w=.ok z w:=by
 simp [zeroValue,i_ h,hz]
def oS:TK->Bool
 | .struct _|.arr _ _=>true
 | _=>false
theorem fJ {t:TypeId}{d:TypeDesc}(h:P.underlying t=some d)(w:World):(isAgg t).run P w=.ok (oS (jd d)) w:=by
 simp only [isAgg,Sem.run_bind,ag h,Result.andThen_ok]
 cases d<;>rfl
def Live (st:St)(x:SV):Prop:=∀s∈x.ids,∃b,st.boxes s=some b
theorem xu {k k':IntKind}(h:tG k k'=true):k=k':=by cases k<;>cases k'<;>simp_all [tG]
theorem CR {op:BinOp}{k:IntKind}{x y:Int}{sc:List Prop}{v:SV}{xt:TypeId}(h:kT op k x y=.ret sc v)(hsc:∀p∈sc,p) :
  (binOp op xt (.int k x) (.int k y)).run P w=.ok (v.den β) w/\v.ids=[]:=by
 cases op<;>simp only [kT,Q.ret.injEq] at h<;>obtain ⟨rfl,rfl⟩:=h <;>
  simp only [List.mem_cons,List.not_mem_nil,or_false,forall_eq,false_imp_iff,implies_true] at hsc <;>
  refine ⟨?_,rfl⟩ <;>
  simp [binOp,Op.intArith,Op.intDiv,Op.intBits,Op.intCmp,Op.shift,SV.den,C.den,a_,hsc]
 all_goals (try (intro h;omega))
theorem xO {op:BinOp}{k k':IntKind}{x y:Int}{sc:List Prop}{v:SV}{xt:TypeId}(hop:op=.shl\/op=.shr)(h:kT op k x y=.ret sc v)(hsc:∀p∈sc,p) :
  (binOp op xt (.int k x) (.int k' y)).run P w=.ok (v.den β) w/\v.ids=[]:=by
 rcases hop with rfl|rfl<;>simp only [kT,Q.ret.injEq] at h<;>obtain ⟨rfl,rfl⟩:=h <;>
  simp only [List.mem_cons,List.not_mem_nil,or_false,forall_eq] at hsc <;>
  refine ⟨?_,rfl⟩ <;>
  simp [binOp,Op.shift,SV.den,C.den]<;>(intro h;omega)
section eqs
variable {t:TypeId} (d:Nat)
theorem EV (h:P.underlying t=some .bool)(x y:Bool):(Op.equalIn (d+1) t (.bool x) (.bool y)).run P w=.ok (x==y) w:=by
 simp [Op.equalIn,ag h]
theorem xf {e:TypeId}(h:P.underlying t=some (.pointer e))(p:OA):(Op.equalIn (d+1) t (.pointer p) (.pointer none)).run P w=.ok p.isNone w:=by
 cases p<;>simp [Op.equalIn,ag h]
theorem mL {e:TypeId}(h:P.underlying t=some (.slice e))(p:OA)(n c m k:Nat):(Op.equalIn (d+1) t (.slice p n c) (.slice none m k)).run P w=.ok p.isNone w:=by
 cases p<;>simp [Op.equalIn,ag h]
theorem tq {ms:Array (String×TypeId)}(h:P.underlying t=some (.interface ms)){x:Value}(hx:IsIface x):(Op.equalIn (d+1) t x .nilIface).run P w=.ok (isNilI x) w:=by
 rcases hx with rfl|⟨u,v,rfl⟩<;>simp [Op.equalIn,ag h,isNilI]
end eqs
theorem iP {t:TypeId}{x y:Value}{r:Bool}(h:∀d,(Op.equalIn (d+1) t x y).run P w=.ok r w):(Op.equal t x y).run P w=.ok r w:=h 9999
theorem zV {op:BinOp}{xt:TypeId}{x y:Bool}(ht:P.underlying xt=some .bool)(hop:op=.eql\/op=.neq) :
  (binOp op xt (.bool x) (.bool y)).run P w=.ok (.bool (if op=.eql then x==y else !(x==y))) w:=by
 have:=iP (w:=w) fun d=>EV d ht x y
 rcases hop with rfl|rfl<;>simp only [binOp,Sem.run_bind,this,Result.andThen_ok,Sem.run_pure]<;>rfl
theorem wN {c:C}{b:Bool}(h:c.bool?=some b):c.den β=.bool b/\c.ids=[]:=by
 cases c with
 | v x=>cases x<;>simp_all [C.bool?,C.den,C.ids]
 | _=>simp_all [C.bool?,C.den,C.ids]
theorem Aq {d:TypeDesc}{k:IntKind}(h:jd d=.int k):d=.int k:=by cases d<;>simp_all [jd]
theorem yB {d:TypeDesc}(h:jd d=.bool):d=.bool:=by cases d<;>simp_all [jd]
theorem Ar {d:TypeDesc}{e:TypeId}(h:jd d=.ptr e):d=.pointer e:=by cases d<;>simp_all [jd]
theorem aN {d:TypeDesc}{e:TypeId}(h:jd d=.slice e):d=.slice e:=by cases d<;>simp_all [jd]
theorem vF {d:TypeDesc}(h:jd d=.iface):∃ms,d=.interface ms:=by cases d<;>simp_all [jd]
theorem gU {d:TypeDesc}{fs:List (TypeId×Nat)}(h:jd d=.struct fs):∃gs,d=.struct gs/\fs=gs.toList.map fun f=>(f.type,f.offset):=by
 cases d<;>simp_all [jd]
theorem kR {d:TypeDesc}{m:Nat}{e:TypeId}(h:jd d=.arr m e):d=.array m e:=by cases d<;>simp_all [jd]
theorem gN {t:TypeId}{x y:Value}{r:Bool}(neg:Bool)(h:(Op.equal t x y).run P w=.ok r w)
  (hx:(∃p,x=.pointer p/\y=.pointer none)\/(∃p n c m k,x=.slice p n c/\y=.slice none m k)\/(IsIface x/\y=.nilIface)) :
  (binOp (if neg then .neq else .eql) t x y).run P w=.ok (.bool (if neg then !r else r)) w:=by
 rcases hx with ⟨p,rfl,rfl⟩|⟨p,n,c,m,k,rfl,rfl⟩|⟨hx,rfl⟩
 ·cases p<;>cases neg<;>simp only [Bool.false_eq_true,if_false,if_true,binOp,Sem.run_bind,h,Result.andThen_ok,Sem.run_pure]
 ·cases neg<;>simp only [Bool.false_eq_true,if_false,if_true,binOp,Sem.run_bind,h,Result.andThen_ok,Sem.run_pure]
 ·rcases hx with rfl|⟨u,v,rfl⟩<;>cases neg<;>simp only [Bool.false_eq_true,if_false,if_true,binOp,Sem.run_bind,h,Result.andThen_ok,Sem.run_pure]
theorem mM {op:BinOp}{t:TypeId}{x y:Operand}{u v:Value}(h:(∃p,u=.pointer p)\/(∃p n c,u=.slice p n c)\/(∃k n,u=.int k n)\/(∃b,u=.bool b)\/∃c,y=.const c)(hn:v=.nilIface->∃c,y=.const c)(hu:∀cs,u≠.agg cs) :
  (eqGuard op t x y u v).run P w=.ok () w:=by
 have key:∀(m:Sem Unit),m=(match (generalizing:=false) u,v with
   | .nilIface,.nilIface=>do
    if (match (generalizing:=false) x with|.const _=>true|_=>false)||(match (generalizing:=false) y with|.const _=>true|_=>false) then return
    if ← Op.eqGuardIn Op.maxDepth t u v then unsupported (.noEntry "binop/eql: two nil values of an interface type with methods, neither of them the literal nil")
   | .agg _,.agg _=>do
    if !(←program).eqGuardType (←program).depth t then return
    if ← Op.eqGuardIn Op.maxDepth t u v then unsupported (.noEntry "binop/eql: two nil values of an interface type with methods, in a part of a struct or an array")
   | _,_=>pure ())->m.run P w=.ok () w:=by
  intro m hm
  rw [hm]
  clear hm
  revert hn hu
  split
  ·intro hn _;obtain ⟨c,rfl⟩:=hn rfl;simp
  ·rename_i cs _;intro _ hu;exact absurd rfl (hu cs)
  ·intro _ _;rfl
 cases op<;>first|rfl|exact key _ rfl
theorem Hz {xt:TypeId}{i:TI}(hi:jF P xt=some i){x y:C}(neg:Bool){sc:List Prop}{v:SV}
  (h:za neg i.k x y=.ret sc v)(hsc:∀p∈sc,p) :
  (binOp (if neg then .neq else .eql) xt (x.den β) (y.den β)).run P w=.ok (v.den β) w/\v.ids=[] /\
  ((∃p,x.den β=.pointer p)\/(∃p n c,x.den β=.slice p n c)\/y.den β=.nilIface)/\(y.den β=.nilIface->y=.v .nilIface)/\(∀cs,x.den β≠.agg cs):=by
 obtain ⟨info,d,z,h1,h2,h3,h4,-⟩:=aw hi
 unfold za at h
 split at h
 ·rename_i e hk
  rw [h4] at hk
  obtain rfl:=Ar hk
  split at h
  ·split at h
   ·simp only [Q.ret.injEq] at h;obtain ⟨rfl,rfl⟩:=h
    refine ⟨?_,by cases neg<;>rfl,.inl ⟨_,rfl⟩,by simp [C.den],by simp [C.den]⟩
    rename_i s o
    have:=gN (w:=w) neg (iP fun d=>xf d h2 (some ⟨β s,o,none⟩)) (.inl ⟨_,rfl,rfl⟩)
    cases neg<;>exact this
   ·simp only [Q.ret.injEq] at h;obtain ⟨rfl,rfl⟩:=h
    refine ⟨?_,rfl,.inl ⟨_,rfl⟩,by simp [C.den],by simp [C.den]⟩
    exact gN (w:=w) neg (iP fun d=>xf d h2 _) (.inl ⟨_,rfl,rfl⟩)
   ·cases h
  ·cases h
 ·rename_i e hk
  rw [h4] at hk
  obtain rfl:=aN hk
  split at h
  ·split at h
   ·simp only [Q.ret.injEq] at h;obtain ⟨rfl,rfl⟩:=h
    refine ⟨?_,by cases neg<;>rfl,.inr (.inl ⟨_,_,_,rfl⟩),by simp [C.den],by simp [C.den]⟩
    rename_i m k _ s o n c
    have:=gN (w:=w) neg (iP fun d=>mL d h2 (some ⟨β s,o,none⟩) n c m k) (.inr (.inl ⟨_,_,_,_,_,rfl,rfl⟩))
    cases neg<;>exact this
   ·simp only [Q.ret.injEq] at h;obtain ⟨rfl,rfl⟩:=h
    refine ⟨?_,rfl,.inr (.inl ⟨_,_,_,rfl⟩),by simp [C.den],by simp [C.den]⟩
    rename_i m k _ s n c
    have:=gN (w:=w) neg (iP fun d=>mL d h2 (mA (β s) c) n c m k) (.inr (.inl ⟨_,_,_,_,_,rfl,rfl⟩))
    have e:(mA (β s) c).isNone=Nat.beq c 0:=by cases c<;>rfl
    rw [e] at this
    exact this
   ·simp only [Q.ret.injEq] at h;obtain ⟨rfl,rfl⟩:=h
    refine ⟨?_,rfl,.inr (.inl ⟨_,_,_,rfl⟩),by simp [C.den],by simp [C.den]⟩
    exact gN (w:=w) neg (iP fun d=>mL d h2 _ _ _ _ _) (.inr (.inl ⟨_,_,_,_,_,rfl,rfl⟩))
   ·cases h
  ·cases h
 ·rename_i hk
  rw [h4] at hk
  obtain ⟨ms,rfl⟩:=vF hk
  split at h
  ·split at h
   ·simp only [Q.ret.injEq] at h;obtain ⟨rfl,rfl⟩:=h
    have hx:=hsc _ (List.mem_singleton.2 rfl)
    refine ⟨?_,rfl,.inr (.inr rfl),fun _=>rfl,?_⟩
    ·exact gN (w:=w) neg (iP fun d=>tq d h2 hx) (.inr (.inr ⟨hx,rfl⟩))
    ·intro cs e
     rcases hx with hx|⟨u,v,hx⟩<;>· simp only [C.den] at e;rw [hx] at e;cases e
   ·simp only [Q.ret.injEq] at h;obtain ⟨rfl,rfl⟩:=h
    refine ⟨?_,by cases neg<;>rfl,.inr (.inr rfl),fun _=>rfl,by simp [C.den]⟩
    have:=gN (w:=w) neg (iP fun d=>tq d h2 (x:=.nilIface) (.inl rfl)) (.inr (.inr ⟨.inl rfl,rfl⟩))
    cases neg<;>exact this
   ·cases h
  ·cases h
 ·cases h
theorem Hx (hT:cD.ok P T){op:BinOp}{xt:TypeId}{x y:C}{ox oy:Operand}{sc:List Prop}{v:SV}
  (h:yZ T op xt x y=.ret sc v)(hsc:∀p∈sc,p)(hy:y=.v .nilIface->∃c,oy=.const c) :
  (do eqGuard op xt ox oy (x.den β) (y.den β);binOp op xt (x.den β) (y.den β)).run P w=.ok (v.den β) w/\v.ids=[]:=by
 unfold yZ at h
 split at h
 ·rename_i i hi
  have hi:=hT _ _ hi
  obtain ⟨info,d,z,h1,h2,h3,h4,-⟩:=aw hi
  split at h
  ·split at h
   ·rename_i k a k' b
    have hg:(eqGuard op xt ox oy (C.den β (.v (.int k a))) (C.den β (.v (.int k' b)))).run P w=.ok () w:=
     mM (.inr (.inr (.inl ⟨_,_,rfl⟩))) (by simp [C.den]) (by simp [C.den])
    have key:(binOp op xt (.int k a) (.int k' b)).run P w=.ok (v.den β) w/\v.ids=[]:=by
     split at h
     ·exact xO (.inl rfl) h hsc
     ·exact xO (.inr rfl) h hsc
     ·split at h
      ·rename_i e;obtain rfl:=xu e;exact CR h hsc
      ·cases h
    simp only [Sem.run_bind,hg,Result.andThen_ok]
    exact key
   ·cases h
  ·rename_i hk
   rw [h4] at hk
   obtain rfl:=yB hk
   split at h
   ·rename_i a b ha hb
    have hx:=wN (β:=β) ha
    have hy:=wN (β:=β) hb
    have hg:(eqGuard op xt ox oy (x.den β) (y.den β)).run P w=.ok () w:=by
     rw [hx.1,hy.1]
     exact mM (.inr (.inr (.inr (.inl ⟨_,rfl⟩)))) (by simp) (by simp)
    simp only [Sem.run_bind,hg,Result.andThen_ok]
    rw [hx.1,hy.1]
    split at h
    ·simp only [Q.ret.injEq] at h;obtain ⟨rfl,rfl⟩:=h
     exact ⟨zV h2 (.inl rfl),rfl⟩
    ·simp only [Q.ret.injEq] at h;obtain ⟨rfl,rfl⟩:=h
     exact ⟨zV h2 (.inr rfl),rfl⟩
    ·cases h
   ·cases h
  ·have key:∀neg:Bool,za neg i.k x y=.ret sc v->(do eqGuard (if neg then .neq else .eql) xt ox oy (x.den β) (y.den β);binOp (if neg then .neq else .eql) xt (x.den β) (y.den β)).run P w=.ok (v.den β) w/\v.ids=[]:=by
    intro neg h
    obtain ⟨k1,k2,k3,k4,k5⟩:=Hz (w:=w) (β:=β) hi neg h hsc
    have hg:(eqGuard (if neg then BinOp.neq else BinOp.eql) xt ox oy (x.den β) (y.den β)).run P w=.ok () w:=by
     refine mM ?_ (fun e=>hy (k4 e)) k5
     rcases k3 with k3|k3|k3
     ·exact .inl k3
     ·exact .inr (.inl k3)
     ·exact .inr (.inr (.inr (.inr (hy (k4 k3)))))
    simp only [Sem.run_bind,hg,Result.andThen_ok]
    exact ⟨k1,k2⟩
   split at h
   ·exact key false h
   ·exact key true h
   ·cases h
 ·cases h
end Go.Eng
namespace Go.Eng
variable {P:Program} {T:cD} {n:Nat} {V0:View} {bf:Ce} {β0:Nat->Nat} {st:St} {β:Nat->Nat} {a:Act} {w:World} {V:View}
theorem dV (b o k:Nat):(⟨b,o,none⟩:Addr).add k=⟨b,o+k,none⟩:=by
 unfold Addr.add;split
 ·rename_i h;subst h;rfl
 ·rfl
theorem cell_of_row {g o:Nat}{vs:List Value}{ty:TypeId}(h:w.heap[g]?=some (.cells vs.toArray ty (0,0))):w.cell? ⟨g,o,none⟩=vs[o]?:=by
 simp [World.cell?,h]
theorem AP {g o m:Nat}{vs:List Value}{ty t:TypeId}{info:TypeInfo}{d:TypeDesc}(h:w.heap[g]?=some (.cells vs.toArray ty (0,0)))
  (h1:P.info? t=some info)(h2:P.underlying t=some d)(hm:info.size=m)(hk:oS (jd d)=true)(hl:o+m<=vs.length) :
  (loadVar t ⟨g,o,none⟩).run P w=.ok (.agg ((vs.drop o).take m).toArray) w:=by
 subst hm
 have key:=run_loadCells_list (P:=P) (w:=w) ⟨g,o,none⟩ ((vs.drop o).take info.size) (by
  intro j v hj
  rw [dV,cell_of_row h]
  rw [List.getElem?_take] at hj
  split at hj
  ·rw [List.getElem?_drop] at hj;exact hj
  ·cases hj)
 rw [List.length_take,List.length_drop,Nat.min_eq_left (by omega)] at key
 simp only [loadVar,Sem.run_bind,fJ h2,Result.andThen_ok,hk,if_true,aC h1,key,Sem.run_pure]
theorem xy {g o:Nat}{vs:List Value}{ty t:TypeId}{d:TypeDesc}{v:Value}(h:w.heap[g]?=some (.cells vs.toArray ty (0,0)))
  (h2:P.underlying t=some d)(hk:oS (jd d)=false)(hv:vs[o]?=some v) :
  (loadVar t ⟨g,o,none⟩).run P w=.ok v w:=by
 simp only [loadVar,Sem.run_bind,fJ h2,Result.andThen_ok,hk,Bool.false_eq_true,if_false,run_load,cell_of_row h,hv]
theorem Mod.row (hM:Mod n V0 bf β0 st β a w V){s:Nat}{b:aH}(hb:st.boxes s=some b)(lb:b.live):w.heap[β s]?=some (.cells (b.cs.den β).toArray b.ty (0,0)):=hM.boxes s b hb lb
theorem fS {cs:List C}{c:C}{s:Nat}(hc:c∈cs)(hs:s∈c.ids):s∈cs.flatMap C.ids:=List.mem_flatMap.2 ⟨c,hc,hs⟩
theorem xF (hM:Mod n V0 bf β0 st β a w V){t:TypeId}{i:TI}(hi:jF P t=some i){x:SV}{sc:List Prop}{v:SV}(h:hZ st.boxes i x=.ret sc v) :
  (Instr.loadAt t (x.den β)).run P w=.ok (v.den β) w/\Live st v:=by
 obtain ⟨info,d,z,h1,h2,h3,h4,h5,-⟩:=aw hi
 unfold hZ at h
 split at h
 ·rename_i b o
  split at h
  ·rename_i cs ty hb
   have hrow:=hM.row hb ck
   have hlive:=hM.vg b _ hb
   simp only [Cells.den] at hrow
   have hagg:oS i.k=true->(if Nat.ble (o+i.size) cs.length then Q.ret [] (.agg ((cs.drop o).take i.size)) else .fail)=.ret sc v ->
     (Instr.loadAt t (SV.den β (.c (.ptr b o)))).run P w=.ok (v.den β) w/\Live st v:=by
    intro hk h
    split at h
    ·rename_i hl
     have hl:=Nat.le_of_ble_eq_true hl
     simp only [Q.ret.injEq] at h;obtain ⟨-,rfl⟩:=h
     refine ⟨?_,?_⟩
     ·have:=AP (t:=t) (o:=o) (m:=i.size) hrow h1 h2 h5.symm (h4▸hk) (by simpa using hl)
      simp only [Instr.loadAt,Instr.sureAddr,SV.den,C.den,Sem.run_bind,Sem.run_pure,Result.andThen_ok,this]
      rw [List.map_take,List.map_drop]
     ·intro s hs
      obtain ⟨c,hc,hs⟩:=List.mem_flatMap.1 hs
      exact hlive s (fS (List.mem_of_mem_drop (List.mem_of_mem_take hc)) hs)
    ·cases h
   split at h
   ·rename_i hk;exact hagg (by rw [hk];rfl) h
   ·rename_i hk;exact hagg (by rw [hk];rfl) h
   ·rename_i hk1 hk2
    have hk:oS i.k=false:=by
     cases hik:i.k<;>first|rfl|exact absurd hik (hk1 _)|exact absurd hik (hk2 _ _)
    split at h
    ·rename_i c hc
     simp only [Q.ret.injEq] at h;obtain ⟨-,rfl⟩:=h
     refine ⟨?_,?_⟩
     ·have:=xy (t:=t) (o:=o) (v:=c.den β) hrow h2 (h4▸hk) (by simp [hc])
      simp only [Instr.loadAt,Instr.sureAddr,SV.den,C.den,Sem.run_bind,Sem.run_pure,Result.andThen_ok,this]
     ·intro s hs
      exact hlive s (fS (List.mem_of_getElem? hc) hs)
    ·cases h
  ·cases h
  ·split at h<;>cases h
  ·cases h
 ·split at h<;>cases h
 ·cases h
theorem vd.dI:∀(s:vd) {K:C->Prop},s.ex K->∃c,c.ids=[]/\K c
 | .int _,_,⟨_,h⟩=>⟨_,rfl,h⟩
 | .bool,_,⟨_,h⟩=>⟨_,rfl,h⟩
 | .slice,_,⟨_,_,_,h⟩=>⟨_,rfl,h⟩
 | .ptr,_,⟨_,h⟩=>⟨_,rfl,h⟩
 | .str,_,⟨_,h⟩=>⟨_,rfl,h⟩
 | .any,_,⟨_,h⟩=>⟨_,rfl,h⟩
theorem nQ:∀(l:List vd) {K:List C->Prop},Lf l K->∃cs,cs.flatMap C.ids=[]/\cs.length=l.length/\K cs
 | [],_,h=>⟨[],rfl,rfl,h⟩
 | s::r,K,h=>by
  obtain ⟨c,hc,h'⟩:=vd.dI s h
  obtain ⟨cs,h1,h2,h3⟩:=nQ r h'
  exact ⟨c::cs,by simp [hc,h1],by simp [h2],h3⟩
theorem rW.dI:∀(s:rW) {K:SV->Prop},s.ex K->∃x,x.ids=[]/\((∃c,x=.c c/\∃s',s=.one s')\/∃cs l,x=.agg cs/\s=.agg l/\cs.length=l.length)/\K x
 | .one s,K,h=>by obtain ⟨c,hc,h'⟩:=vd.dI s h;exact ⟨.c c,hc,.inl ⟨c,rfl,s,rfl⟩,h'⟩
 | .agg l,K,h=>by obtain ⟨cs,h1,h2,h'⟩:=nQ l h;exact ⟨.agg cs,h1,.inr ⟨cs,l,rfl,rfl,h2⟩,h'⟩
theorem tu:∀(l:List rW) {K:List (Bool×List C)->Prop},MD l K->∃xs,(xs.flatMap fun x=>x.2.flatMap C.ids)=[]/\K xs
 | [],_,h=>⟨[],rfl,h⟩
 | .one s::r,K,h=>by
  obtain ⟨c,hc,h'⟩:=vd.dI s h
  obtain ⟨xs,h1,h2⟩:=tu r h'
  exact ⟨_,by simp [hc,h1],h2⟩
 | .agg l::r,K,h=>by
  obtain ⟨cs,hc,-,h'⟩:=nQ l h
  obtain ⟨xs,h1,h2⟩:=tu r h'
  exact ⟨(true,cs)::xs,by simp only [List.flatMap_cons,hc,h1,List.append_nil],h2⟩
theorem Sh.dI:∀(s:Sh) {K:SV->Prop},s.ex K->∃x,x.ids=[]/\K x
 | .val s,K,h=>by obtain ⟨x,hx,-,h'⟩:=rW.dI s h;exact ⟨x,hx,h'⟩
 | .nC l,K,h=>by obtain ⟨xs,hx,h'⟩:=tu l h;exact ⟨.nC xs,hx,h'⟩
 | .none,K,h=>⟨.nC [],rfl,h⟩
theorem iF {x:SV}(h:x.ids=[])(β β':Nat->Nat):x.den β=x.den β':=SV.bw fun s hs=>by rw [h] at hs;cases hs
theorem bG {x:SV}(h:x.ids=[]):Live st x:=fun s hs=>by rw [h] at hs;cases hs
theorem Bm:∀(cs:List C) (p:Addr) (i:Nat) {k:Prop},V.Jw p i cs k->(∀j c,cs[j]?=some c->V.at (p.add (i+j)) (c.den fun _=>0))/\k
 | [],_,_,_,h=>⟨fun j c hj=>by simp at hj,h⟩
 | c::r,p,i,k,⟨h1,h2⟩=>by
  obtain ⟨h3,h4⟩:=Bm r p (i+1) h2
  refine ⟨fun j d hj=>?_,h4⟩
  cases j with
  | zero=>simp at hj;subst hj;exact h1
  | succ j=>simp at hj;have:=h3 j d hj;rwa [show i+1+j=i+(j+1) from by omega] at this
theorem Mod.Qf (hM:Mod n V0 bf β0 st β a w V){p:Addr}{v:Value}(h:V.at p v):w.cell? p=some v:=by
 obtain ⟨hH,hc⟩:=h
 unfold World.cell? at hc ⊢
 split at hc
 ·rename_i c e f hb
  rw [(hM.my p.block _ ⟨hH,hb⟩).1]
  exact hc
 ·cases hc
theorem Ej {i:TI}{l:List vd}(h:jI i=.agg l):oS i.k=true/\l.length=i.zero.length:=by
 unfold jI at h
 split at h
 ·rename_i hk;simp only [rW.agg.injEq] at h;subst h;exact ⟨by rw [hk];rfl,by simp⟩
 ·rename_i hk;simp only [rW.agg.injEq] at h;subst h;exact ⟨by rw [hk];rfl,by simp⟩
 ·split at h<;>cases h
theorem Ek {i:TI}{s:vd}(h:jI i=.one s):oS i.k=false:=by
 unfold jI at h
 split at h
 ·cases h
 ·cases h
 ·rename_i h1 h2
  cases hik:i.k<;>first|rfl|exact absurd hik (h1 _)|exact absurd hik (h2 _ _)
theorem Mi (hM:Mod n V0 bf β0 st β a w V){t:TypeId}{i:TI}(hi:jF P t=some i)(hz:i.zero.length=i.size){p:OA}{x:SV}{k:Prop}
  (hx:x.ids=[])(hs:(∃c,x=.c c/\∃s',jI i=.one s')\/∃cs l,x=.agg cs/\jI i=.agg l/\cs.length=l.length)(h:V.Is p x k) :
  (Instr.loadAt t (.pointer p)).run P w=.ok (x.den β) w/\k:=by
 obtain ⟨info,d,z,h1,h2,h3,h4,h5,-⟩:=aw hi
 rcases hs with ⟨c,rfl,s,hs⟩|⟨cs,l,rfl,hs,hl⟩
 ·obtain ⟨⟨ad,rfl,hat⟩,hk⟩:=h
  have hkk:=Ek hs
  rw [h4] at hkk
  refine ⟨?_,hk⟩
  simp only [Instr.loadAt,Instr.sureAddr,Sem.run_bind,Sem.run_pure,Result.andThen_ok,loadVar,fJ h2,hkk,Bool.false_eq_true,if_false,run_load,hM.Qf hat]
  rw [iF hx β fun _=>0]
  rfl
 ·obtain ⟨ad,rfl,hr⟩:=h
  obtain ⟨hkk,hl2⟩:=Ej hs
  rw [h4] at hkk
  obtain ⟨h6,h7⟩:=Bm cs ad 0 hr
  refine ⟨?_,h7⟩
  have key:=run_loadCells_list (P:=P) (w:=w) ad (cs.map (C.den fun _=>0)) (by
   intro j v hj
   rw [List.getElem?_map] at hj
   cases hc:cs[j]? with
   | none=>rw [hc] at hj;cases hj
   | some c=>
    rw [hc] at hj
    simp only [Option.map_some,Option.some.injEq] at hj
    subst hj
    have:=hM.Qf (h6 j c hc)
    simpa using this)
  rw [List.length_map,hl,hl2,hz,h5] at key
  simp only [Instr.loadAt,Instr.sureAddr,Sem.run_bind,Sem.run_pure,Result.andThen_ok,loadVar,fJ h2,hkk,if_true,aC h1,key]
  rw [iF hx β fun _=>0]
  rfl
theorem xH (hM:Mod n V0 bf β0 st β a w V){t:TypeId}{i:TI}(hi:jF P t=some i){b o:Nat}{vs:List Value}{ty:TypeId}(hb:st.boxes b=some ⟨.row vs,ty⟩\/(st.boxes b=some ⟨.aO vs,ty⟩/\i.size≠0)){x:SV}
  (hx:x.ids=[])(hs:(∃c,x=.c c/\∃s',jI i=.one s')\/∃cs l,x=.agg cs/\jI i=.agg l/\cs.length=l.length)(h:JA vs o i.size x) :
  (Instr.loadAt t (SV.den β (.c (.ptr b o)))).run P w=.ok (x.den β) w:=by
 obtain ⟨info,d,z,h1,h2,h3,h4,h5,-⟩:=aw hi
 have hrow:w.heap[β b]?=some (.cells vs.toArray ty (0,0)):=by
  rcases hb with hb|⟨hb,hz⟩
  ·exact hM.row hb bV
  ·refine hM.row hb (dK fun e=>?_)
   subst e
   rcases hs with ⟨c,rfl,s,hs⟩|⟨cs,l,rfl,hs,hl⟩
   ·simp [JA] at h
   ·have:=h.1
    simp at this
    omega
 rcases hs with ⟨c,rfl,s,hs⟩|⟨cs,l,rfl,hs,hl⟩
 ·have hkk:=Ek hs
  rw [h4] at hkk
  have:=xy (t:=t) (o:=o) hrow h2 hkk h
  rw [show SV.den β (.c c)=C.den (fun _=>0) c from iF (x:=.c c) hx β _]
  show (Instr.loadAt t (.pointer (some ⟨β b,o,none⟩))).run P w=_
  simp only [Instr.loadAt,Instr.sureAddr,Sem.run_bind,Sem.run_pure,Result.andThen_ok,this]
 ·obtain ⟨hkk,hl2⟩:=Ej hs
  rw [h4] at hkk
  obtain ⟨h6,h7⟩:=h
  have:=AP (t:=t) (o:=o) (m:=i.size) hrow h1 h2 h5.symm hkk h6
  simp only [Instr.loadAt,Instr.sureAddr,C.den,SV.den,Sem.run_bind,Sem.run_pure,Result.andThen_ok,this,h7]
  have:=iF (x:=.agg cs) hx β fun _=>0
  simp only [SV.den,Value.agg.injEq] at this
  rw [this]
theorem L8 {c:C}(h:∀p∈ee c,p):(c.den β).oneCell'=true:=by
 cases c with
 | v x=>cases x<;>first|rfl|exact (h False (by simp [ee])).elim
 | w x=>exact h (x.oneCell'=true) (by simp [ee])
 | _=>rfl
theorem EP {v:Value}(h:v.oneCell'=true):v.cells=#[v]:=by cases v<;>first|rfl|simp [Value.oneCell'] at h
theorem SV.o_ {x:SV}(ht:x.tF=false)(h:∀p∈x.ee,p):(x.den β).cells=(x.cells.map (C.den β)).toArray/\∀v∈x.cells.map (C.den β),v.oneCell'=true:=by
 have h1:∀c∈x.cells,(c.den β).oneCell'=true:=fun c hc=>L8 fun p hp=>h p (List.mem_flatMap.2 ⟨c,hc,hp⟩)
 refine ⟨?_,fun v hv=>by obtain ⟨c,hc,rfl⟩:=List.mem_map.1 hv;exact h1 c hc⟩
 cases x with
 | c c=>exact EP (h1 c (by simp [SV.cells]))
 | agg cs=>rfl
 | nC xs=>cases ht
theorem dE {g:Nat}{old cs:Array Value}{ty:TypeId}(h:w.heap[g]?=some (.cells old ty (0,0))):(w.setRow g cs).heap=w.heap.setIfInBounds g (.cells cs ty (0,0)):=by
 apply Array.ext_getElem?
 intro i
 by_cases e:i=g
 ·subst e
  rw [setRow_heap w i old cs ty (0,0) h,Array.getElem?_setIfInBounds,if_pos rfl,if_pos (ar h)]
 ·rw [setRow_other w g i cs e,Array.getElem?_setIfInBounds,if_neg (Ne.symm e)]
theorem eW {cs:List C}{vs:List Value}(h:jK cs=some vs):cs.map (C.den β)=vs/\cs.flatMap C.ids=[]:=by
 induction cs generalizing vs with
 | nil=>simp [jK] at h;subst h;exact ⟨rfl,rfl⟩
 | cons c r ih=>
  simp only [jK] at h
  split at h
  ·rename_i v ws hv hws
   simp only [Option.some.injEq] at h
   subst h
   obtain ⟨h1,h2⟩:=ih hws
   have:c.den β=v/\c.ids=[]:=by cases c<;>simp_all [C.val?,C.den,C.ids]
   exact ⟨by simp [h1,this.1],by simp [h2,this.2]⟩
  ·cases h
theorem oz {cs xs:List C}{o:Nat}:(setCells cs o xs).map (C.den β)=(cs.map (C.den β)).take o++xs.map (C.den β)++(cs.map (C.den β)).drop (o+xs.length):=by
 simp [setCells,List.map_take,List.map_drop]
theorem ow {cs xs:List C}{o s:Nat}(h:s∈(setCells cs o xs).flatMap C.ids):s∈cs.flatMap C.ids\/s∈xs.flatMap C.ids:=by
 obtain ⟨c,hc,hs⟩:=List.mem_flatMap.1 h
 simp only [setCells,List.mem_append] at hc
 rcases hc with (hc|hc)|hc
 ·exact .inl (fS (List.mem_of_mem_take hc) hs)
 ·exact .inr (fS hc hs)
 ·exact .inl (fS (List.mem_of_mem_drop hc) hs)
theorem kq {vs xs:List Value}{o:Nat}(h:o+xs.length<=vs.length):cG vs o xs=vs.take o++xs++vs.drop (o+xs.length):=by
 unfold cG
 split
 ·rename_i x
  have:o<vs.length:=by simp at h;omega
  rw [List.set_eq_take_append_cons_drop,if_pos this]
  simp
 ·rfl
theorem SV.pf {x:SV}{s:Nat}(ht:x.tF=false):s∈x.cells.flatMap C.ids->s∈x.ids:=by
 cases x with
 | c c=>simp [SV.cells,SV.ids]
 | agg cs=>exact id
 | nC xs=>cases ht
theorem C_ (hM:Mod n V0 bf β0 st β a w V){t:TypeId}{i:TI}(hi:jF P t=some i){av xv:SV}(hx:Live st xv){sc:List Prop}{s:Nat}{b:aH}
  (h:fI st.boxes i av xv=.qV sc s b)(hsc:∀p∈sc,p) :
  ∃w',(Instr.storeAt t (av.den β) (xv.den β)).run P w=.ok () w'/\Mod n V0 bf β0 (st.box s b) β a w' V:=by
 obtain ⟨info,d,z,h1,h2,h3,h4,h5,-⟩:=aw hi
 unfold fI at h
 split at h
 ·rename_i g o
  split at h
  ·rename_i hcond
   simp only [Bool.and_eq_true,beq_eq,Bool.not_eq_eq_eq_not] at hcond
   obtain ⟨hlen,hnt⟩:=hcond
   have core:∀(old:List Value)(ty:TypeId)(nb:aH),w.heap[β g]?=some (.cells old.toArray ty (0,0))->(∀p∈xv.ee,p)->o+xv.cells.length<=old.length->nb.ty=ty ->
     nb.cs.den β=old.take o++xv.cells.map (C.den β)++old.drop (o+xv.cells.length) ->
     ∃w',(Instr.storeAt t (SV.den β (.c (.ptr g o))) (xv.den β)).run P w=.ok () w'/\w'.heap=w.heap.setIfInBounds (β g) (nb.obj β)/\w'.os=w.os/\w'.tape=w.tape/\w'.output=w.output:=by
    intro old ty nb hrow hone hle hty hden
    obtain ⟨hc1,hc2⟩:=SV.o_ (β:=β) hnt hone
    have key:=run_storeCells_at (P:=P) (β g) o ty (xv.cells.map (C.den β)) 0 old.toArray w hrow (by simpa using hle) hc2
    refine ⟨w.setRow (β g) (old.take o++xv.cells.map (C.den β)++old.drop (o+xv.cells.length)).toArray,?_,?_⟩
    ·generalize xv.den β=v at hc1
     show (Instr.storeAt t (.pointer (some ⟨β g,o,none⟩)) v).run P w=_
     simp only [Instr.storeAt,Instr.sureAddr,Sem.run_bind,Sem.run_pure,Result.andThen_ok,storeVar,aC h1,hc1]
     simp [hlen,h5]
     simpa [hlen,h5] using key
    ·exact ⟨by rw [dE hrow,aH.obj,hden,hty],rfl,rfl,rfl⟩
   split at h
   ·rename_i cs ty hb
    split at h
    ·rename_i hl
     have hl:=Nat.le_of_ble_eq_true hl
     simp only [Q.qV.injEq] at h;obtain ⟨rfl,rfl,rfl⟩:=h
     have hrow:=hM.row hb ck
     obtain ⟨w',hr,k1,k2,k3,k4⟩:=core _ _ ⟨.lit (setCells cs o xv.cells),ty⟩ hrow hsc (by simpa [Cells.den,hlen] using hl) rfl (by simp only [Cells.den];exact oz)
     refine ⟨w',hr,hM.qV hb ck ?_ k1 k2 k3 k4⟩
     intro s' hs'
     rcases ow hs' with h'|h'
     ·exact hM.vg _ _ hb s' h'
     ·exact hx s' (SV.pf hnt h')
    ·cases h
   ·rename_i vs ty hb
    split at h
    ·rename_i xs hxs
     simp only [Q.qV.injEq] at h;obtain ⟨rfl,rfl,rfl⟩:=h
     have hrow:=hM.row hb bV
     obtain ⟨hd1,hd2⟩:=eW (β:=β) hxs
     have hle:o+i.size<=vs.length:=hsc _ (by simp)
     have hxl:xs.length=i.size:=by rw [←hd1,List.length_map,hlen]
     obtain ⟨w',hr,k1,k2,k3,k4⟩:=core _ _ ⟨.row (cG vs o xs),ty⟩ hrow (fun p hp=>hsc p (List.mem_append_left _ hp)) (by simpa [Cells.den,hlen] using hle) rfl (by
      simp only [Cells.den];rw [kq (by omega),hd1,hlen,hxl])
     exact ⟨w',hr,hM.qV hb bV (by intro s' hs';simp [Cells.ids] at hs') k1 k2 k3 k4⟩
    ·cases h
   ·rename_i vs ty hb
    split at h
    ·cases h
    rename_i hz
    split at h
    ·rename_i xs hxs
     simp only [Q.qV.injEq] at h;obtain ⟨rfl,rfl,rfl⟩:=h
     obtain ⟨hd1,hd2⟩:=eW (β:=β) hxs
     have hle:o+i.size<=vs.length:=hsc _ (by simp)
     have hlv:aH.live ⟨.aO vs,ty⟩:=dK fun e=>by
      subst e
      simp at hle
      exact hz (by rw [hle.2];rfl)
     have hrow:=hM.row hb hlv
     have hxl:xs.length=i.size:=by rw [←hd1,List.length_map,hlen]
     obtain ⟨w',hr,k1,k2,k3,k4⟩:=core _ _ ⟨.aO (cG vs o xs),ty⟩ hrow (fun p hp=>hsc p (List.mem_append_left _ hp)) (by simpa [Cells.den,hlen] using hle) rfl (by
      simp only [Cells.den];rw [kq (by omega),hd1,hlen,hxl])
     exact ⟨w',hr,hM.qV hb hlv (by intro s' hs';simp [Cells.ids] at hs') k1 k2 k3 k4⟩
    ·cases h
   ·cases h
  ·cases h
 ·cases h
end Go.Eng
namespace Go.Eng
variable {P:Program} {T:cD} {n:Nat} {V0:View} {bf:Ce} {β0:Nat->Nat} {st:St} {β:Nat->Nat} {a:Act} {w:World} {V:View}
theorem EY (xs:List Value):∀(cs:Array Value)(off:Nat),off+xs.length<=cs.size ->
  (xs.toArray.zipIdx.foldl (fun cs (p:Value×Nat)=>cs.setIfInBounds (off+p.2) p.1) cs)=(cs.toList.take off++xs++cs.toList.drop (off+xs.length)).toArray:=by
 have gen:∀(xs:List Value)(k:Nat)(cs:List Value)(off:Nat),off+k+xs.length<=cs.length ->
   (xs.zipIdx k).foldl (fun (cs:Array Value) (p:Value×Nat)=>cs.setIfInBounds (off+p.2) p.1) cs.toArray=(cs.take (off+k)++xs++cs.drop (off+k+xs.length)).toArray:=by
  intro xs
  induction xs with
  | nil=>intro k cs off _;simp
  | cons x r ih=>
   intro k cs off h
   simp only [List.length_cons] at h
   simp only [List.zipIdx_cons,List.foldl_cons,List.setIfInBounds_toArray]
   rw [ih (k+1) (cs.set (off+k) x) off (by simp;omega)]
   congr 1
   have hlt:off+k<cs.length:=by omega
   rw [List.set_eq_take_append_cons_drop,if_pos hlt]
   have e1:(cs.take (off+k)++x::cs.drop (off+k+1)).take (off+(k+1))=cs.take (off+k)++[x]:=by
    rw [List.take_append,List.take_of_length_le (by simp;omega),List.length_take,Nat.min_eq_left (by omega),show off+(k+1)-(off+k)=1 from by omega]
    simp
   have e2:(cs.take (off+k)++x::cs.drop (off+k+1)).drop (off+(k+1)+r.length)=cs.drop (off+k+(r.length+1)):=by
    rw [List.drop_append,List.drop_of_length_le (by simp;omega),List.length_take,Nat.min_eq_left (by omega),show off+(k+1)+r.length-(off+k)=r.length+1 from by omega]
    simp only [List.nil_append,List.drop_succ_cons,List.drop_drop]
    congr 1;omega
   rw [e1,e2]
   simp
 intro cs off h
 have:=gen xs 0 cs.toList off (by simpa using h)
 simpa [←Array.foldl_toList] using this
theorem lP {place:Nat->Option (Nat×Nat)}:∀(ps:List (Nat×SV))(cells out:List C),mi place cells ps=some out ->
  (∀x∈ps,∀v:C,v∈x.2.cells->∀p∈ee v,p) ->
  Instr.fill place (cells.map (C.den β)).toArray (ps.map fun x=>(x.1,x.2.den β))=some (out.map (C.den β)).toArray /\
  (∀s∈out.flatMap C.ids,s∈cells.flatMap C.ids\/∃x∈ps,s∈x.2.ids)
 | [],cells,out,h,_=>by
  simp only [mi,Option.some.injEq] at h;subst h
  exact ⟨rfl,fun s hs=>.inl hs⟩
 | (i,x)::r,cells,out,h,hone=>by
  simp only [mi] at h
  split at h
  ·cases h
  ·rename_i off size hp
   split at h
   ·rename_i hc
    simp only [Bool.and_eq_true,beq_eq,Bool.not_eq_eq_eq_not] at hc
    obtain ⟨⟨hl,hle⟩,hnt⟩:=hc
    have hle:=Nat.le_of_ble_eq_true hle
    have hnt:x.tF=false:=by simpa using hnt
    have h1:∀p∈x.ee,p:=fun p hp=>by
     obtain ⟨v,hv,hp⟩:=List.mem_flatMap.1 hp
     exact hone (i,x) (by simp) v hv p hp
    obtain ⟨hc1,-⟩:=SV.o_ (β:=β) hnt h1
    obtain ⟨k1,k2⟩:=lP r _ _ h (fun y hy=>hone y (List.mem_cons_of_mem _ hy))
    refine ⟨?_,?_⟩
    ·simp only [List.map_cons,Instr.fill,hp]
     rw [if_neg (by rw [hc1];simp [hl];omega)]
     rw [hc1]
     have:=EY (x.cells.map (C.den β)) (cells.map (C.den β)).toArray off (by simpa [hl] using hle)
     rw [this]
     rw [←k1,oz]
     simp
    ·intro s hs
     rcases k2 s hs with h'|⟨y,hy,h'⟩
     ·rcases ow h' with h''|h''
      ·exact .inl h''
      ·exact .inr ⟨(i,x),by simp,SV.pf hnt h''⟩
     ·exact .inr ⟨y,List.mem_cons_of_mem _ hy,h'⟩
   ·cases h
theorem iL (hM:Mod n V0 bf β0 st β a w V):∀(l:List (Nat×Operand))(ps:List (Nat×SV)),partsOf st.aR l=some ps ->
  (l.map fun x=>(x.1,a.eval x.2))=(ps.map fun x=>(x.1,x.2.den β))/\∀x∈ps,Live st x.2
 | [],ps,h=>by simp only [partsOf,Option.some.injEq] at h;subst h;exact ⟨rfl,fun x hx=>by cases hx⟩
 | (i,o)::r,ps,h=>by
  simp only [partsOf] at h
  split at h
  ·rename_i x l hx hl
   simp only [Option.some.injEq] at h;subst h
   obtain ⟨h1,h2⟩:=iL hM r l hl
   refine ⟨by simp [h1,hM.eval hx],fun y hy=>?_⟩
   rcases List.mem_cons.1 hy with rfl|hy
   ·exact hM.live hx
   ·exact h2 y hy
  ·cases h
theorem eT (hM:Mod n V0 bf β0 st β a w V):∀(l:List Operand)(xs:List SV),bJ st.aR l=some xs ->
  l.map a.eval=xs.map (SV.den β)/\∀x∈xs,Live st x
 | [],xs,h=>by simp only [bJ,Option.some.injEq] at h;subst h;exact ⟨rfl,fun x hx=>by cases hx⟩
 | o::r,xs,h=>by
  simp only [bJ] at h
  split at h
  ·rename_i x l hx hl
   simp only [Option.some.injEq] at h;subst h
   obtain ⟨h1,h2⟩:=eT hM r l hl
   refine ⟨by simp [h1,hM.eval hx],fun y hy=>?_⟩
   rcases List.mem_cons.1 hy with rfl|hy
   ·exact hM.live hx
   ·exact h2 y hy
  ·cases h
theorem kv (hT:cD.ok P T):∀(gs:List Field)(pl:List (Nat×Nat)),eN T (gs.map fun f=>(f.type,f.offset))=some pl ->
  ∀w:World,(gs.mapM fun f:Field=>do pure (f.offset,←sizeOf f.type)).run P w=.ok pl w
 | [],pl,h,w=>by simp only [List.map_nil,eN,Option.some.injEq] at h;subst h;simp
 | f::r,pl,h,w=>by
  simp only [List.map_cons,eN] at h
  split at h
  ·rename_i i l hi hl
   simp only [Option.some.injEq] at h;subst h
   obtain ⟨info,d,z,h1,h2,h3,h4,h5,-⟩:=aw (hT _ _ hi)
   have:=kv hT r l hl w
   simp only [bind_pure_comp] at this
   simp [List.mapM_cons,aC h1,this,h5]
  ·cases h
theorem dF {i:TI}{z:Value}(h:i.zero=z.cells.toList.map C.ofConst):(i.zero.map (C.den β)).toArray=z.cells/\i.zero.flatMap C.ids=[]:=by
 rw [h]
 exact ⟨by rw [AQ],yJ _⟩
theorem yO {ps:List (Nat×SV)}(h:∀p∈ps.flatMap (fun x=>x.2.ee),p):∀x∈ps,∀v:C,v∈x.2.cells->∀p∈ee v,p:=
 fun x hx v hv p hp=>h p (List.mem_flatMap.2 ⟨x,hx,List.mem_flatMap.2 ⟨v,hv,hp⟩⟩)
theorem parts_eq {parts:Array (Nat×Operand)}{ps:List (Nat×SV)}(h:(parts.toList.map fun x=>(x.1,a.eval x.2))=(ps.map fun x=>(x.1,x.2.den β))) :
  (parts.map fun x=>(x.1,a.eval x.2)).toList=ps.map fun x=>(x.1,x.2.den β):=by rw [Array.toList_map];exact h
theorem x_ (hT:cD.ok P T)(hM:Mod n V0 bf β0 st β a w V){t:TypeId}{i:TI}(hi:jF P t=some i){fs:List (TypeId×Nat)}(hk:i.k=.struct fs)
  {parts:Array (Nat×Operand)}{ps:List (Nat×SV)}(hp:partsOf st.aR parts.toList=some ps){pl:List (Nat×Nat)}(hpl:eN T fs=some pl)
  {cs:List C}(hf:mi (fun j=>pl[j]?) i.zero ps=some cs)(hsc:∀p∈ps.flatMap (fun x=>x.2.ee),p) :
  (Instr.build t (parts.map fun x=>(x.1,a.eval x.2))).run P w=.ok (SV.den β (.agg cs)) w/\Live st (.agg cs):=by
 obtain ⟨info,d,z,h1,h2,h3,h4,h5,h6,h7⟩:=aw hi
 obtain ⟨q1,q2⟩:=iL hM _ _ hp
 rw [h4] at hk
 obtain ⟨gs,rfl,rfl⟩:=gU hk
 obtain ⟨z1,z2⟩:=dF (β:=β) h7
 obtain ⟨f1,f2⟩:=lP (β:=β) _ _ _ hf (yO hsc)
 have hm:=kv hT gs.toList pl hpl w
 refine ⟨?_,?_⟩
 ·have Kn:(gs.mapM fun f:Field=>do pure (f.offset,←sizeOf f.type)).run P w=.ok pl.toArray w:=by
   rw [Array.mapM_eq_mapM_toList]
   simp only [Sem.run_map,hm,Result.andThen_ok]
  simp only [Instr.build,Sem.run_bind,gK h1 h3,Result.andThen_ok,ag h2,Kn]
  rw [parts_eq q1,←z1]
  have:(fun j:Nat=>pl.toArray[j]?)=fun j:Nat=>pl[j]?:=by funext j;simp
  rw [this,f1]
  rfl
 ·intro s hs
  rcases f2 s hs with h|⟨x,hx,h⟩
  ·rw [z2] at h;cases h
  ·exact q2 x hx s h
theorem zW (hT:cD.ok P T)(hM:Mod n V0 bf β0 st β a w V){t:TypeId}{i:TI}(hi:jF P t=some i){m:Nat}{e:TypeId}(hk:i.k=.arr m e)
  {parts:Array (Nat×Operand)}{ps:List (Nat×SV)}(hp:partsOf st.aR parts.toList=some ps){ei:TI}(he:au T e=some ei)
  {cs:List C}(hf:mi (fun j=>some (j*ei.size,ei.size)) i.zero ps=some cs)(hsc:∀p∈ps.flatMap (fun x=>x.2.ee),p) :
  (Instr.build t (parts.map fun x=>(x.1,a.eval x.2))).run P w=.ok (SV.den β (.agg cs)) w/\Live st (.agg cs):=by
 obtain ⟨info,d,z,h1,h2,h3,h4,h5,h6,h7⟩:=aw hi
 obtain ⟨fQ,ed,ez,e1,e2,e3,e4,e5,e6,e7⟩:=aw (hT _ _ he)
 obtain ⟨q1,q2⟩:=iL hM _ _ hp
 rw [h4] at hk
 obtain rfl:=kR hk
 obtain ⟨z1,z2⟩:=dF (β:=β) h7
 obtain ⟨f1,f2⟩:=lP (β:=β) _ _ _ hf (yO hsc)
 refine ⟨?_,?_⟩
 ·simp only [Instr.build,Sem.run_bind,gK h1 h3,Result.andThen_ok,ag h2,aC e1]
  rw [parts_eq q1,←z1,←e5,f1]
  rfl
 ·intro s hs
  rcases f2 s hs with h|⟨x,hx,h⟩
  ·rw [z2] at h;cases h
  ·exact q2 x hx s h
theorem Fm {α:Type}[Inhabited α](zs:List α)(m:Nat):((List.range (m*zs.length)).map fun j=>zs.toArray[j%zs.length]!)=(List.replicate m zs).flatten:=by
 induction m with
 | zero=>simp
 | succ m ih=>
  rw [List.replicate_succ',List.flatten_append,←ih,Nat.succ_mul,List.range_add,List.map_append]
  congr 1
  simp only [List.flatten_cons,List.flatten_nil,List.append_nil,List.map_map]
  apply List.ext_getElem?
  intro j
  rw [List.getElem?_map]
  by_cases hj:j<zs.length
  ·rw [List.getElem?_range hj]
   simp only [Option.map_some,Function.comp]
   rw [Nat.add_comm,Nat.add_mul_mod_self_right,Nat.mod_eq_of_lt hj]
   simp [hj]
  ·rw [List.getElem?_eq_none (by simp;omega),List.getElem?_eq_none (by omega)];rfl
theorem Jy (m:Nat)(zs:List C):(rep m zs).map (C.den β)=(List.replicate m (zs.map (C.den β))).flatten:=by
 unfold rep;rw [List.map_flatten,List.map_replicate]
theorem Jx {m:Nat}{zs:List C}(h:zs.flatMap C.ids=[]):(rep m zs).flatMap C.ids=[]:=by
 unfold rep
 induction m with
 | zero=>rfl
 | succ m ih=>rw [List.replicate_succ,List.flatten_cons,List.flatMap_append,h,ih];rfl
theorem oP (m:Nat)(zs:List Value):nA m zs=(List.replicate m zs).flatten:=by
 unfold nA
 split
 ·rename_i z
  induction m with
  | zero=>rfl
  | succ m ih=>rw [List.replicate_succ,List.replicate_succ,List.flatten_cons,ih];rfl
 ·rfl
theorem oU {z:Value}{m:Nat}(k:Nat)(hk:k=m*z.cells.size) :
  ((Array.range k).map fun j=>z.cells[j%z.cells.size]!)=((List.replicate m z.cells.toList).flatten).toArray:=by
 apply Array.ext'
 rw [Array.toList_map,Array.toList_range]
 subst hk
 have:=Fm z.cells.toList m
 simpa using this
theorem sw {z:Value}{m:Nat}(h0:m*z.cells.size=0):(List.replicate m z.cells.toList).flatten=[]:=by
 rcases Nat.mul_eq_zero.1 h0 with h|h
 ·subst h;rfl
 ·have:z.cells.toList=[]:=by
   have:z.cells.toList.length=0:=by simpa using h
   exact List.length_eq_zero_iff.1 this
  rw [this];simp
theorem HF:Array.range 0=#[]:=rfl
theorem sE (hT:cD.ok P T)(hM:Mod n V0 bf β0 st β a w V){t:TypeId}{i:TI}(hi:jF P t=some i){e:TypeId}(hk:i.k=.slice e){len:Nat}
  {parts:Array (Nat×Operand)}{ps:List (Nat×SV)}(hp:partsOf st.aR parts.toList=some ps){ei:TI}(he:au T e=some ei)
  (hlen:len*ei.size<=16777216)(hzl:ei.zero.length=ei.size)(hz0:ei.size≠0)
  {cs:List C}(hf:mi (fun j=>some (j*ei.size,ei.size)) (rep len ei.zero) ps=some cs)(hsc:∀p∈ps.flatMap (fun x=>x.2.ee),p) :
  (Instr.buildSlice t len (parts.map fun x=>(x.1,a.eval x.2))).run P w=.ok (.slice (some ⟨w.heap.size,0,none⟩) len len) (w.alloc (aH.obj β ⟨.lit cs,e⟩)) /\
  ∀s∈cs.flatMap C.ids,∃b,st.boxes s=some b:=by
 obtain ⟨info,d,z,h1,h2,h3,h4,h5,h6,h7⟩:=aw hi
 obtain ⟨fQ,ed,ez,e1,e2,e3,e4,e5,e6,e7⟩:=aw (hT _ _ he)
 obtain ⟨q1,q2⟩:=iL hM _ _ hp
 rw [h4] at hk
 obtain rfl:=aN hk
 obtain ⟨z1,z2⟩:=dF (β:=β) e7
 obtain ⟨f1,f2⟩:=lP (β:=β) _ _ _ hf (yO hsc)
 have hzs:ez.cells.size=fQ.size:=by rw [←z1];simp [hzl,e5]
 refine ⟨?_,?_⟩
 ·have hr2:((List.replicate len ez.cells.toList).flatten).toArray=((rep len ei.zero).map (C.den β)).toArray:=by
   rw [Jy,←z1]
  have hn:¬len*fQ.size>2^24:=by rw [←e5];simpa using hlen
  simp only [Instr.buildSlice,Sem.run_bind,ag h2,Result.andThen_ok,aC e1,Sem.run_ite,if_neg hn]
  by_cases h0:len*fQ.size=0
  ·have hr:=sw (z:=ez) (m:=len) (by rw [hzs];exact h0)
   rw [hr] at hr2
   simp only [h0,if_true,Sem.run_pure,Result.andThen_ok,HF,Array.map_empty,←hr2] at f1 ⊢
   rw [parts_eq q1,←e5]
   have VU:Instr.fill (fun j=>some (j*ei.size,ei.size)) #[] (ps.map fun x=>(x.1,x.2.den β))=some (cs.map (C.den β)).toArray:=f1
   rw [VU]
   simp only [Sem.run_bind,newRow,run_newObj,Result.andThen_ok,Sem.run_pure]
   rfl
  ·simp only [h0,if_false,gK e1 e3,Sem.run_pure,Result.andThen_ok]
   rw [oU (z:=ez) (m:=len) (len*fQ.size) (by rw [hzs]),hr2,parts_eq q1,←e5,f1]
   simp only [Sem.run_bind,newRow,run_newObj,Result.andThen_ok,Sem.run_pure]
   rfl
 ·intro s hs
  rcases f2 s hs with h|⟨x,hx,h⟩
  ·rw [Jx z2] at h;cases h
  ·exact q2 x hx s h
theorem xS {x:Int}(h0:0<=x)(h1:x<9223372036854775808):i64.wrap x=x:=by
 unfold IntKind.wrap IntKind.bits IntKind.signed
 simp
 omega
theorem vG (hT:cD.ok P T){t:TypeId}{i:TI}(hi:jF P t=some i){e:TypeId}(hk:i.k=.slice e){ei:TI}(he:au T e=some ei)
  {k1 k2:IntKind}{l c:Int}(hb:ei.bytes≠0)(hs:ei.size≠0){zs:List Value}(hz:jK ei.zero=some zs)(hzl:ei.size=zs.length)
  (c1:0<=l)(c2:l<=c)(c3:(ei.bytes:Int)*c<=140737488355328) :
  (Instr.makeSlice t (.int k1 l) (.int k2 c)).run P w=.ok (.slice (some ⟨w.heap.size,0,none⟩) l.toNat c.toNat) (w.alloc (aH.obj β ⟨.row (nA c.toNat zs),e⟩)):=by
 obtain ⟨info,d,z,h1,h2,h3,h4,h5,h6,h7⟩:=aw hi
 obtain ⟨fQ,ed,ez,e1,e2,e3,e4,e5,e6,e7⟩:=aw (hT _ _ he)
 rw [h4] at hk
 obtain rfl:=aN hk
 obtain ⟨z1,z2⟩:=dF (β:=β) e7
 obtain ⟨d1,-⟩:=eW (β:=β) hz
 have hzs:ez.cells.size=fQ.size:=by rw [←z1,d1];simp [←hzl,e5]
 have hbig:c<=140737488355328:=by
  have:1<=(ei.bytes:Int):=by omega
  have:=Int.mul_le_mul_of_nonneg_right this (by omega:0<=c)
  omega
 have w1:i64.wrap l=l:=xS c1 (by omega)
 have w2:i64.wrap c=c:=xS (by omega) (by omega)
 rw [e6] at c3
 have t1:(decide (c<0)||decide ((fQ.bytes:Int)*c>2^48))=false:=by
  rw [show ((2:Int)^48)=281474976710656 from by decide]
  simp;omega
 have t2:decide (l<0)=false:=by simp;omega
 have t3:decide (l>c)=false:=by simp;omega
 have hrow:(List.replicate c.toNat ez.cells.toList).flatten=nA c.toNat zs:=by rw [oP,←d1,←z1]
 simp only [Instr.makeSlice,Sem.run_bind,ag h2,Result.andThen_ok,i_ e1,asInt,asIntOf,Sem.run_pure,w1,w2,t1,t2,t3,Bool.or_self,Bool.false_eq_true,if_false,run_askRoom,aC e1,Sem.run_ite]
 by_cases h0:c.toNat*fQ.size=0
 ·have hr:=sw (z:=ez) (m:=c.toNat) (by rw [hzs];exact h0)
  rw [hr] at hrow
  simp only [h0,if_true,Sem.run_bind,Sem.run_pure,Result.andThen_ok,HF,Array.map_empty,newRow,run_newObj,←hrow]
  rfl
 ·simp only [h0,if_false,gK e1 e3,Result.andThen_ok]
  rw [oU (z:=ez) (m:=c.toNat) (c.toNat*fQ.size) (by rw [hzs]),hrow]
  simp only [Sem.run_bind,newRow,run_newObj,Result.andThen_ok,Sem.run_pure]
  rfl
end Go.Eng
namespace Go.Eng
variable {P:Program} {T:cD} {n:Nat} {V0:View} {bf:Ce} {β0:Nat->Nat} {st:St} {β:Nat->Nat} {a:Act} {w:World} {V:View}
theorem At {gs:Array Field}{f ft off:Nat}(h:(gs.toList.map fun f=>(f.type,f.offset))[f]?=some (ft,off)):∃Ij,gs[f]?=some Ij/\Ij.type=ft/\Ij.offset=off:=by
 rw [List.getElem?_map] at h
 cases hg:gs.toList[f]? with
 | none=>rw [hg] at h;cases h
 | some Ij=>
  rw [hg] at h
  simp only [Option.map_some,Option.some.injEq,Prod.mk.injEq] at h
  exact ⟨Ij,by simpa using hg,h.1,h.2⟩
theorem qm (hT:cD.ok P T){t:TypeId}{i:TI}(hi:jF P t=some i){fs:List (TypeId×Nat)}(hk:i.k=.struct fs){f ft off:Nat}(hf:fs[f]?=some (ft,off))
  {fi:TI}(hfi:au T ft=some fi)(hs:fi.size≠0)(ad:Addr):(Instr.fieldAt t (.pointer (some ad)) f).run P w=.ok (.pointer (some (ad.add off))) w:=by
 obtain ⟨info,d,z,h1,h2,h3,h4,h5,h6,h7⟩:=aw hi
 obtain ⟨TJ,fd,fz,e1,e2,e3,e4,e5,e6,e7⟩:=aw (hT _ _ hfi)
 rw [h4] at hk
 obtain ⟨gs,rfl,rfl⟩:=gU hk
 obtain ⟨Ij,k1,rfl,rfl⟩:=At hf
 simp only [Instr.fieldAt,Sem.run_bind,ag h2,Result.andThen_ok,k1,Instr.sureAddr,Sem.run_pure,fieldPlace,aC e1]
 rw [Sem.run_ite,if_neg (by omega)]
 rfl
theorem Be {t:TypeId}{i:TI}(hi:jF P t=some i)(cs:List C)(off:Nat) :
  (oS i.k=true->(part t (cs.map (C.den β)).toArray off).run P w=.ok (SV.den β (.agg ((cs.drop off).take i.size))) w) /\
  (∀c,oS i.k=false->cs[off]?=some c->(part t (cs.map (C.den β)).toArray off).run P w=.ok (c.den β) w):=by
 obtain ⟨info,d,z,h1,h2,h3,h4,h5,h6,h7⟩:=aw hi
 refine ⟨fun hk=>?_,fun c hk hc=>?_⟩
 ·rw [h4] at hk
  simp only [part,Sem.run_bind,fJ h2,Result.andThen_ok,hk,if_true,aC h1,Sem.run_pure,SV.den]
  congr 2
  apply Array.ext'
  rw [←h5]
  simp [List.map_take,List.map_drop,List.extract,List.take_drop]
 ·rw [h4] at hk
  simp [part,fJ h2,hk,hc]
theorem EW (hT:cD.ok P T){t:TypeId}{i:TI}(hi:jF P t=some i){fs:List (TypeId×Nat)}(hk:i.k=.struct fs){f ft off:Nat}(hf:fs[f]?=some (ft,off))
  {fi:TI}(hfi:au T ft=some fi){cs:List C} :
  (oS fi.k=true->(Instr.field t (SV.den β (.agg cs)) f).run P w=.ok (SV.den β (.agg ((cs.drop off).take fi.size))) w) /\
  (∀c,oS fi.k=false->cs[off]?=some c->(Instr.field t (SV.den β (.agg cs)) f).run P w=.ok (c.den β) w):=by
 obtain ⟨info,d,z,h1,h2,h3,h4,h5,h6,h7⟩:=aw hi
 rw [h4] at hk
 obtain ⟨gs,rfl,rfl⟩:=gU hk
 obtain ⟨Ij,k1,rfl,rfl⟩:=At hf
 have hp:=Be (w:=w) (β:=β) (hT _ _ hfi) cs Ij.offset
 have hr:∀r,(part Ij.type (cs.map (C.den β)).toArray Ij.offset).run P w=r->(Instr.field t (SV.den β (.agg cs)) f).run P w=r:=by
  intro r hr
  simp only [Instr.field,Sem.run_bind,ag h2,Result.andThen_ok,k1,asAgg,SV.den,Sem.run_pure,hr]
 exact ⟨fun h=>hr _ (hp.1 h),fun c h hc=>hr _ (hp.2 c h hc)⟩
theorem dm (k:IntKind)(x:Int):(asIntOf (.int k x)).run P w=.ok (k,x) w:=rfl
theorem uc (hT:cD.ok P T){t:TypeId}{i:TI}(hi:jF P t=some i){x ix:SV}{sc:List Prop}{v:SV}(h:fH T i x ix=.ret sc v)(hsc:∀p∈sc,p) :
  (Instr.indexAt t (x.den β) (ix.den β)).run P w=.ok (v.den β) w/\∀s∈v.ids,s∈x.ids:=by
 obtain ⟨info,d,z,h1,h2,h3,h4,h5,h6,h7⟩:=aw hi
 unfold fH at h
 split at h
 ·rename_i k m
  split at h
  ·rename_i e hk
   rw [h4] at hk
   obtain rfl:=aN hk
   split at h
   ·rename_i ei he
    obtain ⟨fQ,ed,ez,e1,e2,e3,e4,e5,e6,e7⟩:=aw (hT _ _ he)
    split at h
    ·rename_i ad len c
     simp only [Q.ret.injEq] at h;obtain ⟨rfl,rfl⟩:=h
     have c1:=hsc (ad.isSome=true) (by simp)
     have c2:=hsc (0<=m/\m<(len:Int)) (by simp)
     obtain ⟨p,rfl⟩:=Option.isSome_iff_exists.1 c1
     refine ⟨?_,fun s hs=>hs⟩
     simp [Instr.indexAt,SV.den,C.den,dm,ag h2,c2,aC e1,addrAdd,e5]
    ·rename_i s o len c
     simp only [Q.ret.injEq] at h;obtain ⟨rfl,rfl⟩:=h
     have c2:=hsc (0<=m/\m<(len:Int)) (by simp)
     refine ⟨?_,fun s hs=>by simpa [SV.ids,C.ids] using hs⟩
     simp [Instr.indexAt,SV.den,C.den,dm,ag h2,c2,aC e1,dV,e5]
    ·rename_i s len c
     simp only [Q.ret.injEq] at h;obtain ⟨rfl,rfl⟩:=h
     have c2:=hsc (0<=m/\m<(len:Int)) (by simp)
     have c3:=hsc (len<=c) (by simp)
     refine ⟨?_,fun s hs=>by simpa [SV.ids,C.ids] using hs⟩
     have e0:mA (β s) c=some ⟨β s,0,none⟩:=by unfold mA;rw [if_neg (by omega)]
     simp [Instr.indexAt,SV.den,C.den,dm,ag h2,c2,aC e1,dV,e5,e0]
    ·cases h
   ·cases h
  ·rename_i len e hk
   rw [h4] at hk
   obtain rfl:=kR hk
   split at h
   ·rename_i ei he
    obtain ⟨fQ,ed,ez,e1,e2,e3,e4,e5,e6,e7⟩:=aw (hT _ _ he)
    split at h
    ·rename_i s o
     simp only [Q.ret.injEq] at h;obtain ⟨rfl,rfl⟩:=h
     have c2:=hsc (0<=m/\m<(len:Int)) (by simp)
     refine ⟨?_,fun s hs=>by simpa [SV.ids,C.ids] using hs⟩
     simp [Instr.indexAt,Instr.sureAddr,SV.den,C.den,dm,ag h2,c2,aC e1,dV,e5]
    ·rename_i ad
     simp only [Q.ret.injEq] at h;obtain ⟨rfl,rfl⟩:=h
     have c1:=hsc (ad.isSome=true) (by simp)
     have c2:=hsc (0<=m/\m<(len:Int)) (by simp)
     obtain ⟨p,rfl⟩:=Option.isSome_iff_exists.1 c1
     refine ⟨?_,fun s hs=>hs⟩
     simp [Instr.indexAt,Instr.sureAddr,SV.den,C.den,dm,ag h2,c2,aC e1,addrAdd,e5]
    ·cases h
   ·cases h
  ·cases h
 ·cases h
theorem EF {k:IntKind}{x:Int}{y:Nat}(code:BoundsCode)(h:0<=x/\x<=(y:Int)):(Instr.sliceBound (.int k x) y code).run P w=.ok x.toNat w:=by
 simp [Instr.sliceBound,dm,h]
theorem fT {len c:Nat}{lo hi mx:Option SV}{sc:List Prop}{l:Option Nat}{h m:Nat}(hq:lS len c lo hi mx=some (sc,l,h,m))(hsc:∀p∈sc,p) :
  (Instr.sliceBounds true len c (lo.map (SV.den β)) (hi.map (SV.den β)) (mx.map (SV.den β))).run P w=.ok (l.getD 0,h,m) w:=by
 unfold lS at hq
 cases ht:Jq c mx with
 | none=>rw [ht] at hq;cases hq
 | some t=>
  obtain ⟨p1,m'⟩:=t
  rw [ht] at hq
  dsimp only at hq
  cases hh:Hy len m' hi mx with
  | none=>rw [hh] at hq;cases hq
  | some t=>
   obtain ⟨p2,h'⟩:=t
   rw [hh] at hq
   dsimp only at hq
   cases hl:Mc h' lo with
   | none=>rw [hl] at hq;cases hq
   | some t=>
    obtain ⟨p3,l'⟩:=t
    rw [hl] at hq
    simp only [Option.some.injEq,Prod.mk.injEq] at hq
    obtain ⟨rfl,rfl,rfl,rfl⟩:=hq
    have hm:((mx=none/\m'=c)\/∃k x,mx=some (.c (.v (.int k x)))/\m'=x.toNat/\(0<=x/\x<=(c:Int))):=by
     unfold Jq at ht
     split at ht
     ·simp only [Option.some.injEq,Prod.mk.injEq] at ht;exact .inl ⟨rfl,ht.2.symm⟩
     ·rename_i k x
      simp only [Option.some.injEq,Prod.mk.injEq] at ht
      obtain ⟨rfl,rfl⟩:=ht
      exact .inr ⟨k,x,rfl,rfl,hsc _ (by simp)⟩
     ·cases ht
    have hhi:((hi=none/\mx=none/\h'=len)\/∃k x,hi=some (.c (.v (.int k x)))/\h'=x.toNat/\(0<=x/\x<=(m':Int))):=by
     unfold Hy at hh
     split at hh
     ·rename_i k x
      simp only [Option.some.injEq,Prod.mk.injEq] at hh
      obtain ⟨rfl,rfl⟩:=hh
      exact .inr ⟨k,x,rfl,rfl,hsc _ (by simp)⟩
     ·simp only [Option.some.injEq,Prod.mk.injEq] at hh;exact .inl ⟨rfl,rfl,hh.2.symm⟩
     ·cases hh
    have hlo:((lo=none/\l'=none)\/∃k x,lo=some (.c (.v (.int k x)))/\l'=some x.toNat/\(0<=x/\x<=(h':Int))):=by
     unfold Mc at hl
     split at hl
     ·simp only [Option.some.injEq,Prod.mk.injEq] at hl;exact .inl ⟨rfl,hl.2.symm⟩
     ·rename_i k x
      simp only [Option.some.injEq,Prod.mk.injEq] at hl
      obtain ⟨rfl,rfl⟩:=hl
      exact .inr ⟨k,x,rfl,rfl,hsc _ (by simp)⟩
     ·cases hl
    clear ht hh hl hsc
    rcases hm with ⟨rfl,rfl⟩|⟨k1,x1,rfl,rfl,b1⟩<;>rcases hhi with ⟨rfl,hx,rfl⟩|⟨k2,x2,rfl,rfl,b2⟩<;>rcases hlo with ⟨rfl,rfl⟩|⟨k3,x3,rfl,rfl,b3⟩ <;>
     (try cases hx) <;>
     simp only [Instr.sliceBounds,Option.map_none,Option.map_some,SV.den,C.den,Sem.run_bind,Sem.run_pure,Result.andThen_ok,Option.getD_none,Option.getD_some,Option.isSome_none,Option.isSome_some,if_true,Bool.false_eq_true,if_false] <;>
     (repeat (rw [EF _ (by assumption)];simp only [Result.andThen_ok]))
theorem C9 (hT:cD.ok P T){t:TypeId}{i:TI}(hi:jF P t=some i){e:TypeId}(hk:i.k=.slice e){ei:TI}(he:au T e=some ei){x:SV}{lo hi' mx:Option SV}{sc:List Prop}{v:SV}
  (h:pL ei.size x lo hi' mx=.ret sc v)(hsc:∀p∈sc,p) :
  (Instr.sliceAt t (x.den β) (lo.map (SV.den β)) (hi'.map (SV.den β)) (mx.map (SV.den β))).run P w=.ok (v.den β) w/\∀s∈v.ids,s∈x.ids:=by
 obtain ⟨info,d,z,h1,h2,h3,h4,h5,h6,h7⟩:=aw hi
 obtain ⟨fQ,ed,ez,e1,e2,e3,e4,e5,e6,e7⟩:=aw (hT _ _ he)
 rw [h4] at hk
 obtain rfl:=aN hk
 have add0:∀p:OA,p.map (fun x=>x.add 0)=p:=by intro p;cases p<;>simp [Addr.add]
 unfold pL at h
 split at h
 ·rename_i ad len c
  split at h
  ·rename_i PL hh m hb
   simp only [Q.ret.injEq] at h;obtain ⟨rfl,rfl⟩:=h
   have:=fT (P:=P) (w:=w) (β:=β) hb hsc
   refine ⟨?_,fun s hs=>hs⟩
   simp only [Instr.sliceAt,Instr.slice,SV.den,C.den,Sem.run_bind,ag h2,Result.andThen_ok,this,aC e1,Sem.run_pure,Option.getD_none,Nat.zero_mul,Nat.sub_zero,add0,ite_self]
  ·rename_i PL l hh m hb
   simp only [Q.ret.injEq] at h;obtain ⟨rfl,rfl⟩:=h
   have:=fT (P:=P) (w:=w) (β:=β) hb hsc
   refine ⟨?_,fun s hs=>hs⟩
   simp only [Instr.sliceAt,Instr.slice,SV.den,C.den,Sem.run_bind,ag h2,Result.andThen_ok,this,aC e1,Sem.run_pure,Option.getD_some,e5]
   rfl
  ·cases h
 ·rename_i s o len c
  split at h
  ·rename_i PL hh m hb
   simp only [Q.ret.injEq] at h;obtain ⟨rfl,rfl⟩:=h
   have:=fT (P:=P) (w:=w) (β:=β) hb hsc
   refine ⟨?_,fun s hs=>by simpa [SV.ids,C.ids] using hs⟩
   simp only [Instr.sliceAt,Instr.slice,SV.den,C.den,Sem.run_bind,ag h2,Result.andThen_ok,this,aC e1,Sem.run_pure,Option.getD_none,Nat.zero_mul,Nat.sub_zero,add0,ite_self]
  ·rename_i PL l hh m hb
   simp only [Q.ret.injEq] at h;obtain ⟨rfl,rfl⟩:=h
   have:=fT (P:=P) (w:=w) (β:=β) hb hsc
   refine ⟨?_,fun s hs=>by simpa [SV.ids,C.ids] using hs⟩
   simp only [Instr.sliceAt,Instr.slice,SV.den,C.den,Sem.run_bind,ag h2,Result.andThen_ok,this,aC e1,Sem.run_pure,Option.getD_some,e5]
   congr 2
   unfold UO
   split<;>simp [dV]
  ·cases h
 ·rename_i s len c
  split at h
  ·split at h
   ·rename_i PL hh m hb
    simp only [Q.ret.injEq] at h;obtain ⟨rfl,rfl⟩:=h
    have hm:m=c:=by
     unfold lS at hb
     simp only [Jq] at hb
     split at hb
     ·cases hb
     ·split at hb
      ·cases hb
      ·simp only [Option.some.injEq,Prod.mk.injEq] at hb;exact hb.2.2.2.symm
    have:=fT (P:=P) (w:=w) (β:=β) hb hsc
    refine ⟨?_,fun s hs=>by simpa [SV.ids,C.ids] using hs⟩
    simp only [Instr.sliceAt,Instr.slice,SV.den,C.den,Sem.run_bind,ag h2,Result.andThen_ok,this,aC e1,Sem.run_pure,Option.getD_none,Nat.zero_mul,Nat.sub_zero,add0,ite_self,hm]
   ·cases h
  ·cases h
 ·cases h
end Go.Eng
namespace Go.Eng
variable {P:Program} {T:cD} {n:Nat} {V0:View} {bf:Ce} {β0:Nat->Nat} {st:St} {β:Nat->Nat} {a:Act} {w:World} {V:View}
theorem dg {s:Sem Value}{v:Value}{w':World}(h:s.run P w=.ok v w'):(do pure (Next.value (←s)):Sem Next).run P w=.ok (.value v) w':=by
 simp [h]
theorem O7 {s:Sem Unit}{w':World}(h:s.run P w=.ok () w'):(do s;pure Next.skip:Sem Next).run P w=.ok .skip w':=by
 simp [h]
theorem pA {f:Int->Int->Int}{k:IntKind}{g:Value->Value->Sem Value}(hg:∀x y k',(g (.int k x) (.int k' y))=pure (.int k (f x y))):∀(r:List SV)(x m:Int),foldI f k x r=some m ->
  ((r.map (SV.den β)).foldlM g (.int k x)).run P w=.ok (.int k m) w
 | [],x,m,h=>by simp only [foldI,Option.some.injEq] at h;subst h;rfl
 | y::r,x,m,h=>by
  unfold foldI at h
  split at h
  ·rename_i e;cases e
  ·rename_i k' b r' e
   simp only [List.cons.injEq] at e
   obtain ⟨rfl,rfl⟩:=e
   split at h
   ·simp only [List.map_cons,List.foldlM_cons,SV.den,C.den,hg,pure_bind]
    exact pA hg r _ m h
   ·cases h
  ·cases h
theorem En:∀{cs:List C} {l:List (OA×Nat×Nat)} {k:Nat},Em cs=some l->k<l.length->cs[k]?=some (.v (.slice (l.getD k (none,0,0)).1 (l.getD k (none,0,0)).2.1 (l.getD k (none,0,0)).2.2))
 | [],l,k,h,hk=>by cases h;cases hk
 | c::r,l,k,h,hk=>by
  unfold Em at h
  split at h
  ·cases ‹_=[]›
  ·rename_i p n d r' e
   cases e
   split at h
   ·rename_i l' hl'
    cases h
    cases k with
    | zero=>rfl
    | succ k=>simpa using En hl' (by simpa using hk)
   ·cases h
  ·cases h
theorem qj {d:TypeDesc}(h:jd d=.str):d=.string:=by cases d<;>simp_all [jd]
theorem y_ {b:Builtin}{xs:List SV}{t:TypeId}{ts:List TypeId}{ty:TypeId}{cs:Array Bool}{i:TI}(hi:jF P t=some i){sc:List Prop}{v:SV}(h:jG b i.k xs=.ret sc v) :
  (builtin b (t::ts).toArray ty cs (xs.map (SV.den β)).toArray).run P w=.ok (.value (v.den β)) w/\v.ids=[]:=by
 obtain ⟨info,d,z,h1,h2,h3,h4,h5,h6,h7⟩:=aw hi
 unfold jG at h
 split at h
 ·cases h
 ·rename_i x r
  split at h
  ·split at h
   ·rename_i e ad m c hk
    rw [h4] at hk
    obtain rfl:=aN hk
    simp only [Q.ret.injEq] at h;obtain ⟨rfl,rfl⟩:=h
    refine ⟨?_,rfl⟩
    simp [builtin,Builtin.len_,ag h2,SV.den,C.den,goInt]
   ·rename_i e s o m c hk
    rw [h4] at hk
    obtain rfl:=aN hk
    simp only [Q.ret.injEq] at h;obtain ⟨rfl,rfl⟩:=h
    refine ⟨?_,rfl⟩
    simp [builtin,Builtin.len_,ag h2,SV.den,C.den,goInt]
   ·rename_i e s m c hk
    rw [h4] at hk
    obtain rfl:=aN hk
    simp only [Q.ret.injEq] at h;obtain ⟨rfl,rfl⟩:=h
    refine ⟨?_,rfl⟩
    simp [builtin,Builtin.len_,ag h2,SV.den,C.den,goInt]
   ·rename_i s hk
    rw [h4] at hk
    obtain rfl:=qj hk
    simp only [Q.ret.injEq] at h;obtain ⟨rfl,rfl⟩:=h
    refine ⟨?_,rfl⟩
    simp [builtin,Builtin.len_,ag h2,SV.den,C.den,goInt]
   ·cases h
  ·split at h
   ·rename_i e ad m c hk
    rw [h4] at hk
    obtain rfl:=aN hk
    simp only [Q.ret.injEq] at h;obtain ⟨rfl,rfl⟩:=h
    refine ⟨?_,rfl⟩
    simp [builtin,Builtin.cap_,ag h2,SV.den,C.den,goInt]
   ·rename_i e s o m c hk
    rw [h4] at hk
    obtain rfl:=aN hk
    simp only [Q.ret.injEq] at h;obtain ⟨rfl,rfl⟩:=h
    refine ⟨?_,rfl⟩
    simp [builtin,Builtin.cap_,ag h2,SV.den,C.den,goInt]
   ·rename_i e s m c hk
    rw [h4] at hk
    obtain rfl:=aN hk
    simp only [Q.ret.injEq] at h;obtain ⟨rfl,rfl⟩:=h
    refine ⟨?_,rfl⟩
    simp [builtin,Builtin.cap_,ag h2,SV.den,C.den,goInt]
   ·cases h
  ·split at h
   ·rename_i k a
    split at h
    ·rename_i m hm
     simp only [Q.ret.injEq] at h;obtain ⟨rfl,rfl⟩:=h
     refine ⟨?_,rfl⟩
     have:=pA (P:=P) (w:=w) (β:=β) (f:=bH) (k:=k) (g:=Builtin.min2) (fun x y k'=>by simp [Builtin.min2,bH]) r a m hm
     simp [builtin,Builtin.min_,SV.den,C.den] at this ⊢
     rw [this]
     rfl
    ·cases h
   ·cases h
  ·split at h
   ·rename_i k a
    split at h
    ·rename_i m hm
     simp only [Q.ret.injEq] at h;obtain ⟨rfl,rfl⟩:=h
     refine ⟨?_,rfl⟩
     have:=pA (P:=P) (w:=w) (β:=β) (f:=maxI) (k:=k) (g:=Builtin.max2) (fun x y k'=>by simp [Builtin.max2,maxI]) r a m hm
     simp [builtin,Builtin.max_,SV.den,C.den] at this ⊢
     rw [this]
     rfl
    ·cases h
   ·cases h
  ·cases h
theorem Gm {x:Bool×List C}{y:SV}(h:pg x=some y):gx β x=y.den β/\∀s∈y.ids,s∈x.2.flatMap C.ids:=by
 obtain ⟨b,cs⟩:=x
 cases b with
 | true=>simp only [pg,Option.some.injEq] at h;subst h;exact ⟨rfl,fun s hs=>hs⟩
 | false=>
  match cs,h with
  | [],h=>simp [pg] at h
  | [c],h=>simp only [pg,Option.some.injEq] at h;subst h;exact ⟨rfl,fun s hs=>by simpa [SV.ids] using hs⟩
  | _::_::_,h=>simp [pg] at h
theorem qw:∀(xs:List SV)(ss:List Nat),t_ xs=some ss->xs.map (SV.den β)=(ss.map fun s=>Value.pointer (some ⟨β s,0,none⟩))/\∀s∈ss,∃x∈xs,s∈x.ids
 | [],ss,h=>by simp only [t_,Option.some.injEq] at h;subst h;exact ⟨rfl,fun s hs=>by cases hs⟩
 | x::r,ss,h=>by
  unfold t_ at h
  split at h
  ·rename_i e;cases e
  ·rename_i s r' e
   simp only [List.cons.injEq] at e
   obtain ⟨rfl,rfl⟩:=e
   split at h
   ·rename_i l hl
    simp only [Option.some.injEq] at h;subst h
    obtain ⟨h1,h2⟩:=qw r l hl
    refine ⟨by simp [h1,SV.den,C.den],fun s' hs'=>?_⟩
    rcases List.mem_cons.1 hs' with rfl|hs'
    ·exact ⟨.c (.ptr s' 0),by simp,by simp [SV.ids,C.ids]⟩
    ·obtain ⟨y,hy,hs'⟩:=h2 s' hs';exact ⟨y,List.mem_cons_of_mem _ hy,hs'⟩
   ·cases h
  ·cases h
theorem tX (hM:Mod n V0 bf β0 st β a w V){x:Option Operand}{v:Option SV}(h:yQ st.aR x=some v):x.map a.eval=v.map (SV.den β):=by
 cases x with
 | none=>simp only [yQ,Option.some.injEq] at h;subst h;rfl
 | some o=>
  simp only [yQ] at h
  split at h
  ·rename_i y hy;simp only [Option.some.injEq] at h;subst h;simp [hM.eval hy]
  ·cases h
theorem lQ {x y:SV}(hx:Live st x)(h:∀s∈y.ids,s∈x.ids):Live st y:=fun s hs=>hx s (h s hs)
theorem km {bx:Nat->Option aH}{t:TypeId}{x:SV}:kl T bx t x=.fail\/∃sc s b,kl T bx t x=.qV sc s b:=by
 unfold kl;split<;>(try split)<;>(try split)<;>(try split)<;>(try split)<;>(try split)<;>first|exact .inl rfl|exact .inr ⟨_,_,_,rfl⟩
theorem C7 {bx:Nat->Option aH}{t:TypeId}{x:SV}{sc:List Prop}{v:SV}(h:kl T bx t x=.ret sc v):False:=by
 rcases km (T:=T) (bx:=bx) (t:=t) (x:=x) with e|⟨_,_,_,e⟩<;>rw [e] at h<;>cases h
theorem Bh {bx:Nat->Option aH}{e:TypeId}{ei:TI}{b x:SV}{sc:List Prop}{v:SV}(h:bS bx e ei b x=.ret sc v):False:=by
 unfold bS at h
 split at h
 ·cases h
 ·split at h
  ·cases h
  ·dsimp only at h
   split at h
   ·cases h
   ·split at h
    ·cases h
    ·split at h
     ·split at h<;>cases h
     ·cases h
    ·split at h
     ·split at h<;>cases h
     ·cases h
    ·cases h
theorem Fj (hT:cD.ok P T)(hM:Mod n V0 bf β0 st β a w V){o:Oper}{sc:List Prop}{v:SV}(h:aE T st.aR st.boxes o.op=.ret sc v)(hsc:∀p∈sc,p) :
  (execOp a.eval o).run P w=.ok (.value (v.den β)) w/\Live st v:=by
 unfold aE at h
 split at h
 case h_1 op x hop=>
  split at h
  ·rename_i y hy
   simp only [Q.ret.injEq] at h;obtain ⟨rfl,rfl⟩:=h
   refine ⟨?_,hM.live hy⟩
   simp only [execOp,hop,hM.eval hy];rfl
  ·cases h
 case h_2 op x hop=>
  split at h
  ·rename_i y hy
   simp only [Q.ret.injEq] at h;obtain ⟨rfl,rfl⟩:=h
   refine ⟨?_,hM.live hy⟩
   simp only [execOp,hop,hM.eval hy];rfl
  ·cases h
 case h_3 op c x y hop=>
  split at h
  ·rename_i hc
   split at h
   ·rename_i z hz
    simp only [Q.ret.injEq] at h;obtain ⟨rfl,rfl⟩:=h
    refine ⟨?_,hM.live hz⟩
    simp [execOp,hop,hM.eval hz,hM.eval hc,SV.den,C.den,asBool]
   ·cases h
  ·rename_i hc
   split at h
   ·rename_i z hz
    simp only [Q.ret.injEq] at h;obtain ⟨rfl,rfl⟩:=h
    refine ⟨?_,hM.live hz⟩
    simp [execOp,hop,hM.eval hz,hM.eval hc,SV.den,C.den,asBool]
   ·cases h
  ·cases h
 case h_4=>split at h<;>cases h
 case h_5=>
  split at h
  ·split at h<;>cases h
  ·cases h
 case h_6 op t parts hop=>
  split at h
  ·rename_i i ps hi hps
   have hi:=hT _ _ hi
   split at h
   ·rename_i fs hk
    split at h
    ·rename_i pl hpl
     split at h
     ·rename_i cs hcs
      simp only [Q.ret.injEq] at h;obtain ⟨rfl,rfl⟩:=h
      obtain ⟨h1,h2⟩:=x_ hT hM hi hk hps hpl hcs hsc
      refine ⟨?_,h2⟩
      simp only [execOp,hop];exact dg h1
     ·cases h
    ·cases h
   ·rename_i m e hk
    split at h
    ·rename_i ei Az
     split at h
     ·rename_i cs hcs
      simp only [Q.ret.injEq] at h;obtain ⟨rfl,rfl⟩:=h
      obtain ⟨h1,h2⟩:=zW hT hM hi hk hps Az hcs hsc
      refine ⟨?_,h2⟩
      simp only [execOp,hop];exact dg h1
     ·cases h
    ·cases h
   ·cases h
  ·cases h
 case h_7=>
  split at h
  ·split at h
   ·split at h
    ·split at h
     ·split at h<;>cases h
     ·cases h
    ·cases h
   ·cases h
  ·cases h
 case h_8 op t x hop=>
  split at h
  ·rename_i i y hi hy
   obtain ⟨h1,h2⟩:=xF hM (hT _ _ hi) h
   refine ⟨?_,h2⟩
   simp only [execOp,hop,hM.eval hy];exact dg h1
  ·cases h
 case h_9=>
  split at h
  ·unfold fI at h
   split at h
   ·split at h
    ·split at h
     ·split at h<;>cases h
     ·split at h<;>cases h
     ·split at h
      ·cases h
      ·split at h<;>cases h
     ·cases h
    ·cases h
   ·cases h
  ·cases h
 case h_10 op x hop=>
  split at h
  ·rename_i s o hx
   simp only [Q.ret.injEq] at h;obtain ⟨rfl,rfl⟩:=h
   refine ⟨?_,hM.live hx⟩
   simp [execOp,hop,hM.eval hx,SV.den,C.den]
  ·rename_i p hx
   simp only [Q.ret.injEq] at h;obtain ⟨rfl,rfl⟩:=h
   obtain ⟨ad,rfl⟩:=Option.isSome_iff_exists.1 (hsc (p.isSome=true) (by simp))
   refine ⟨?_,hM.live hx⟩
   simp [execOp,hop,hM.eval hx,SV.den,C.den]
  ·cases h
 case h_11 op VL xt x y yt hop=>
  split at h
  ·rename_i p q hp hq
   have key:(q=.v .nilIface->∃c,y=.const c)->yZ T VL xt p q=.ret sc v->(execOp a.eval o).run P w=.ok (.value (v.den β)) w/\Live st v:=by
    intro hc h
    obtain ⟨h1,h2⟩:=Hx (P:=P) (w:=w) (β:=β) hT (ox:=x) (oy:=y) h hsc hc
    refine ⟨?_,bG h2⟩
    simp only [execOp,hop,hM.eval hp,hM.eval hq];exact dg h1
   split at h
   ·split at h
    ·exact key (fun _=>⟨_,rfl⟩) h
    ·cases h
   ·rename_i hne;exact key (fun e=>absurd e hne) h
  ·cases h
 case h_12 op t x hop=>
  split at h
  ·rename_i hx
   simp only [Q.ret.injEq] at h;obtain ⟨rfl,rfl⟩:=h
   refine ⟨?_,bG rfl⟩
   simp [execOp,hop,hM.eval hx,SV.den,C.den,Op.unary]
  ·rename_i hx
   simp only [Q.ret.injEq] at h;obtain ⟨rfl,rfl⟩:=h
   refine ⟨?_,bG rfl⟩
   simp [execOp,hop,hM.eval hx,SV.den,C.den,Op.unary]
  ·rename_i b hx
   simp only [Q.ret.injEq] at h;obtain ⟨rfl,rfl⟩:=h
   refine ⟨?_,bG rfl⟩
   simp [execOp,hop,hM.eval hx,SV.den,C.den,Op.unary]
  ·cases h
 case h_13 op t x hop=>
  split at h
  ·rename_i k m hx
   simp only [Q.ret.injEq] at h;obtain ⟨rfl,rfl⟩:=h
   refine ⟨?_,bG rfl⟩
   simp [execOp,hop,hM.eval hx,SV.den,C.den,Op.unary,Op.intBits,a_]
  ·cases h
 case h_14 op t x hop=>
  split at h
  ·rename_i k m hx
   simp only [Q.ret.injEq] at h;obtain ⟨rfl,rfl⟩:=h
   refine ⟨?_,bG rfl⟩
   simp [execOp,hop,hM.eval hx,SV.den,C.den,Op.unary,Op.intArith]
  ·cases h
 case h_15 op src dst x hop=>
  split at h
  ·rename_i i0 i k m hi0 hi hx
   obtain ⟨Ku,d0,z0,g1,g2,-⟩:=aw (hT _ _ hi0)
   obtain ⟨info,d,z,h1,h2,h3,h4,h5,h6,h7⟩:=aw (hT _ _ hi)
   split at h
   ·rename_i k' hk
    rw [h4] at hk
    obtain rfl:=Aq hk
    simp only [Q.ret.injEq] at h;obtain ⟨rfl,rfl⟩:=h
    refine ⟨?_,bG rfl⟩
    simp only [execOp,hop,hM.eval hx]
    refine dg ?_
    simp only [convert,Sem.run_bind,ag g2,ag h2,Result.andThen_ok,SV.den,C.den]
    cases d0<;>rfl
   ·cases h
  ·cases h
 case h_16 op f first caps hop=>
  split at h
  ·rename_i hf
   split at h
   ·rename_i xs hxs
    split at h
    ·rename_i ss hss
     simp only [Q.ret.injEq] at h;obtain ⟨rfl,rfl⟩:=h
     obtain ⟨h1,h2⟩:=eT hM _ _ hxs
     obtain ⟨h3,h4⟩:=qw (β:=β) _ _ hss
     refine ⟨?_,fun s hs=>?_⟩
     ·have e1:first=#[]:=by apply Array.ext';exact hf
      have e2:caps.map a.eval=(ss.map fun s=>Value.pointer (some ⟨β s,0,none⟩)).toArray:=by
       apply Array.ext'
       rw [Array.toList_map,h1,h3]
      simp [execOp,hop,Instr.makeFunc,e1,e2,SV.den,C.den]
     ·obtain ⟨x,hx,hs'⟩:=h4 s hs
      exact h2 x hx s hs'
    ·cases h
   ·cases h
  ·cases h
 case h_17=>
  split at h
  ·unfold xG at h
   split at h
   ·split at h
    ·split at h
     ·split at h
      ·split at h<;>cases h
      ·cases h
     ·cases h
    ·cases h
   ·cases h
  ·cases h
 case h_18 op t x lo hi mx hop=>
  split at h
  ·rename_i i xv l h' m hi' hx hl hh hm
   have hi':=hT _ _ hi'
   split at h
   ·rename_i e hk
    split at h
    ·rename_i ei Az
     obtain ⟨h1,h2⟩:=C9 (P:=P) (w:=w) (β:=β) hT hi' hk Az h hsc
     refine ⟨?_,lQ (hM.live hx) h2⟩
     simp only [execOp,hop,hM.eval hx,tX hM hl,tX hM hh,tX hM hm];exact dg h1
    ·cases h
   ·cases h
  ·cases h
 case h_19 op t x f hop=>
  split at h
  ·rename_i i xv hi hx
   have hi:=hT _ _ hi
   split at h
   ·rename_i fs hk
    split at h
    ·rename_i ft off hf
     split at h
     ·rename_i fi hfi
      split at h
      ·cases h
      ·rename_i hs
       have hs:fi.size≠0:=fun e=>hs (beq_eq.2 e)
       split at h
       ·rename_i s o'
        simp only [Q.ret.injEq] at h;obtain ⟨rfl,rfl⟩:=h
        have:=qm (w:=w) hT hi hk hf hfi hs ⟨β s,o',none⟩
        rw [dV] at this
        refine ⟨?_,lQ (hM.live hx) (fun s hs=>by simpa [SV.ids,C.ids] using hs)⟩
        simp only [execOp,hop,hM.eval hx];exact dg this
       ·rename_i p
        simp only [Q.ret.injEq] at h;obtain ⟨rfl,rfl⟩:=h
        obtain ⟨ad,rfl⟩:=Option.isSome_iff_exists.1 (hsc (p.isSome=true) (by simp))
        have:=qm (w:=w) hT hi hk hf hfi hs ad
        refine ⟨?_,bG rfl⟩
        simp only [execOp,hop,hM.eval hx];exact dg this
       ·cases h
     ·cases h
    ·cases h
   ·cases h
  ·cases h
 case h_20 op t x f hop=>
  split at h
  ·rename_i i cs hi hx
   have hi:=hT _ _ hi
   split at h
   ·rename_i fs hk
    split at h
    ·rename_i ft off hf
     split at h
     ·rename_i fi hfi
      obtain ⟨g1,g2⟩:=EW (P:=P) (w:=w) (β:=β) hT hi hk hf hfi (cs:=cs)
      have hagg:oS fi.k=true->Q.ret [] (.agg ((cs.drop off).take fi.size))=.ret sc v->(execOp a.eval o).run P w=.ok (.value (v.den β)) w/\Live st v:=by
       intro hk' h
       simp only [Q.ret.injEq] at h;obtain ⟨rfl,rfl⟩:=h
       refine ⟨?_,lQ (hM.live hx) fun s hs=>?_⟩
       ·simp only [execOp,hop,hM.eval hx];exact dg (g1 hk')
       ·obtain ⟨c,hc,hs⟩:=List.mem_flatMap.1 hs
        exact fS (List.mem_of_mem_drop (List.mem_of_mem_take hc)) hs
      split at h
      ·rename_i hk';exact hagg (by rw [hk'];rfl) h
      ·rename_i hk';exact hagg (by rw [hk'];rfl) h
      ·rename_i hk1 hk2
       have hk':oS fi.k=false:=by
        cases hik:fi.k<;>first|rfl|exact absurd hik (hk1 _)|exact absurd hik (hk2 _ _)
       split at h
       ·rename_i c hc
        simp only [Q.ret.injEq] at h;obtain ⟨rfl,rfl⟩:=h
        refine ⟨?_,lQ (hM.live hx) fun s hs=>?_⟩
        ·simp only [execOp,hop,hM.eval hx];exact dg (g2 c hk' hc)
        ·exact fS (List.mem_of_getElem? hc) hs
       ·cases h
     ·cases h
    ·cases h
   ·cases h
  ·cases h
 case h_21 op t x ix hop=>
  split at h
  ·rename_i i xv iv hi hx hix
   obtain ⟨h1,h2⟩:=uc (P:=P) (w:=w) (β:=β) hT (hT _ _ hi) h hsc
   refine ⟨?_,lQ (hM.live hx) h2⟩
   simp only [execOp,hop,hM.eval hx,hM.eval hix];exact dg h1
  ·cases h
 case h_22 op x j hop=>
  split at h
  ·rename_i xs hx
   split at h
   ·rename_i y hy
    split at h
    ·rename_i z hz
     simp only [Q.ret.injEq] at h;obtain ⟨rfl,rfl⟩:=h
     obtain ⟨h1,h2⟩:=Gm (β:=β) hz
     refine ⟨?_,lQ (hM.live hx) fun s hs=>List.mem_flatMap.2 ⟨y,List.mem_of_getElem? hy,h2 s hs⟩⟩
     have:(xs.map (gx β))[j]?=some (z.den β):=by rw [List.getElem?_map,hy];simp [h1]
     simp [execOp,hop,hM.eval hx,SV.den,Instr.extract,hy,h1]
    ·cases h
   ·cases h
  ·cases h
 case h_23 op c hop=>
  split at h
  ·split at h
   ·split at h
    ·split at h
     ·split at h
      ·exact (Bh h).elim
      ·cases h
     ·cases h
    ·cases h
   ·cases h
  ·split at h
   ·exact (C7 h).elim
   ·cases h
  ·rename_i b hb hb2 hc
   split at h
   ·rename_i xs t ts hxs hts
    split at h
    ·rename_i i hi
     obtain ⟨h1,h2⟩:=eT hM _ _ hxs
     have e1:c.argTypes=(t::ts).toArray:=by apply Array.ext';exact hts
     have e2:c.args.map a.eval=(xs.map (SV.den β)).toArray:=by apply Array.ext';rw [Array.toList_map];exact h1
     obtain ⟨k1,k2⟩:=y_ (P:=P) (w:=w) (β:=β) (ts:=ts) (ty:=o.type) (cs:=c.args.map fun|.const _=>true|_=>false) (hT _ _ hi) h
     refine ⟨?_,bG k2⟩
     simp only [execOp,hop,resolve,hc,pure_bind,invoke,e1,e2]
     exact k1
    ·cases h
   ·cases h
  ·cases h
 case h_24 op t x ix hop=>
  split at h
  ·rename_i i s k m hi hx hix
   split at h
   ·rename_i hk
    obtain ⟨info,d,z,h1,h2,h3,h4,h5,h6,h7⟩:=aw (hT _ _ hi)
    rw [h4] at hk
    obtain rfl:=qj hk
    simp only [Q.ret.injEq] at h;obtain ⟨rfl,rfl⟩:=h
    have hb:=hsc _ (List.mem_singleton.2 rfl)
    refine ⟨?_,bG rfl⟩
    have hlt:m.toNat<s.size:=by omega
    have e:s.data.toList.getD m.toNat 0=s[m.toNat]'hlt:=by
     have:s.data.toList[m.toNat]?=some (s[m.toNat]'hlt):=by
      rw [Array.getElem?_toList];exact Array.getElem?_eq_getElem (by simpa using hlt)
     rw [List.getD_eq_getElem?_getD,this];rfl
    simp only [execOp,hop,hM.eval hx,hM.eval hix,SV.den,C.den]
    refine dg ?_
    rw [run_index_string (w:=w) t s k m h2,dif_pos hb,e]
   ·cases h
  ·rename_i i cs k m hi hx hix
   unfold jH at h
   split at h
   ·rename_i n e hk
    split at h
    ·rename_i ei l Az hl
     split at h
     ·rename_i e2 hek
      split at h
      ·rename_i hb
       rw [Bool.and_eq_true] at hb
       simp only [Q.ret.injEq] at h;obtain ⟨rfl,rfl⟩:=h
       have hm:=hsc _ (List.mem_singleton.2 rfl)
       obtain ⟨info,d,z,h1,h2,h3,h4,h5,h6,h7⟩:=aw (hT _ _ hi)
       rw [h4] at hk
       obtain rfl:=kR hk
       obtain ⟨fQ,ed,ez,e1,e2,e3,e4,e5,e6,e7⟩:=aw (hT _ _ Az)
       refine ⟨?_,bG rfl⟩
       have b1:=beq_eq.1 hb.1
       have b2:=beq_eq.1 hb.2
       have hc:=En hl (show m.toNat<l.length by omega)
       have hp:=(Be (w:=w) (β:=β) (hT _ _ Az) cs m.toNat).2 _ (by rw [hek];rfl) hc
       simp only [execOp,hop,hM.eval hx,hM.eval hix]
       refine dg ?_
       have es:m.toNat*fQ.size=m.toNat:=by rw [←e5,b1,Nat.mul_one]
       simp only [Instr.index,SV.den,C.den,dm,Sem.run_bind,Result.andThen_ok,ag h2,Sem.run_ite,if_pos hm,aC e1,es]
       exact hp
      ·cases h
     ·cases h
    ·cases h
   ·cases h
  ·cases h
 case h_25 op t x hop=>
  split at h
  ·rename_i i y hi hx
   obtain ⟨info,d,z,h1,h2,h3,h4,h5,h6,h7⟩:=aw (hT _ _ hi)
   unfold ub at h
   split at h
   ·cases h
   ·rename_i hk
    split at h
    ·rename_i eX WV
     simp only [Q.ret.injEq] at h;obtain ⟨rfl,rfl⟩:=h
     refine ⟨?_,bG rfl⟩
     simp only [execOp,hop,hM.eval hx]
     refine dg ?_
     have hd:∀ms,d≠.interface ms:=fun ms e=>by rw [e] at h4;exact hk h4
     have e2:y.den β=y.den fun _=>0:=SV.bw fun s hs=>by rw [eX] at hs;cases hs
     show (Instr.makeInterface t (y.den β)).run P w=.ok (.iface t (y.den fun _=>0)) w
     rw [e2]
     generalize y.den (fun _=>0)=u
     simp only [Instr.makeInterface,Sem.run_bind,ag h2,Result.andThen_ok]
     cases d<;>first|rfl|exact absurd rfl (hd _)
    ·cases h
  ·cases h
 case h_26=>cases h
end Go.Eng
