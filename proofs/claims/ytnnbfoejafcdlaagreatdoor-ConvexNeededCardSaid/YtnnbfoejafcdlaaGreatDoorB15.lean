import Derived.Test.YtnnbfoejafcdlaaGreatDoorB9
import Derived.Laws.IdiomCopy
import Derived.Lib.Overlaps
import Derived.Lib.JoinLaws
import Derived.Lib.AppendZerosOnto
import Derived.Test.YtnnbfoejafcdlaaGreatDoorB5
import Derived.Shelf.RegionOpenPlain
import Derived.Lib.Walk
import Derived.Lib.SliceRun
import Derived.Laws.NewBlocks
import Derived.Test.YtnnbfoejafcdlaaGreatDoorB14
import Derived.Test.YtnnbfoejafcdlaaGreatDoorB13
import Derived.Test.YtnnbfoejafcdlaaGreatDoorB12
import Derived.Test.YtnnbfoejafcdlaaGreatDoorB7
import Derived.Test.YtnnbfoejafcdlaaGreatDoorB8
set_option linter.unusedVariables false
open Go.IntKind (i64 u64 u32)
namespace Go.bu
open Go.Lib
variable {P:Program}
theorem iH (w:World)(dT sT ty elem:TypeId)(sz b o dLen dCap:Nat)(a:Addr)(sLen sCap:Nat)(cs:List Value)
  (hu:P.underlying dT=some (.slice elem))(hs:(P.info? elem).map (·.size)=some sz)(hn:cs.length=Nat.min sLen dLen*sz)
  (hsrc:∀j v,cs[j]?=some v->w.cell? (a.add j)=some v)(hc:∀j,j<cs.length->(w.cell? ⟨b,o+j,none⟩).isSome=true)(hf:∀j,j<cs.length->w.frozen? ⟨b,o+j,none⟩=false)(h1:∀v∈cs,v.oneCell'=true) :
  (Builtin.copy_ #[dT,sT] ty #[.slice (some ⟨b,o,none⟩) dLen dCap,.slice (some a) sLen sCap]).run P w=.ok (goInt (Nat.min sLen dLen)) (w.setCells b o cs):=by
 have hl:=run_loadCells_list (P:=P) w a cs hsrc
 have hst:=run_storeCells_cells (P:=P) b o cs 0 w (by simpa using hc) (by simpa using hf) h1
 cases hq:P.info? elem with
 | none=>simp [hq] at hs
 | some i=>
  have hi:i.size=sz:=by simpa [hq] using hs
  simp [Builtin.copy_,run_underlying hu,Builtin.lenOf,Builtin.firstCells,sizeOf,typeInfo,hq,hi,←hn,hl,hst]
theorem yI (w:World){o:Oper}{a:Act}{K:Act->World->Prop}{Q:Exit->Act->World->Prop}(d s:Operand)(t t':TypeId)
  (ho:o.op=.call { callee:=.builtin .copy,args:=#[d,s],argTypes:=#[t,t'] })(v u:Value)(hd:a.eval d=v)(hs:a.eval s=u){v':Value}{w':World}
  (hr:(Builtin.copy_ #[t,t'] o.type #[v,u]).run P w=.ok v' w')(h:K (a.put o.dst v') w'):o.wp P a w K Q:=by
 unfold Oper.wp execOp
 simp only [ho,resolve,invoke,builtin,Sem.run_bind,Sem.run_pure,Result.andThen_ok,List.map_toArray,List.map_cons,List.map_nil,hd,hs,hr]
 exact h
theorem ju (w:World){ops:Array Oper}{rest:List Oper}{o:Oper}{a:Act}{Q:Exit->Act->World->Prop}(hgd:o.guard=none)(d s:Operand)(t t':TypeId)
  (ho:o.op=.call { callee:=.builtin .copy,args:=#[d,s],argTypes:=#[t,t'] })(v u:Value)(hd:a.eval d=v)(hs:a.eval s=u){v':Value}{w':World}
  (hr:(Builtin.copy_ #[t,t'] o.type #[v,u]).run P w=.ok v' w')(h:wpList P ops Q rest (a.put o.dst v') w'):wpList P ops Q (o::rest) a w:=
 wpList_plain hgd fun _ hK=>yI w d s t t' ho v u hd hs hr (hK _ _ h)
theorem kR {ops:Array Oper}{o:Oper}{a:Act}{w:World}{K:Act->World->Prop}{Q:Exit->Act->World->Prop}{E:Prop}
  (hg:o.guard=none)(d x:Operand)(dT sT:TypeId)(hop:o.op=Op.call { callee:=Callee.builtin Builtin.copy,args:=#[d,x],argTypes:=#[dT,sT] })
  (v u:Value)(hd:a.eval d=v)(hx:a.eval x=u){v':Value}{w':World}(hr:(Builtin.copy_ #[dT,sT] o.type #[v,u]).run P w=.ok v' w')(hK:K (a.put o.dst v') w') :
  if Region.wanted o (yielded ops a.tmps)=true then Oper.wp P o a w K Q else E:=by
 have hw:Region.wanted o (yielded ops a.tmps)=true:=by simp [Region.wanted,hg]
 rw [if_pos hw]
 unfold Oper.wp
 simp [execOp,hop,resolve,invoke,builtin,hd,hx,hr,Result.andThen]
 exact hK
theorem eF {w:World}{b o:Nat}{vs:List Value}{ty:TypeId}(h:w.heap[b]?=some (.cells vs.toArray ty (0,0))):w.frozen? ⟨b,o,none⟩=false:=by simp [World.frozen?,h]
theorem wP {w:World}{b:Nat}{vs:List Value}{ty:TypeId}(h:w.heap[b]?=some (.cells vs.toArray ty (0,0))):w.shape? b=some (ty,vs.length):=by simp [World.shape?,h]
theorem bG {w:World}{b o:Nat}{vs:List Value}{ty:TypeId}(h:w.heap[b]?=some (.cells vs.toArray ty (0,0))):w.cell? ⟨b,o,none⟩=vs[o]?:=cell_of_row h
theorem sf (X:Nat->Prop)(w:World):dW X w w.drew:=⟨Nat.le_refl _,fun _ _ _=>rfl,rfl,rfl,rfl⟩
theorem oQ (X:Nat->Prop)(w:World)(o:Obj):dW X w (w.alloc o):=⟨by rw [show (w.alloc o).heap.size=w.heap.size+1 from Array.size_push ..];omega,fun b hb _=>bK w o hb,rfl,rfl,rfl⟩
theorem BQ {w:World}{g:Nat}{old cs:Array Value}{ty:TypeId}(h:w.heap[g]?=some (.cells old ty (0,0))):dW (·=g) w (w.setRow g cs):=by
 refine ⟨?_,fun b hb hn=>?_,?_,?_,?_⟩
 ·rw [dH h,Array.size_setIfInBounds];exact Nat.le_refl _
 ·rw [dH h,Array.getElem?_setIfInBounds_ne (fun e=>hn e.symm)]
 all_goals simp [World.setRow,h]
theorem cz {b:Nat}{ty:TypeId}:∀(xs:List Value)(o:Nat)(vs:List Value)(w:World),w.heap[b]?=some (.cells vs.toArray ty (0,0))->o+xs.length<=vs.length ->
  (w.setCells b o xs).heap[b]?=some (.cells (vs.take o++xs++vs.drop (o+xs.length)).toArray ty (0,0))/\dW (·=b) w (w.setCells b o xs)
 | [],o,vs,w,h,hl=>⟨by rw [World.setCells,List.append_nil,List.length_nil,Nat.add_zero,List.take_append_drop];exact h,dW.refl _ _⟩
 | x::xs,o,vs,w,h,hl=>by
  rw [List.length_cons] at hl
  have e1:w.setCell ⟨b,o,none⟩ x=w.setRow b (vs.toArray.setIfInBounds o x):=setCell_eq_setRow w b o vs.toArray ty (0,0) x h
  have e2:vs.toArray.setIfInBounds o x=(vs.set o x).toArray:=by simp
  rw [World.setCells,e1,e2]
  have h2:(w.setRow b (vs.set o x).toArray).heap[b]?=some (.cells (vs.set o x).toArray ty (0,0)):=setRow_heap w b vs.toArray _ ty (0,0) h
  obtain ⟨g1,g2⟩:=cz xs (o+1) (vs.set o x) _ h2 (by rw [List.length_set];omega)
  refine ⟨?_,(BQ h).trans g2⟩
  rw [g1]
  congr 3
  rw [List.take_set,List.take_add_one,List.getElem?_eq_getElem (by omega),List.drop_set_of_lt (by omega),List.length_cons,show o+1+xs.length=o+(xs.length+1) by omega]
  rw [List.set_append_right _ _ (by rw [List.length_take];omega),List.length_take,Nat.min_eq_left (by omega),Nat.sub_self]
  simp
end Go.bu
namespace Go.Proofs.Tryz
open Go.bu Go.RowKit Go.Lib
theorem nC:∃i z,prog.info? 211=some i/\i.zero=some z/\i.size=17/\i.bytes=128/\z.cells.size=17:=by
 have h:=j_ 211 _ rfl
 unfold jl at h
 split at h
 ·rename_i i d e1 e2
  split at h
  ·rename_i z ez
   have h:=Option.some.inj h
   injection h with h1 h2 h3 h4
   refine ⟨i,z,e1,ez,h2,h3,?_⟩
   have:=congrArg List.length h4
   rw [List.length_map,Array.length_toList] at this
   rw [this]
   rfl
  ·cases h
 ·cases h
theorem dw (b o j:Nat):(⟨b,o,none⟩:Addr).add j=⟨b,o+j,none⟩:=by
 unfold Addr.add
 split
 ·rename_i h;subst h;rfl
 ·rfl
theorem I_ (w:World){t:TypeId}{i:TypeInfo}(h:prog.info? t=some i):(Go.sizeOf t).run prog w=.ok i.size w:=by
 simp [sizeOf,typeInfo,h]
set_option maxHeartbeats 4000000 in
set_option maxRecDepth 100000 in
theorem Ei (b n c i vb:Nat)(cs vs:List Value)(w:World)(hi:i<n)(hroom:n+1<=c)(hn63:n<=1000000)(hvb:vb≠b)(hcl:c*17<=cs.length)(hvl:vs.length=17)
  (hb:w.heap[b]?=some (.cells cs.toArray 211 (0,0)))(hv:w.heap[vb]?=some (.cells vs.toArray 211 (0,0)))
  (h1c:∀v∈(cs.take (n*17)).drop (i*17),v.oneCell'=true)(h1v:∀v∈vs,v.oneCell'=true) :
  Calls prog 164 #[.slice (some ⟨b,0,none⟩) n c,.int .i64 i,.slice (some ⟨vb,0,none⟩) 1 1] w fun e w'=>
   e=.returned (.slice (some ⟨b,0,none⟩) (n+1) c)/\w'=(w.drew.setCells b ((i+1)*17) ((cs.take (n*17)).drop (i*17))).setCells b (i*17) vs:=by
 obtain ⟨ti,z,e1,e2,e3,e4,e5⟩:=nC
 have hz2:¬((i:Int)=(n:Int)):=by omega
 have hsz:(prog.info? 211).map (·.size)=some 17:=by rw [e1];simp [e3]
 have uT:=underlying119
 have uV:=underlying118
 have rz:∀w,(Go.sizeOf 211).run prog w=.ok 17 w:=fun w=>by rw [I_ w e1,e3]
 have ru:=run_underlying uT
 have rv:=run_underlying uV
 have hov:∀lb cb,(callFunc 197 #[.slice (some ⟨vb,0,none⟩) 1 1,.slice (some ⟨b,(i+1)*17,none⟩) lb cb]).run prog w=.ok (.value (.bool false)) w:=fun lb cb=>by
  rw [run_callFunc_extern func197 (by kernel_rfl) (by kernel_rfl) (by kernel_rfl) (e:=Extern.SlicesOverlaps.overlaps #[118,118] #[4]) (by kernel_rfl),
   Lib.run_overlaps_apart w 118 4 211 uV 17 rz ⟨vb,0,none⟩ ⟨b,(i+1)*17,none⟩ 1 1 lb cb hvb _ _ _ _ (wP hv) (wP hb) (by omega) (eF hv) (eF hv)]
  rfl
 obtain ⟨mid,hmid⟩:∃mid,mid=(cs.take (n*17)).drop (i*17):=⟨_,rfl⟩
 rw [←hmid] at h1c ⊢
 have hml:mid.length=(n-i)*17:=by rw [hmid,List.length_drop,List.length_take];omega
 have hcell:∀(W:World)(o:Nat),W.heap[b]?=some (.cells cs.toArray 211 (0,0))->o<cs.length->(W.cell? ⟨b,o,none⟩).isSome=true:=fun W o hW ho=>by rw [bG hW,List.getElem?_eq_getElem ho];rfl
 have hbd:(w.drew).heap[b]?=some (.cells cs.toArray 211 (0,0)):=hb
 have hmn:∀x:Nat,Nat.min (n+1-i) (n+1-(i+1))=n-i:=fun _=>by simp only [Nat.min_def];split<;>omega
 have hcp1:∀ty dc sc,(Builtin.copy_ #[119,119] ty #[.slice (some ⟨b,(i+1)*17,none⟩) (n+1-(i+1)) dc,.slice (some ⟨b,i*17,none⟩) (n+1-i) sc]).run prog w.drew=  .ok (goInt ((n-i:Nat):Int)) (w.drew.setCells b ((i+1)*17) mid):=fun ty dc sc=>by
  have:=iH (P:=prog) w.drew 119 119 ty 211 17 b ((i+1)*17) (n+1-(i+1)) dc ⟨b,i*17,none⟩ (n+1-i) sc mid uT hsz (by rw [hmn 0,hml])
   (fun j v hj=>by
    rw [dw b,bG hbd]
    rw [hmid,List.getElem?_drop,List.getElem?_take] at hj
    split at hj
    ·exact hj
    ·cases hj)
   (fun j hj=>hcell _ _ hbd (by rw [hml] at hj;omega)) (fun j hj=>eF hbd) h1c
  rw [hmn 0] at this
  exact this
 obtain ⟨g1,g2⟩:=cz mid ((i+1)*17) cs w.drew hbd (by rw [hml];omega)
 obtain ⟨W1,hW1⟩:∃W1,W1=w.drew.setCells b ((i+1)*17) mid:=⟨_,rfl⟩
 rw [←hW1] at hcp1 g1 g2 ⊢
 have Lx:Nat.min 1 (n+1-i)=1:=by simp only [Nat.min_def];split<;>omega
 have hvw:vb<w.heap.size:=(Array.getElem?_eq_some_iff.1 hv).1
 have hv1:W1.heap[vb]?=some (.cells vs.toArray 211 (0,0)):=by rw [g2.bq vb hvw hvb];exact hv
 have hcp2:∀ty dc,(Builtin.copy_ #[119,118] ty #[.slice (some ⟨b,i*17,none⟩) (n+1-i) dc,.slice (some ⟨vb,0,none⟩) 1 1]).run prog W1=.ok (goInt 1) (W1.setCells b (i*17) vs):=fun ty dc=>by
  have:=iH (P:=prog) W1 119 118 ty 211 17 b (i*17) (n+1-i) dc ⟨vb,0,none⟩ 1 1 vs uT hsz (by rw [Lx,hvl])
   (fun j v hj=>by rw [dw vb,Nat.zero_add,bG hv1];exact hj)
   (fun j hj=>by rw [bG g1,List.getElem?_eq_getElem (by rw [hvl] at hj;simp only [List.length_append,List.length_take,List.length_drop,hml];omega)];rfl) (fun j hj=>eF g1) h1v
  rw [Lx] at this
  exact this
 clear g1 g2 hmid h1c hW1
 have mixed:=mixed
 have hw1:i64.wrap ((i:Int)+1)=(i:Int)+1:=by rw [IntKind.wrap_i64];omega
 have hb1:(0:Int)<=(i:Int)+1:=by omega
 have hin:i<=n:=by omega
 have htn:((i:Int)+1).toNat=i+1:=by omega
 have hb2:¬(c=i+1):=by omega
 have hb3:(i:Int)<=(n:Int)+1:=by omega
 have hb4:¬(c=i):=by omega
 go_enter func164,ntmps164
 go_wp2_with (simp only [hov])
 go_region_law_o (refine kR rfl _ _ 119 119 rfl (.slice (some ⟨b,(i+1)*17,none⟩) (n+1-(i+1)) (c-(i+1))) (.slice (some ⟨b,i*17,none⟩) (n+1-i) (c-i)) (by simp [Act.eval,Act.put]) (by simp [Act.eval,Act.put]) (hcp1 3 _ _) ?_)
 go_wp2_with (at_builtin;refine ju _ rfl _ _ 119 118 rfl _ _ rfl rfl (hcp2 _ _) ?_)
 go_ret
 exact ⟨rfl,rfl⟩
set_option maxHeartbeats 4000000 in
set_option maxRecDepth 100000 in
theorem HS (b n c vb:Nat)(cs vs:List Value)(w:World)(hroom:n+1<=c)(hn63:n<=1000000)(hcl:c*17<=cs.length)(hvl:vs.length=17)
  (hb:w.heap[b]?=some (.cells cs.toArray 211 (0,0)))(hv:w.heap[vb]?=some (.cells vs.toArray 211 (0,0)))(h1v:∀v∈vs,v.oneCell'=true) :
  Calls prog 164 #[.slice (some ⟨b,0,none⟩) n c,.int .i64 n,.slice (some ⟨vb,0,none⟩) 1 1] w fun e w'=>
   e=.returned (.slice (some ⟨b,0,none⟩) (n+1) c)/\w'=w.setCells b (0+n*17) vs:=by
 obtain ⟨ti,z,e1,e2,e3,e4,e5⟩:=nC
 have uT:=underlying119
 have uV:=underlying118
 have ru:=run_underlying uT
 have rv:=run_underlying uV
 have mixed:=mixed
 have hsrc:Src prog ti.size 118 (.slice (some ⟨vb,0,none⟩) 1 1) 1 vs w:=Src.ofSlice w uV ⟨vb,0,none⟩ 1 1 vs (by rw [e3,hvl]) (fun j u hj=>by rw [dw vb,Nat.zero_add,bG hv];exact hj) h1v
 have hc:∀j,j<vs.length->(w.cell? ⟨b,0+n*ti.size+j,none⟩).isSome=true:=fun j hj=>by rw [bG hb,e3,List.getElem?_eq_getElem (by rw [hvl] at hj;omega)];rfl
 have hf:∀j,j<vs.length->w.frozen? ⟨b,0+n*ti.size+j,none⟩=false:=fun j hj=>eF hb
 go_enter func164,ntmps164
 go_wp2_with (at_builtin;refine wpList_append_room_src _ rfl _ _ 119 118 rfl 211 ti uT e1 b 0 n c rfl _ rfl 1 vs hsrc hroom hc hf ?_)
 go_ret
 exact ⟨rfl,by rw [Nat.zero_add]⟩
set_option maxHeartbeats 4000000 in
set_option maxRecDepth 100000 in
theorem xJ (b n c vb:Nat)(cs vs:List Value)(w:World)(hnc:n<=c)(hroom:c<n+1)(hn63:n<=1000000)(hcl:c*17<=cs.length)(hvl:vs.length=17)
  (hb:w.heap[b]?=some (.cells cs.toArray 211 (0,0)))(hv:w.heap[vb]?=some (.cells vs.toArray 211 (0,0)))(h1v:∀v∈vs,v.oneCell'=true) :
  ∃z:Array Value,z.size=17/\Calls prog 164 #[.slice (some ⟨b,0,none⟩) n c,.int .i64 n,.slice (some ⟨vb,0,none⟩) 1 1] w fun e w'=>
   e=.returned (.slice (some ⟨w.heap.size,0,none⟩) (n+1) (grownCap w (n+1) c 211)) /\
   w'=w.drew.alloc (.cells ((cs.take (n*17)++vs).toArray++Builtin.zeroCells z (grownCap w (n+1) c 211-(n+1))) 211):=by
 obtain ⟨ti,z,e1,e2,e3,e4,e5⟩:=nC
 refine ⟨z.cells,e5,?_⟩
 have uT:=underlying119
 have uV:=underlying118
 have ru:=run_underlying uT
 have rv:=run_underlying uV
 have mixed:=mixed
 have hsrc:Src prog ti.size 118 (.slice (some ⟨vb,0,none⟩) 1 1) 1 vs w:=Src.ofSlice w uV ⟨vb,0,none⟩ 1 1 vs (by rw [e3,hvl]) (fun j u hj=>by rw [dw vb,Nat.zero_add,bG hv];exact hj) h1v
 have hbd:(w.drew).heap[b]?=some (.cells cs.toArray 211 (0,0)):=hb
 have hold:(Builtin.firstCells ti.size n (.slice (some ⟨b,0,none⟩) n c)).run prog w.drew=.ok (cs.take (n*17)).toArray w.drew:=by
  rw [e3]
  exact run_firstCells_some w.drew 17 n ⟨b,0,none⟩ n c (cs.take (n*17)) (by rw [List.length_take];omega) (fun j v hj=>by
   rw [dw b,Nat.zero_add,bG hbd]
   rw [List.getElem?_take] at hj
   split at hj
   ·exact hj
   ·cases hj)
 have hrun:∀ty,(Builtin.append_ #[119,118] ty #[.slice (some ⟨b,0,none⟩) n c,.slice (some ⟨vb,0,none⟩) 1 1]).run prog w=_:=fun ty=>
  run_append_grow_src w 119 118 ty 211 ti z uT e1 e2 (some ⟨b,0,none⟩) n c (cs.take (n*17)) hold _ 1 vs hsrc hroom (by omega) (by rw [e4];exact growslice_fits hroom (by omega))
 obtain ⟨zc,hzc⟩:∃zc,zc=z.cells:=⟨_,rfl⟩
 rw [←hzc] at hrun ⊢
 obtain ⟨ROW,hROW⟩:∃ROW:Array Value,ROW=(cs.take (n*17)++vs).toArray++Builtin.zeroCells zc (grownCap w (n+1) c 211-(n+1)):=⟨_,rfl⟩
 rw [←hROW] at hrun ⊢
 clear hzc e5 hold hROW
 go_enter func164,ntmps164
 go_wp2_with (at_builtin;refine Lib.wpList_append_run _ rfl _ _ _ _ rfl _ _ rfl rfl _ _ (hrun _) ?_)
 all_goals (go_ret;exact ⟨rfl,rfl⟩)
set_option maxHeartbeats 4000000 in
set_option maxRecDepth 100000 in
theorem FN (b n c i vb:Nat)(cs vs:List Value)(w:World)(hi:i<n)(hnc:n<=c)(hroom:c<n+1)(hn63:n<=1000000)(hvb:vb≠b)(hcl:c*17<=cs.length)(hvl:vs.length=17)
  (hb:w.heap[b]?=some (.cells cs.toArray 211 (0,0)))(hv:w.heap[vb]?=some (.cells vs.toArray 211 (0,0)))
  (h1c:∀v∈(cs.take (n*17)).drop (i*17),v.oneCell'=true)(h1v:∀v∈vs,v.oneCell'=true) :
  ∃z:Array Value,z.size=17/\Calls prog 164 #[.slice (some ⟨b,0,none⟩) n c,.int .i64 i,.slice (some ⟨vb,0,none⟩) 1 1] w fun e w'=>
   e=.returned (.slice (some ⟨w.heap.size,0,none⟩) (n+1) (grownCap w (n+1) c 211)) /\
   w'=(((w.alloc (.cells ((cs.take (i*17)).toArray++Builtin.zeroCells z (n+1-i)++Builtin.zeroCells z (grownCap w (n+1) c 211-(n+1))) 211)).drew.setCells w.heap.size (i*17) vs).drew).setCells w.heap.size ((i+1)*17) ((cs.take (n*17)).drop (i*17)):=by
 obtain ⟨ti,z,e1,e2,e3,e4,e5⟩:=nC
 refine ⟨z.cells,e5,?_⟩
 have uT:=underlying119
 have uV:=underlying118
 have uI:=underlying3
 have ru:=run_underlying uT
 have rv:=run_underlying uV
 have rz:∀w,(Go.sizeOf 211).run prog w=.ok 17 w:=fun w=>by rw [I_ w e1,e3]
 have mixed:=mixed
 have hz2:¬((i:Int)=(n:Int)):=by omega
 have hz3:(c:Int)<(n:Int)+1:=by omega
 have hsz:(prog.info? 211).map (·.size)=some 17:=by rw [e1];simp [e3]
 have hbw:b<w.heap.size:=(Array.getElem?_eq_some_iff.1 hb).1
 have hvw:vb<w.heap.size:=(Array.getElem?_eq_some_iff.1 hv).1
 have hkk:(n:Int)+1-(i:Int)=((n+1-i:Nat):Int):=by omega
 have hik:i+(n+1-i)=n+1:=by omega
 have hbd:(w.drew).heap[b]?=some (.cells cs.toArray 211 (0,0)):=hb
 have hold:(Builtin.firstCells ti.size i (.slice (some ⟨b,0,none⟩) i c)).run prog w.drew=.ok (cs.take (i*17)).toArray w.drew:=by
  rw [e3]
  exact run_firstCells_some w.drew 17 i ⟨b,0,none⟩ i c (cs.take (i*17)) (by rw [List.length_take];omega) (fun j v hj=>by
   rw [dw b,Nat.zero_add,bG hbd]
   rw [List.getElem?_take] at hj
   split at hj
   ·exact hj
   ·cases hj)
 obtain ⟨zc,hzc⟩:∃zc,zc=z.cells:=⟨_,rfl⟩
 rw [←hzc] at e5 ⊢
 have hrz:∀ty,(Builtin.append_ #[119,3] ty #[.slice (some ⟨b,0,none⟩) i c,.int .i64 ((n:Int)+1-(i:Int))]).run prog w =
   .ok (.slice (some ⟨w.heap.size,0,none⟩) (n+1) (grownCap w (n+1) c 211)) (w.drew.alloc (.cells ((cs.take (i*17)).toArray++Builtin.zeroCells zc (n+1-i)++Builtin.zeroCells zc (grownCap w (n+1) c 211-(n+1))) 211)):=fun ty=>by
  have h:=Lib.run_append_grow_zeros w 119 3 ty 211 ti z .i64 .i64 uT uI e1 e2 (some ⟨b,0,none⟩) i c (cs.take (i*17)) hold (n+1-i) (by omega) (by omega) (by omega) (by omega) (by rw [e4];omega) (by rw [e4,hik];exact growslice_fits hroom (by omega))
  rw [hik,←hzc] at h
  rw [hkk]
  exact h
 obtain ⟨G,hG⟩:∃G,G=grownCap w (n+1) c 211:=⟨_,rfl⟩
 obtain ⟨ROW,hROW⟩:∃ROW:List Value,ROW.toArray=(cs.take (i*17)).toArray++Builtin.zeroCells zc (n+1-i)++Builtin.zeroCells zc (G-(n+1)):=⟨((cs.take (i*17)).toArray++Builtin.zeroCells zc (n+1-i)++Builtin.zeroCells zc (G-(n+1))).toList,by simp⟩
 rw [←hG] at hrz ⊢
 rw [←hROW] at hrz ⊢
 have hRl:(n+1)*17<=ROW.length:=by
  have:=congrArg Array.size hROW
  simp [Builtin.zeroCells,e5] at this
  omega
 obtain ⟨mid,hmid⟩:∃mid,mid=(cs.take (n*17)).drop (i*17):=⟨_,rfl⟩
 rw [←hmid] at h1c ⊢
 have hml:mid.length=(n-i)*17:=by rw [hmid,List.length_drop,List.length_take];omega
 obtain ⟨W1,hW1⟩:∃W1,W1=w.drew.alloc (.cells ROW.toArray 211):=⟨_,rfl⟩
 rw [←hW1] at hrz
 have hN:W1.heap[w.heap.size]?=some (.cells ROW.toArray 211 (0,0)):=by rw [hW1];exact Array.getElem?_push_size
 have hB:W1.heap[b]?=some (.cells cs.toArray 211 (0,0)):=by rw [hW1];exact (bK w.drew _ hbw).trans hb
 have hV:W1.heap[vb]?=some (.cells vs.toArray 211 (0,0)):=by rw [hW1];exact (bK w.drew _ hvw).trans hv
 have JK:Nat.min 1 (n+1-i)=1:=by simp only [Nat.min_def];split<;>omega
 have hcpA:∀(W:World),W.heap=W1.heap->∀ty dc,(Builtin.copy_ #[119,118] ty #[.slice (some ⟨w.heap.size,i*17,none⟩) (n+1-i) dc,.slice (some ⟨vb,0,none⟩) 1 1]).run prog W=.ok (goInt 1) (W.setCells w.heap.size (i*17) vs):=fun W hW ty dc=>by
  have:=iH (P:=prog) W 119 118 ty 211 17 w.heap.size (i*17) (n+1-i) dc ⟨vb,0,none⟩ 1 1 vs uT hsz (by rw [JK,hvl])
   (fun j v hj=>by rw [dw vb,Nat.zero_add,bG (by rw [hW];exact hV)];exact hj)
   (fun j hj=>by rw [bG (by rw [hW];exact hN),List.getElem?_eq_getElem (by omega)];rfl) (fun j hj=>eF (by rw [hW];exact hN)) h1v
  rw [JK] at this
  exact this
 have hbN:b≠w.heap.size:=by omega
 have JL:Nat.min (n-i) (n+1-(i+1))=n-i:=by simp only [Nat.min_def];split<;>omega
 have hcpB:∀(W:World),W.heap=W1.heap->∀ty dc sc,(Builtin.copy_ #[119,119] ty #[.slice (some ⟨w.heap.size,(i+1)*17,none⟩) (n+1-(i+1)) dc,.slice (some ⟨b,i*17,none⟩) (n-i) sc]).run prog (W.setCells w.heap.size (i*17) vs).drew=.ok (goInt ((n-i:Nat):Int)) ((W.setCells w.heap.size (i*17) vs).drew.setCells w.heap.size ((i+1)*17) mid):=fun W hW ty dc sc=>by
  obtain ⟨g1,g2⟩:=cz vs (i*17) ROW W (by rw [hW];exact hN) (by omega)
  have hb2:(W.setCells w.heap.size (i*17) vs).drew.heap[b]?=some (.cells cs.toArray 211 (0,0)):=by
   have:=g2.bq b (by rw [hW];exact (Array.getElem?_eq_some_iff.1 hB).1) hbN
   rw [hW,hB] at this
   exact this
  have hn2:(W.setCells w.heap.size (i*17) vs).drew.heap[w.heap.size]?=_:=g1
  have:=iH (P:=prog) (W.setCells w.heap.size (i*17) vs).drew 119 119 ty 211 17 w.heap.size ((i+1)*17) (n+1-(i+1)) dc ⟨b,i*17,none⟩ (n-i) sc mid uT hsz (by rw [JL,hml])
   (fun j v hj=>by
    rw [dw b,bG hb2]
    rw [hmid,List.getElem?_drop,List.getElem?_take] at hj
    split at hj
    ·exact hj
    ·cases hj)
   (fun j hj=>by rw [bG hn2,List.getElem?_eq_getElem (by rw [hml] at hj;simp only [List.length_append,List.length_take,List.length_drop,hvl];omega)];rfl) (fun j hj=>eF hn2) h1c
  rw [JL] at this
  exact this
 have hGn:n+1<=G:=by rw [hG];exact grownCap_ge w _ _ _
 have hG63:G<=9223372036854775807:=by
  have:=grownCap_le_maxLen w (n+1) c 211 (by unfold maxLen;omega)
  rw [←hG] at this
  unfold maxLen at this
  omega
 have hGi:¬(G=i):=by omega
 have hGim:¬(G=i+1):=by omega
 have hci:¬(c=i):=by omega
 have hA:=hcpA ((w.alloc (.cells ROW.toArray 211)).drew) (by rw [hW1];rfl)
 have hA':=hcpA W1 rfl
 have hB':=hcpB ((w.alloc (.cells ROW.toArray 211)).drew) (by rw [hW1];rfl)
 subst hW1
 have hw1:i64.wrap ((i:Int)+1)=(i:Int)+1:=by rw [IntKind.wrap_i64];omega
 have hw2:i64.wrap ((n:Int)+1)=(n:Int)+1:=by rw [IntKind.wrap_i64];omega
 have hb1:(0:Int)<=(i:Int)+1:=by omega
 have hin:i<=n:=by omega
 have htn:((i:Int)+1).toNat=i+1:=by omega
 have hb3:(i:Int)<=(n:Int):=by omega
 clear hkk hik hold hROW hG hRl hcpA hcpB hN hB hV hzc e5 hmid h1c JK JL hml
 go_enter func164,ntmps164
 go_wp2_with (first
  | (at_builtin;refine Lib.wpList_append_run _ rfl _ _ _ _ rfl _ _ rfl rfl _ _ (hrz _) ?_)
  | (at_builtin;refine ju _ rfl _ _ 119 118 rfl _ _ rfl rfl (hA _ _) ?_))
 go_region_law_o (refine kR rfl _ _ 119 119 rfl (.slice (some ⟨w.heap.size,(i+1)*17,none⟩) (n+1-(i+1)) (G-(i+1))) (.slice (some ⟨b,i*17,none⟩) (n-i) (c-i)) (by simp [Act.eval,Act.put]) (by simp [Act.eval,Act.put]) (hB' 3 (G-(i+1)) (c-i)) ?_)
 go_wp2
 go_ret
 exact ⟨rfl,rfl⟩
end Go.Proofs.Tryz
namespace Go.Proofs.Tryz
open Go.bu
theorem Kv {α:Type}{A B:List α}{k:Nat}(h:k<=A.length):(A.take k++B).drop k=B:=by
 rw [List.drop_append_of_le_length (by rw [List.length_take];omega),List.drop_eq_nil_of_le (by rw [List.length_take];omega),List.nil_append]
theorem MR {α:Type}{A B:List α}{j k:Nat}(hj:j<=k)(h:k<=A.length):(A.take k++B).take j=A.take j:=by
 rw [List.take_append_of_le_length (by rw [List.length_take];omega),List.take_take,Nat.min_eq_left hj]
theorem Fl {V:View}{ob vb n c i:Nat}{vs xs:List Value}(hs:V.w.heap[ob]?=some (.cells vs.toArray 211 (0,0)))(hx:V.X ob)(hv:V.w.heap[vb]?=some (.cells xs.toArray 211 (0,0)))
  (hne:ob≠vb)(hi:i<=n)(hnc:n<=c)(hc:n<=1000000)(hcl:c*17<=vs.length)(hl:xs.length=17)(h1c:∀v∈(vs.take (n*17)).drop (i*17),v.oneCell'=true)(h1v:∀v∈xs,v.oneCell'=true) :
  ab prog 164 #[.slice (some ⟨ob,0,none⟩) n c,.int .i64 i,.slice (some ⟨vb,0,none⟩) 1 1] V fun r V'=>∃(q c':Nat)(sp:List Value),r=.slice (some ⟨q,0,none⟩) (n+1) c' /\
   V'.w.heap[q]?=some (.cells (vs.take (i*17)++(xs++(vs.take (n*17)).drop (i*17))++sp).toArray 211 (0,0))/\(V.w.heap.size<=q\/q=ob)/\n+1<=c'/\c'*17<=(n+1)*17+sp.length /\
   V'.w.heap[vb]?=some (.cells xs.toArray 211 (0,0)):=by
 refine ⟨⟨f164,func164,rfl,by kernel_rfl⟩,?_⟩
 have hbw:ob<V.w.heap.size:=(Array.getElem?_eq_some_iff.1 hs).1
 have hvw:vb<V.w.heap.size:=(Array.getElem?_eq_some_iff.1 hv).1
 have hml:((vs.take (n*17)).drop (i*17)).length=(n-i)*17:=by rw [List.length_drop,List.length_take];omega
 by_cases hr:n+1<=c
 ·by_cases hin:i<n
  ·refine (Ei ob n c i vb vs xs V.w hin hr hc (fun e=>hne e.symm) hcl hl hs hv h1c h1v).mono ?_
   rintro e w' ⟨e1,rfl⟩
   obtain ⟨g1,g2⟩:=cz ((vs.take (n*17)).drop (i*17)) ((i+1)*17) vs V.w.drew hs (by rw [hml];omega)
   have tl:(vs.take ((i+1)*17)).length=(i+1)*17:=by rw [List.length_take];omega
   obtain ⟨g3,g4⟩:=cz xs (i*17) _ _ g1 (by simp only [List.length_append,tl,hml];omega)
   have ex:=((sf (·=ob) V.w).trans g2).trans g4
   refine ⟨_,e1,ex.mono fun b e=>e▸hx,ob,c,vs.drop ((i+1)*17+((vs.take (n*17)).drop (i*17)).length),rfl,?_,.inr rfl,hr,?_,?_⟩
   ·refine g3.trans ?_
    congr 3
    rw [List.append_assoc,hl,List.append_assoc (vs.take ((i+1)*17)),MR (by omega) (by omega),show i*17+17=(i+1)*17 by omega,Kv (by omega)]
    simp only [List.append_assoc]
   ·rw [List.length_drop,hml];omega
   ·exact (ex.bq vb hvw fun e=>hne e.symm).trans hv
  ·obtain rfl:i=n:=by omega
   refine (HS ob i c vb vs xs V.w hr hc hcl hl hs hv h1v).mono ?_
   rintro e w' ⟨e1,rfl⟩
   obtain ⟨g3,g4⟩:=cz xs (0+i*17) vs V.w hs (by omega)
   refine ⟨_,e1,g4.mono fun b e=>e▸hx,ob,c,vs.drop (0+i*17+xs.length),rfl,?_,.inr rfl,hr,?_,?_⟩
   ·refine g3.trans ?_
    congr 3
    rw [show (vs.take (i*17)).drop (i*17)=[] from List.drop_eq_nil_of_le (by rw [List.length_take];omega),Nat.zero_add,List.append_nil]
   ·rw [List.length_drop];omega
   ·exact (g4.bq vb hvw fun e=>hne e.symm).trans hv
 ·by_cases hin:i<n
  ·obtain ⟨z,hz,cL⟩:=FN ob n c i vb vs xs V.w hin hnc (by omega) hc (fun e=>hne e.symm) hcl hl hs hv h1c h1v
   refine cL.mono ?_
   rintro e w' ⟨e1,rfl⟩
   have hG:=Go.grownCap_ge V.w (n+1) c 211
   generalize Go.grownCap V.w (n+1) c 211=G at *
   obtain ⟨ROW,hROW⟩:∃ROW:List Value,ROW.toArray=(vs.take (i*17)).toArray++Builtin.zeroCells z (n+1-i)++Builtin.zeroCells z (G-(n+1)):=⟨((vs.take (i*17)).toArray++Builtin.zeroCells z (n+1-i)++Builtin.zeroCells z (G-(n+1))).toList,by simp⟩
   have Q8:ROW=vs.take (i*17)++((Builtin.zeroCells z (n+1-i)).toList++(Builtin.zeroCells z (G-(n+1))).toList):=by
    have:=congrArg Array.toList hROW
    simpa using this
   have hzl:∀k,(Builtin.zeroCells z k).toList.length=k*17:=fun k=>by simp [Builtin.zeroCells,hz]
   have NL:(vs.take (i*17)).length=i*17:=by rw [List.length_take];omega
   have hRl:ROW.length=i*17+(n+1-i)*17+(G-(n+1))*17:=by rw [Q8];simp only [List.length_append,hzl,NL];omega
   rw [←hROW]
   have hN:(V.w.alloc (.cells ROW.toArray 211)).drew.heap[V.w.heap.size]?=some (.cells ROW.toArray 211 (0,0)):=Array.getElem?_push_size
   have x1:dW (·=ob) V.w (V.w.alloc (.cells ROW.toArray 211)).drew:=(oQ _ _ _).trans (sf _ _)
   obtain ⟨g1,g2⟩:=cz xs (i*17) ROW _ hN (by omega)
   obtain ⟨g3,g4⟩:=cz ((vs.take (n*17)).drop (i*17)) ((i+1)*17) _ (World.drew _) g1 (by simp only [List.length_append,List.length_take,List.length_drop,hml];omega)
   have P2:V.w.heap.size<=_:=x1.size
   have QQ:∀{X:Nat->Prop},dW X V.w _:=fun {X}=>by
    refine ⟨Nat.le_trans P2 (Nat.le_trans g2.size g4.size),fun b hb _=>?_,?_,?_,?_⟩
    ·exact (g4.bq b (Nat.lt_of_lt_of_le hb (Nat.le_trans P2 g2.size)) (by omega)).trans ((g2.bq b (Nat.lt_of_lt_of_le hb P2) (by omega)).trans ((oQ (fun _=>False) V.w (.cells ROW.toArray 211)).bq b hb id))
    ·exact g4.os.trans (g2.os.trans x1.os)
    ·exact g4.tape.trans (g2.tape.trans x1.tape)
    ·exact g4.out.trans (g2.out.trans x1.out)
   refine ⟨_,e1,QQ,V.w.heap.size,G,(ROW.drop ((n+1)*17)),rfl,?_,.inl (Nat.le_refl _),hG,?_,?_⟩
   ·refine g3.trans ?_
    have e2:ROW.take (i*17)=vs.take (i*17):=by rw [Q8,List.take_append_of_le_length (by rw [NL];exact Nat.le_refl _),List.take_of_length_le (by rw [NL];exact Nat.le_refl _)]
    have l1:(ROW.take (i*17)++xs).length=(i+1)*17:=by rw [List.length_append,e2,NL,hl];omega
    have e3:(ROW.take (i*17)++xs++ROW.drop (i*17+xs.length)).take ((i+1)*17)=ROW.take (i*17)++xs:=by rw [←l1,List.take_left'];rfl
    have e4:(ROW.take (i*17)++xs++ROW.drop (i*17+xs.length)).drop ((i+1)*17+((vs.take (n*17)).drop (i*17)).length)=ROW.drop ((n+1)*17):=by
     rw [List.drop_append,List.drop_eq_nil_of_le (by rw [l1];omega),List.nil_append,List.drop_drop,l1,hml,hl]
     congr 1;omega
    rw [e3,e4,e2]
    simp only [List.append_assoc]
   ·rw [List.length_drop,hRl];omega
   ·exact (@QQ fun _=>False).bq vb hvw id |>.trans hv
  ·obtain rfl:i=n:=by omega
   obtain ⟨z,hz,cL⟩:=xJ ob i c vb vs xs V.w hnc (by omega) hc hcl hl hs hv h1v
   refine cL.mono ?_
   rintro e w' ⟨e1,rfl⟩
   have hG:=Go.grownCap_ge V.w (i+1) c 211
   generalize Go.grownCap V.w (i+1) c 211=G at *
   have hzl:∀k,(Builtin.zeroCells z k).toList.length=k*17:=fun k=>by simp [Builtin.zeroCells,hz]
   have ex:∀{X:Nat->Prop} {o:Obj},dW X V.w (V.w.drew.alloc o):=(sf _ _).trans (oQ _ _ _)
   refine ⟨_,e1,ex,V.w.heap.size,G,(Builtin.zeroCells z (G-(i+1))).toList,rfl,?_,.inl (Nat.le_refl _),hG,?_,?_⟩
   ·refine (Array.getElem?_push_size (xs:=V.w.heap)).trans ?_
    congr 2
    rw [show (vs.take (i*17)).drop (i*17)=[] from List.drop_eq_nil_of_le (by rw [List.length_take];omega),List.append_nil]
    apply Array.ext'
    simp
   ·rw [hzl];omega
   ·exact ((ex (X:=fun _=>False)).bq vb hvw id).trans hv
end Go.Proofs.Tryz
namespace Go.Proofs.Tryz
open Go.bu Go.eQ
theorem vR {V:View}{v:Value}{p:Rat×Rat}(h:mT V v p.1 p.2){k:Nat}(s1:Sz k p.1)(s2:Sz k p.2)(hk:k<=1099511627776) :
  ab prog 196 #[v] V fun r V'=>r=.int .i64 (ay.half p):=by
 obtain ⟨x1,x2,q,y1,y2,q',rfl,hx,hy⟩:=h
 refine tQ x1 x2 q y1 y2 q' V _ fun V1 l1=>(dY (hy.le l1) s2 hk).mono ?_
 rintro r V2 l2 rfl
 have cU:=l1.trans l2
 refine ⟨_,rfl,fun h1 V3 l3=>?_,fun h1=>⟨fun h2 V4 l4=>(dY (hx.le (cU.trans l4)) s1 hk).mono ?_,fun h2=>⟨fun h3 oo TS=>?_,fun h3 rk dq=>(dY (hx.le (cU.trans dq)) s1 hk).mono ?_⟩⟩⟩
 ·have h1:p.2.num.sign>0:=of_decide_eq_true h1
  unfold ay.half;rw [if_pos (.inl h1)]
 ·have h1:¬p.2.num.sign>0:=of_decide_eq_false h1
  have h2:p.2.num.sign=0:=by simpa using h2
  rintro r V5 l5 rfl
  refine ⟨_,rfl,fun h3 V6 l6=>?_,fun h3=>⟨fun h4 V7 l7=>?_,fun h4 V8 l8=>(dY (hx.le (cU.trans (l4.trans (l5.trans l8)))) s1 hk).mono ?_⟩⟩
  ·have h3:p.1.num.sign>0:=of_decide_eq_true h3
   unfold ay.half;rw [if_pos (.inr ⟨h2,h3⟩)]
  ·have h4:p.2.num.sign<0:=of_decide_eq_true h4
   omega
  ·have h3:¬p.1.num.sign>0:=of_decide_eq_false h3
   have hn:¬(p.2.num.sign>0\/p.2.num.sign=0/\p.1.num.sign>0):=by omega
   rintro r V9 l9 rfl
   refine ⟨_,rfl,fun h5 kn l10=>?_,fun h5 ko bR=>?_⟩
   ·have h5:p.1.num.sign<0:=of_decide_eq_true h5
    unfold ay.half;rw [if_neg hn,if_pos (.inr h5)]
   ·have h5:¬p.1.num.sign<0:=of_decide_eq_false h5
    unfold ay.half;rw [if_neg hn,if_neg (by omega)]
 ·have h1:¬p.2.num.sign>0:=of_decide_eq_false h1
  have h2:¬p.2.num.sign=0:=by simpa using h2
  have h3:p.2.num.sign<0:=of_decide_eq_true h3
  unfold ay.half;rw [if_neg (by omega),if_pos (.inl h3)]
 ·have h1:¬p.2.num.sign>0:=of_decide_eq_false h1
  have h2:¬p.2.num.sign=0:=by simpa using h2
  have h3:¬p.2.num.sign<0:=of_decide_eq_false h3
  omega
theorem Ir (q:Rat):-1<=q.num.sign/\q.num.sign<=1:=by
 rcases Int.lt_trichotomy q.num 0 with h|h|h
 ·rw [Int.sign_eq_neg_one_of_neg h];omega
 ·rw [h];decide
 ·rw [Int.sign_eq_one_of_pos h];omega
theorem zj {V:View}{v w:Value}{a b:Rat×Rat}(h:mT V v a.1 a.2)(h':mT V w b.1 b.2){k:Nat}(s1:Sz k a.1)(s2:Sz k a.2)(s3:Sz k b.1)(s4:Sz k b.2)(hk:4*k+3<274877906944) :
  ab prog 163 #[v,w] V fun r V'=>r=.int .i64 (ay.iL a b):=by
 have h0:=h
 have h0':=h'
 obtain ⟨x1,x2,q,y1,y2,q',rfl,-⟩:=h
 obtain ⟨u1,u2,t,w1,w2,t',rfl,-⟩:=h'
 refine yo x1 x2 q y1 y2 q' u1 u2 t w1 w2 t' V _ fun V1 l1=>(vR (h0.le l1) s1 s2 (by omega)).mono ?_
 rintro r V2 l2 rfl
 refine ⟨_,rfl,fun V3 l3=>(vR (h0'.le (l1.trans (l2.trans l3))) s3 s4 (by omega)).mono ?_⟩
 rintro r V4 l4 rfl
 have fh:=l1.trans (l2.trans (l3.trans l4))
 refine ⟨_,rfl,fun g V5 l5=>?_,fun g=>⟨fun g' V6 l6=>?_,fun g' V7 l7=>(eY (h0.le (fh.trans l7)) (h0'.le (fh.trans l7)) s1 s2 s3 s4 hk).mono ?_⟩⟩
 ·unfold ay.iL;rw [if_pos (of_decide_eq_true g)]
 ·unfold ay.iL;rw [if_neg (of_decide_eq_false g),if_pos (of_decide_eq_true g')]
 ·rintro r V8 l8 gc
  have S5:=gc
  obtain ⟨c0,c1,c2,rfl⟩:=gc.shape
  refine ⟨_,_,_,rfl,fun V9 l9=>(dY (S5.le l9) (jw s1 s2 s3 s4) (by omega)).mono ?_⟩
  rintro r kn l10 rfl
  refine ⟨_,rfl,fun ko bR=>?_⟩
  have bd:=Ir (a.1*b.2-a.2*b.1)
  rw [aw (by omega)]
  unfold ay.iL;rw [if_neg (of_decide_eq_false g),if_neg (of_decide_eq_false g')]
  show _=Value.int .i64 (-(a.1*b.2-a.2*b.1).num.sign)
  congr 1;omega
def KP (V:View)(v:Value)(c:Rat×Rat):Prop:=mT V v c.1 c.2/\Sz 100000 c.1/\Sz 100000 c.2
theorem KP.le {V V':View}{v:Value}{c:Rat×Rat}(h:KP V v c)(l:V.Le V'):KP V' v c:=⟨h.1.le l,h.2⟩
theorem KP.shape {V:View}{v:Value}{c:Rat×Rat}(h:KP V v c):∃(x y:Int)(p:OA)(xb yb:Int)(pb:OA),v=.agg #[.int .i64 x,.int .i64 y,.pointer p,.int .i64 xb,.int .i64 yb,.pointer pb]:=by
 obtain ⟨⟨x1,x2,p,y1,y2,q,e,-⟩,-⟩:=h;exact ⟨_,_,_,_,_,_,e⟩
theorem Dg {V:View}{v:Value}{l:L3}(h:rf V v l)(hb:Bd l):ab prog 135 #[v] V fun r V'=>mT V' r (ay.aG l).1 (ay.aG l).2:=jB h hb.pY.1 hb.pY.2.1 hb.pY.2.2 (by omega)
theorem kS {l:L3}(hb:Bd l):Sz 1000 (ay.aG l).1/\Sz 1000 (ay.aG l).2:=⟨hb.pY.2.1,hb.pY.1.neg⟩
theorem C3 {V:View}{v lv:Value}{s:Sd}{l:L3}(h:fE V v s)(hl:rf V lv l)(hb:Bd l):ab prog 162 #[v,lv] V fun r V'=>r=.int .i64 (ay.iL (ay.aG s.1) (ay.aG l)):=by
 have hl0:=hl
 obtain ⟨_,_,_,_,_,_,_,_,_,_,_,_,_,_,_,rfl⟩:=h.shape
 obtain ⟨rl,ri,-,-⟩:=h.both
 have sd:=h.2.1
 obtain ⟨_,_,_,_,_,_,_,_,_,rfl,-,-,-⟩:=hl
 refine mJ _ _ _ _ _ _ _ _ _ _ _ _ _ _ _ _ _ _ _ _ _ _ _ _ _ _ V _ fun V1 l1=>(Dg (rl.le l1) sd).mono ?_
 rintro r V2 l2 g
 have g0:=g
 obtain ⟨_,_,_,_,_,_,rfl,-,-⟩:=g
 refine ⟨_,_,_,_,_,_,rfl,fun V3 l3=>(Dg (hl0.le (l1.trans (l2.trans l3))) hb).mono ?_⟩
 rintro r V4 l4 g'
 have g0':=g'
 obtain ⟨_,_,_,_,_,_,rfl,-,-⟩:=g'
 refine ⟨_,_,_,_,_,_,rfl,fun V5 l5=>(zj (g0.le (l3.trans (l4.trans l5))) (g0'.le l5) (kS sd).1 (kS sd).2 (kS hb).1 (kS hb).2 (by omega)).mono ?_⟩
 rintro r V6 l6 rfl
 exact ⟨_,rfl,fun V7 l7=>rfl⟩
theorem Ef {i j:Nat}(hi:i<=1000000)(hj:j<=1000000):i64.wrap ((u64.wrap (i64.wrap ((i:Int)+(j:Int)))).fdiv (2^1))=(((i+j) / 2:Nat):Int):=by
 have e1:i64.wrap ((i:Int)+(j:Int))=(i:Int)+(j:Int):=aw (by omega)
 have e2:u64.wrap ((i:Int)+(j:Int))=(i:Int)+(j:Int):=aL (by omega)
 have:((i:Int)+(j:Int)).fdiv (2^1)=(((i+j) / 2:Nat):Int):=by
  rw [Int.fdiv_eq_ediv_of_nonneg _ (by decide)]
  omega
 rw [e1,e2,this,aw (by omega)]
theorem DS {V:View}{lb n c:Nat}{vs:List Value}{r:List Sd}{lv:Value}{l:L3}(hw:V.w.heap[lb]?=some (.cells vs.toArray 211 (0,0)))(hx:V.X lb)(hr:Row 17 fE V vs r)(hn:n=r.length)(hs:n<=1000000)(hl:rf V lv l)(hb:Bd l)
  (qh:r.Pairwise fun s u=>ay.iL (ay.aG s.1) (ay.aG u.1)<0) :
  ab prog 161 #[.slice (some ⟨lb,0,none⟩) n c,lv,.func (.func 162) #[] #[]] V fun q V'=>∃(i:Nat)(b:Bool),q=.tuple #[.int .i64 i,.bool b]/\i<=n/\(∀v:Sp,kG (l,v) r=r.take i++(l,v)::r.drop i) /\
   V'.w.heap[lb]?=some (.cells vs.toArray 211 (0,0)):=by
 have hl0:=hl
 subst hn
 obtain ⟨_,_,_,_,_,_,_,_,_,rfl,-,-,-⟩:=hl
 refine hZ lb _ c vs _ _ _ _ _ _ _ _ _ V _ hw hx ⟨fun z V'=>∃i j:Nat,z.1=(i:Int)/\z.2=(j:Int)/\Bs r l i j,fun z=>z.2.toNat-z.1.toNat,⟨(0,(r.length:Int)),by and_intros<;>rfl,0,r.length,rfl,rfl,Bs.start r l⟩,?_⟩
 rintro ⟨z1,z2⟩ V1 l1 ⟨i,j,e1,e2,bs⟩
 dsimp only at e1 e2
 subst e1 e2
 have ble:=bs.le
 have U1:=bs.len
 have hr1:=hr.le (V':=V1) fun _ _ g=>fE.le g l1
 refine ⟨rfl,fun hlt=>?_,fun hlt=>?_⟩
 ·have hlt:(i:Int)<(j:Int):=of_decide_eq_true hlt
  dsimp only
  rw [Ef (by omega) (by omega)]
  have hlj:(i+j) / 2<j:=by omega
  have Tw:i<=(i+j) / 2:=by omega
  generalize (i+j) / 2=h at *
  have ON:h<r.length:=by omega
  have w:i64.wrap ((h:Int)+1)=((h+1:Nat):Int):=by rw [aw (by omega)];rfl
  rw [Int.toNat_natCast,w,Nat.zero_add]
  obtain ⟨a1,a2,a3,a4,a5,a6,a7,a8,a9,b1,b2,b3,b4,b5,b6,eU,Li,hs1⟩:=Du hr1 ON
  refine ⟨by omega,⟨by omega,by omega⟩,_,_,_,_,_,_,_,_,_,_,_,_,_,_,_,_,_,⟨eU,Li⟩,fun V2 l2=>(C3 (hs1.le l2) (hl0.le (l1.trans l2)) hb).mono ?_⟩
  rintro q V3 l3 rfl
  refine ⟨_,rfl,fun hc=>⟨(((h+1:Nat):Int),(j:Int)),by dsimp only;omega,by and_intros<;>rfl,h+1,j,rfl,rfl,bs.up qh hlj ON (of_decide_eq_true hc)⟩,fun hc=>⟨((i:Int),(h:Int)),by dsimp only;omega,by and_intros<;>rfl,i,h,rfl,rfl,bs.down Tw ON (of_decide_eq_false hc)⟩⟩
 ·have hlt:¬(i:Int)<(j:Int):=of_decide_eq_false hlt
  obtain rfl:i=j:=by omega
  dsimp only
  refine ⟨fun hin=>?_,fun hin V7 l7 hw7=>⟨i,false,rfl,by omega,fun v=>bs.done v,hw7⟩⟩
  have hin:(i:Int)<(r.length:Int):=of_decide_eq_true hin
  have hil:i<r.length:=by omega
  rw [Int.toNat_natCast,Nat.zero_add]
  obtain ⟨a1,a2,a3,a4,a5,a6,a7,a8,a9,b1,b2,b3,b4,b5,b6,eU,Li,hs1⟩:=Du hr1 hil
  refine ⟨⟨by omega,by omega⟩,_,_,_,_,_,_,_,_,_,_,_,_,_,_,_,_,_,⟨eU,Li⟩,fun V4 l4=>(C3 (hs1.le l4) (hl0.le (l1.trans l4)) hb).mono ?_⟩
  rintro q V5 l5 rfl
  exact ⟨_,rfl,fun V6 l6 TN=>⟨i,_,rfl,by omega,fun v=>bs.done v,TN⟩⟩
theorem sI {V V':View}{P:Prop}{b:Nat}(l:V.Le V')(h:P->V.w.heap.size<=b\/V.H b):V.Le (V'.shut.iB P b):=fun x o hx=>by
 have h1:=l x o hx
 refine ⟨fun hh=>hh.elim h1.1 ?_,h1.2⟩
 rintro ⟨hp,rfl,-⟩
 rcases h hp with h|h
 ·have:=(Array.getElem?_eq_some_iff.1 hx.2).1
  omega
 ·exact hx.1 h
theorem D6 {c:List Sd}{l:L3}{i:Nat}(hi:i<c.length):kl (c.take (i+1)) l=kl (c.take i) l++if fa c[i].1 c[i].2 l=true then [(c[i].1,fc c[i].1 c[i].2 l)] else []:=by
 unfold kl
 rw [List.take_add_one,List.getElem?_eq_getElem hi,List.filterMap_append]
 congr 1
 show List.filterMap _ [c[i]]=_
 by_cases h:fa c[i].1 c[i].2 l=true
 ·simp [h]
 ·simp [h]
theorem rS (c:List Sd)(l:L3):(kl c l).length<=c.length:=List.length_filterMap_le ..
theorem BM {c:List Sd}{l:L3}{v:Sp}(h:bJ c l bw=some v):fq c l=some (kG (l,v) (kl c l)):=by unfold fq;rw [h]
theorem BL {c:List Sd}{l:L3}(h:bJ c l bw=none):fq c l=if 0<cV c l then some c else none:=by unfold fq;rw [h]
set_option maxHeartbeats 1000000 in
theorem ze {V:View}{cp:OA}{cn cc:Nat}{c:List Sd}{lv:Value}{l:L3}(h:cK 17 fE V cp cn c)(hl:rf V lv l)(hb:Bd l)(hn:c.length<=100000)(qh:c.Pairwise fun s u=>ay.iL (ay.aG s.1) (ay.aG u.1)<0) :
  ab prog 102 #[.slice cp cn cc,lv] V fun r V'=>∃q m e,r=.tuple #[.slice q m e,.bool (fq c l).isSome]/\(∀c',fq c l=some c'->cK 17 fE V' q m c'/\(cn<=cc->m<=e)):=by
 have hl0:=hl
 have h0:=h
 obtain rfl:=h.len
 obtain ⟨_,_,_,_,_,_,_,_,_,rfl,-,-,-⟩:=hl
 refine po cp _ cc _ _ _ _ _ _ _ _ _ V _ fun V1 l1=>(pG (h.le l1 fun _ _ g=>fE.le g l1) (hl0.le l1) hb (by omega)).mono ?_
 rintro r V2 l2 ⟨w,rfl,gv,sv⟩
 have QZ:=gv
 obtain ⟨_,_,_,_,_,_,rfl,-,-⟩:=gv
 have L2:=l1.trans l2
 refine ⟨_,_,_,_,_,_,_,_,_,rfl,fun hp V3 l3=>(m_ (h0.le (L2.trans l3) fun _ _ g=>fE.le g (L2.trans l3)) (hl0.le (L2.trans l3)) hb (by omega)).mono ?_,fun hp=>?_⟩
 ·have hp:bJ c l bw=none:=by simpa using hp
  rintro r V4 l4 rfl
  have e1:Gx c l=cV c l:=by unfold Gx;rw [hp];rfl
  have e2:=BL hp
  refine ⟨_,rfl,fun V5 l5=>⟨cp,c.length,cc,?_,fun c' e=>?_⟩⟩
  ·rw [e1,e2]
   by_cases hc:0<cV c l
   ·rw [if_pos hc,decide_eq_true hc];rfl
   ·rw [if_neg hc,decide_eq_false hc];rfl
  ·rw [e2] at e
   split at e
   ·cases e
    have L5:=L2.trans (l3.trans (l4.trans l5))
    exact ⟨h0.le L5 fun _ _ g=>fE.le g L5,id⟩
   ·cases e
 have hp:(bJ c l bw).isSome=true:=by simpa using hp
 obtain ⟨v,ev⟩:=Option.isSome_iff_exists.1 hp
 rw [ev] at QZ sv ⊢
 have e2:=BM ev
 have w1:i64.wrap ((c.length:Int)+1)=((c.length+1:Nat):Int):=by rw [aw (by omega)];rfl
 rw [w1,Int.toNat_natCast]
 refine ⟨by omega,by omega,by omega,fun z V'=>∃i:Nat,z.2.2.2=(i:Int)/\i<=c.length/\GR 17 fE V' z.1 z.2.1 z.2.2.1 (kl (c.take i) l)/\z.2.1≠0,fun z=>c.length-z.2.2.2.toNat,
  ⟨(0,c.length+1,mS (c.length+1) [.int .i64 0,.int .i64 0,.pointer none,.int .i64 0,.int .i64 0,.pointer none,.int .i64 0,.int .i64 0,.pointer none,.int .i64 0,.int .i64 0,.pointer none,.int .i64 0,.int .i64 0,.pointer none,.bool false,.bool false],0),by and_intros<;>first|rfl|omega,0,rfl,Nat.zero_le _,⟨rfl,Nat.zero_le _,?_,Row.nil⟩,by dsimp only;omega⟩,?_⟩
 ·show _<=(List.replicate (c.length+1) _).flatten.length
  rw [List.length_flatten,List.map_replicate,List.sum_replicate_nat]
  exact Nat.le_refl _
 rintro ⟨z1,z2,vs,z4⟩ V6 l6 ⟨i,e4,Rl,hg,hc0⟩
 dsimp only at e4 hg hc0
 subst e4
 have L6:=L2.trans l6
 have gl:=hg.len
 have Oy:=hg.le
 have FA:=hg.cap
 try dsimp only at gl Oy FA
 have QX:=rS (c.take i) l
 rw [List.length_take] at QX
 refine ⟨rfl,fun hlt=>?_,fun hlt=>⟨fun hv0=>?_,fun hv0 ow fh bk g1 g2=>?_⟩⟩
 ·have hlt:(i:Int)<c.length:=of_decide_eq_true hlt
  have hi':i<c.length:=by omega
  have w:i64.wrap ((i:Int)+1)=((i+1:Nat):Int):=by rw [aw (by omega)];rfl
  dsimp only
  rw [Int.toNat_natCast,w]
  obtain ⟨ps,a1,a2,a3,a4,a5,a6,a7,a8,a9,b1,b2,b3,b4,b5,b6,a,ha,k0,k1,k2,k3,k4,k5,k6,k7,k8,k9,k10,k11,k12,k13,k14,k15,k16,hr⟩:=jS (h0.le L6 fun _ _ g=>fE.le g L6) hi'
  obtain ⟨rl,ri,-,-⟩:=hr.both
  have sd:=hr.2
  have ct:=D6 (l:=l) hi'
  generalize c[i]=S at *
  refine ⟨ps,⟨by omega,by omega⟩,_,_,_,_,_,_,_,_,_,_,_,_,_,_,_,_,_,a,ha,k0,k1,k2,k3,k4,k5,k6,k7,k8,k9,k10,k11,k12,k13,k14,k15,k16,fun V7 l7=>(zg (rl.le l7) (ri.le l7) (hl0.le (L6.trans l7)) (k:=100000) (sd.1.pY.up (by omega)) sd.2 (hb.pY.up (by omega)) (by omega)).mono ?_⟩
  rintro r V8 l8 ⟨w8,rfl,g⟩
  have g0:=g
  obtain ⟨_,_,_,_,_,_,rfl,-,-⟩:=g
  have Rb:=hg.mono (V':=V8) fun _ _ g=>fE.le g (l7.trans l8)
  refine ⟨_,_,_,_,_,_,_,_,_,rfl,fun hf=>⟨by omega,Oy,FA,rfl,Gl,fun sp c' h1 h2=>⟨(z1+1,c',_,((i+1:Nat):Int)),by dsimp only;omega,by and_intros<;>rfl,i+1,rfl,hi',?_,by dsimp only;omega⟩⟩,fun hf=>⟨(z1,z2,vs,((i+1:Nat):Int)),by dsimp only;omega,by and_intros<;>rfl,i+1,rfl,hi',?_,hc0⟩⟩
  ·have hf:fa S.1 S.2 l=true:=hf
   dsimp only
   rw [ct,if_pos hf]
   exact Rb.snoc (a:=(S.1,fc S.1 S.2 l)) rfl ⟨⟨_,_,_,_,_,_,_,_,_,_,_,_,_,_,_,rfl,rl.le (l7.trans l8),g0⟩,sd.1,DE sd.1.pY hb.pY sd.2 (by omega)⟩ (by decide) h1 h2
  ·have hf:¬fa S.1 S.2 l=true:=by rw [show fa S.1 S.2 l=false from hf];exact Bool.false_ne_true
   dsimp only
   rw [ct,if_neg hf,List.append_nil]
   exact Rb
 ·have hv0:vs=[]:=hv0
  rw [hv0] at FA
  simp at FA
  omega
 have hlt:¬(i:Int)<c.length:=of_decide_eq_false hlt
 obtain rfl:i=c.length:=by omega
 rw [List.take_length] at hg gl
 have QX:=rS c l
 have hv0:vs≠[]:=hv0
 have NA:∀b,mA b z2=some ⟨b,0,none⟩:=fun b=>by unfold mA;rw [if_neg hc0]
 dsimp only
 rw [NA]
 have E1:=L6.trans fh
 refine (DS (V:=ow.bf [vb vs ow.w.heap.size bk]) (r:=kl c l) (l:=l) (g1 hv0) ⟨by simp [Jb hv0],g2 hv0⟩ (hg.row.le fun _ _ g=>fE.le g fun b o h=>fh b o h) gl (by omega) (rf.le (V:=V) (V':=ow.bf _) hl0 fun b o h=>E1 b o h) hb (zB qh)).mono ?_
 rintro r mU eC ⟨at_,fb,rfl,hat,hins,e5⟩
 refine ⟨_,_,rfl,hv0,vs,hv0,e5,fun lk dO bk1 bk2 k1 k2 k3 k4 k5=>?_⟩
 rw [NA]
 have l146:ow.Le lk:=fun b o h=>dO b o (eC b o h)
 have hvw:lk.w.heap.size>bk1:=(Array.getElem?_eq_some_iff.1 (k1 hv0)).1
 have JR:Row 17 fE lk vs (kl c l):=hg.row.le fun _ _ g=>fE.le g (fh.trans l146)
 have hone:∀u∈(vs.take (z1*17)).drop (at_*17),u.oneCell'=true:=fun u hu=>by
  obtain ⟨m,hm,e⟩:=List.mem_iff_getElem.1 (List.mem_of_mem_drop hu)
  have hm':m<(kl c l).length*17:=by rw [List.length_take,gl] at hm;omega
  have:=List.getElem?_eq_getElem hm
  rw [e,List.getElem?_take,if_pos (by rw [gl];exact hm')] at this
  exact nO hg.row (by decide) (fun xs _=>Iq xs) hm' this
 refine (Fl (V:=lk.bf [vb vs lk.w.heap.size bk1,bk2]) (ob:=bk1) (vb:=bk2) (n:=z1) (c:=z2) (i:=at_) (vs:=vs) (xs:=[_,_,_,_,_,_,_,_,_,_,_,_,_,_,_,_,_]) (k1 hv0) ⟨by simp [Jb hv0],k2 hv0⟩ k3 (k5 hv0) hat Oy (by omega) FA rfl hone Gl).mono ?_
 rintro r oz dR ⟨q,c',sp,rfl,f1,f2,f3,f4,f5⟩
 have f2':lk.w.heap.size<=q\/(vs≠[]/\q=bk1):=f2.imp id fun e=>⟨hv0,e⟩
 refine ⟨q,_,fun _=>f1,fun _=>f2',some ⟨q,0,none⟩,z1+1,c',?_,_,_,_,_,_,_,_,_,_,_,_,_,_,_,_,_,_,f5,fun qQ eu SJ m1=>⟨mA SJ c',z1+1,c',?_,fun c'' e=>?_⟩⟩
 ·unfold mA;rw [if_neg (by omega)]
 ·rw [e2];rfl
 ·rw [e2] at e
  obtain rfl:=Option.some.inj e
  have FV:lk.Le qQ:=fun b o hx=>eu b o (sI (V:=lk.bf _) (V':=oz) (P:=_) (b:=q) dR (fun _=>f2.elim .inl fun e=>.inr (by rw [e];exact k2 hv0)) b o hx)
  have hR:=Cr (sp:=sp) (JR.le fun _ _ g=>fE.le g FV) (k:=at_) (by omega) (xs:=[_,_,_,_,_,_,_,_,_,_,_,_,_,_,_,_,_]) (a:=(l,v)) rfl ⟨⟨_,_,_,_,_,_,_,_,_,_,_,_,_,_,_,rfl,hl0.le (E1.trans (l146.trans FV)),QZ.le (l6.trans (fh.trans (l146.trans FV)))⟩,hb,sv⟩ (by decide)
  rw [hins v]
  have hlen:z1+1=((kl c l).take at_++(l,v)::(kl c l).drop at_).length:=by
   rw [List.length_append,List.length_cons,List.length_take,List.length_drop];omega
  rw [hlen]
  rw [←gl] at hR
  exact ⟨cK.fL m1 hR (by decide) (by rw [←hlen];exact f3),fun _=>by rw [←hlen];exact f3⟩
def Bq (k:Nat)(V:View)(v:Value)(c:Rat×Rat):Prop:=mT V v c.1 c.2/\Sz k c.1/\Sz k c.2
theorem Bq.le {k:Nat}{V V':View}{v:Value}{c:Rat×Rat}(h:Bq k V v c)(l:V.Le V'):Bq k V' v c:=⟨h.1.le l,h.2⟩
theorem Mt {a b:Int}{p:OA}{c d:Int}{q:OA}:∀v∈([.int .i64 a,.int .i64 b,.pointer p,.int .i64 c,.int .i64 d,.pointer q]:List Value),v.oneCell'=true:=by
 intro v hm
 simp only [List.mem_cons,List.not_mem_nil,or_false] at hm
 rcases hm with rfl|rfl|rfl|rfl|rfl|rfl<;>rfl
theorem nF {k:Nat}{V:View}{p:OA}{n:Nat}{al:List (Rat×Rat)}(h:cK 6 (Bq k) V p n al){i:Nat}(hi:i<al.length) :
  p.isSome=true/\∃(x y:Int)(q:OA)(x' y':Int)(q':OA)(a:Addr),ah p (i*6)=some a/\V.at (a.add 0) (.int .i64 x)/\V.at (a.add 1) (.int .i64 y)/\V.at (a.add 2) (.pointer q)/\V.at (a.add 3) (.int .i64 x')/\V.at (a.add 4) (.int .i64 y')/\V.at (a.add 5) (.pointer q') /\
   Bq k V (.agg #[.int .i64 x,.int .i64 y,.pointer q,.int .i64 x',.int .i64 y',.pointer q']) al[i]:=by
 obtain ⟨ad,h0,xs,h1,h2,h3⟩:=h.at_ i hi
 have h20:=h2
 obtain ⟨⟨x,y,q,x',y',q',e,-⟩,-⟩:=h2
 have e:=congrArg Array.toList (Value.agg.inj e)
 dsimp only at e
 subst e
 refine ⟨?_,x,y,q,x',y',q',ad,h0,h3 0 _ rfl,h3 1 _ rfl,h3 2 _ rfl,h3 3 _ rfl,h3 4 _ rfl,h3 5 _ rfl,h20⟩
 cases p with
 | none=>cases h0
 | some a=>rfl
def di (V:View)(v:Value)(l:L3):Prop:=RL V v l.1 l.2.1 l.2.2
theorem di.le {V V':View}{v:Value}{l:L3}(h:di V v l)(e:V.Le V'):di V' v l:=RL.le h e
theorem bO {V:View}{v:Value}{l:L3}(h:di V v l):∃(b1:Bool)(p1:OA)(n1 c1:Nat)(b2:Bool)(p2:OA)(n2 c2:Nat)(b3:Bool)(p3:OA)(n3 c3:Nat),v=.agg #[.bool b1,.slice p1 n1 c1,.bool b2,.slice p2 n2 c2,.bool b3,.slice p3 n3 c3]:=by
 obtain ⟨_,_,_,_,_,_,_,_,_,e,-⟩:=h;exact ⟨_,_,_,_,_,_,_,_,_,_,_,_,e⟩
theorem Im {V:View}{xs:List Value}{l:L3}(h:di V (.agg (List.toArray xs)) l):∀v∈xs,v.oneCell'=true:=by
 obtain ⟨_,_,_,_,_,_,_,_,_,_,_,_,e⟩:=bO h
 have e:=congrArg Array.toList (Value.agg.inj e)
 dsimp only at e
 subst e
 intro v hm
 simp only [List.mem_cons,List.not_mem_nil,or_false] at hm
 rcases hm with rfl|rfl|rfl|rfl|rfl|rfl<;>rfl
theorem H6 {b:Bool}{p:OA}{n c:Nat}{b':Bool}{p':OA}{n' c':Nat}{b'':Bool}{p'':OA}{n'' c'':Nat}:∀v∈([.bool b,.slice p n c,.bool b',.slice p' n' c',.bool b'',.slice p'' n'' c'']:List Value),v.oneCell'=true:=by
 intro v hm
 simp only [List.mem_cons,List.not_mem_nil,or_false] at hm
 rcases hm with rfl|rfl|rfl|rfl|rfl|rfl<;>rfl
theorem H2 {V:View}{p:OA}{n:Nat}{al:List L3}(h:cK 9 wW V p n al){i:Nat}(hi:i<al.length) :
  p.isSome=true/\∃(x1 x2:Int)(q1:OA)(y1 y2:Int)(q2:OA)(z1 z2:Int)(q3:OA)(a:Addr),ah p (i*9)=some a/\V.at (a.add 0) (.int .i64 x1)/\V.at (a.add 1) (.int .i64 x2)/\V.at (a.add 2) (.pointer q1)/\V.at (a.add 3) (.int .i64 y1)/\V.at (a.add 4) (.int .i64 y2)/\V.at (a.add 5) (.pointer q2)/\V.at (a.add 6) (.int .i64 z1)/\V.at (a.add 7) (.int .i64 z2)/\V.at (a.add 8) (.pointer q3) /\
   wW V (.agg #[.int .i64 x1,.int .i64 x2,.pointer q1,.int .i64 y1,.int .i64 y2,.pointer q2,.int .i64 z1,.int .i64 z2,.pointer q3]) al[i]:=by
 obtain ⟨ad,h0,xs,h1,h2,h3⟩:=h.at_ i hi
 have h20:=h2
 obtain ⟨_,_,_,_,_,_,_,_,_,e⟩:=h2.shape
 have e:=congrArg Array.toList (Value.agg.inj e)
 dsimp only at e
 subst e
 refine ⟨?_,_,_,_,_,_,_,_,_,_,ad,h0,h3 0 _ rfl,h3 1 _ rfl,h3 2 _ rfl,h3 3 _ rfl,h3 4 _ rfl,h3 5 _ rfl,h3 6 _ rfl,h3 7 _ rfl,h3 8 _ rfl,h20⟩
 cases p with
 | none=>cases h0
 | some a=>rfl
theorem Mu {x1 x2:Int}{q1:OA}{y1 y2:Int}{q2:OA}{z1 z2:Int}{q3:OA}:∀v∈([.int .i64 x1,.int .i64 x2,.pointer q1,.int .i64 y1,.int .i64 y2,.pointer q2,.int .i64 z1,.int .i64 z2,.pointer q3]:List Value),v.oneCell'=true:=by
 intro v hm
 simp only [List.mem_cons,List.not_mem_nil,or_false] at hm
 rcases hm with rfl|rfl|rfl|rfl|rfl|rfl|rfl|rfl|rfl<;>rfl
theorem EE {V:View}{v:Value}{l:L3}(h:pC V v l):∃(b1:Bool)(p1:OA)(n1 c1:Nat)(b2:Bool)(p2:OA)(n2 c2:Nat)(b3:Bool)(p3:OA)(n3 c3:Nat),v=.agg #[.bool b1,.slice p1 n1 c1,.bool b2,.slice p2 n2 c2,.bool b3,.slice p3 n3 c3]:=by
 rcases h with h|⟨-,b1,p,n,c,xs,b2,q,m,e',ys,b3,s,i,j,zs,hv,-⟩
 ·exact bO h
 ·exact ⟨b1,p,n,c,b2,q,m,e',b3,s,i,j,hv⟩
theorem H3 {V:View}{p:OA}{n:Nat}{al:List L3}(h:cK 6 pC V p n al){i:Nat}(hi:i<al.length) :
  p.isSome=true/\∃(b1:Bool)(p1:OA)(n1 c1:Nat)(b2:Bool)(p2:OA)(n2 c2:Nat)(b3:Bool)(p3:OA)(n3 c3:Nat)(a:Addr),ah p (i*6)=some a/\V.at (a.add 0) (.bool b1)/\V.at (a.add 1) (.slice p1 n1 c1)/\V.at (a.add 2) (.bool b2)/\V.at (a.add 3) (.slice p2 n2 c2)/\V.at (a.add 4) (.bool b3)/\V.at (a.add 5) (.slice p3 n3 c3) /\
   pC V (.agg #[.bool b1,.slice p1 n1 c1,.bool b2,.slice p2 n2 c2,.bool b3,.slice p3 n3 c3]) al[i]:=by
 obtain ⟨ad,h0,xs,h1,h2,h3⟩:=h.at_ i hi
 have h20:=h2
 obtain ⟨_,_,_,_,_,_,_,_,_,_,_,_,e⟩:=EE h2
 have e:=congrArg Array.toList (Value.agg.inj e)
 dsimp only at e
 subst e
 refine ⟨?_,_,_,_,_,_,_,_,_,_,_,_,_,ad,h0,h3 0 _ rfl,h3 1 _ rfl,h3 2 _ rfl,h3 3 _ rfl,h3 4 _ rfl,h3 5 _ rfl,h20⟩
 cases p with
 | none=>cases h0
 | some a=>rfl
def wE (ls:List L3):Bool:=decide (ls.length<=1024)&&ls.all du
theorem DT {V:View}{p:OA}{n c:Nat}{ls:List L3}(h:cK 6 pC V p n ls)(hb:∀l∈ls,Bd l) :
  ab prog 65 #[.agg #[.slice p n c]] V fun r V'=>∃q m e,r=.tuple #[.slice q m e,.bool (wE ls)]/\(wE ls=true->cK 9 wW V' q m ls):=by
 obtain rfl:=h.len
 refine tM p _ c V _ ⟨fun hg V1 l1=>?_,fun hg=>⟨fun z V'=>∃i:Nat,z.2.2.2=(i:Int)/\i<=ls.length/\GR 9 wW V' z.1 z.2.1 z.2.2.1 (ls.take i)/\(ls.take i).all du=true,fun z=>ls.length-z.2.2.2.toNat,⟨(0,0,[],0),by and_intros<;>rfl,0,rfl,Nat.zero_le _,GR.nil,rfl⟩,?_⟩⟩
 ·have hg:¬ls.length<=1024:=by have:=of_decide_eq_true hg;omega
  have e:wE ls=false:=by unfold wE;rw [decide_eq_false hg];rfl
  rw [e]
  exact ⟨_,_,_,rfl,fun h=>by cases h⟩
 have hle:ls.length<=1024:=by have:=of_decide_eq_false hg;omega
 have e0:wE ls=ls.all du:=by unfold wE;rw [decide_eq_true hle];rfl
 rintro ⟨z1,z2,vs,z4⟩ V2 l2 ⟨i,e4,Rl,hgr,hall⟩
 dsimp only at e4 hgr
 subst e4
 have zl:=hgr.len
 rw [List.length_take] at zl
 refine ⟨rfl,fun hlt=>?_,fun hlt V6 l6 bk hbk=>?_⟩
 ·have hlt:(i:Int)<ls.length:=of_decide_eq_true hlt
  have hi:i<ls.length:=by omega
  have w:i64.wrap ((i:Int)+1)=((i+1:Nat):Int):=by rw [aw (by omega)];rfl
  dsimp only
  rw [Int.toNat_natCast,w]
  obtain ⟨is,b1,p1,n1,c1,b2,p2,n2,c2,b3,p3,n3,c3,a,had,a0,a1,a2,a3,a4,a5,hl1⟩:=H3 (h.le l2 fun _ _ g=>pC.le g l2) hi
  have bd:=hb _ (List.getElem_mem hi)
  refine ⟨is,⟨by omega,by omega⟩,_,_,_,_,_,_,_,_,_,_,_,_,a,had,a0,a1,a2,a3,a4,a5,fun V3 l3=>(xj (hl1.le l3) bd).mono ?_⟩
  rintro r V4 l4 ⟨w4,rfl,⟨_,_,_,_,_,_,_,_,_,rfl⟩,hok⟩
  have TF:(ls.take (i+1)).all du=du ls[i]:=by rw [List.take_add_one,List.getElem?_eq_getElem hi,List.all_append,hall];simp
  refine ⟨_,_,_,_,_,_,_,_,_,_,rfl,fun hf V5 l5=>?_,fun hf=>⟨by omega,hgr.le,hgr.cap,rfl,Mu,fun sp c' h1 h2=>⟨(z1+1,c',_,((i+1:Nat):Int)),by dsimp only;omega,by and_intros<;>rfl,i+1,rfl,hi,?_,?_⟩⟩⟩
  ·have hf:du ls[i]=false:=by simpa using hf
   have e:ls.all du=false:=by
    rw [List.all_eq_false]
    exact ⟨_,List.getElem_mem hi,by rw [hf];exact Bool.false_ne_true⟩
   rw [e0,e]
   exact ⟨_,_,_,rfl,fun h=>by cases h⟩
  ·have hf:du ls[i]=true:=by simpa using hf
   dsimp only
   rw [List.take_add_one,List.getElem?_eq_getElem hi]
   exact (hgr.mono (V':=V4) fun _ _ g=>wW.le g (l3.trans l4)).snoc rfl ⟨hok hf,bd⟩ (by decide) h1 h2
  ·rw [TF];simpa using hf
 ·have hlt:¬(i:Int)<ls.length:=of_decide_eq_false hlt
  obtain rfl:i=ls.length:=by omega
  rw [List.take_length] at hgr hall
  rw [e0,hall]
  obtain rfl:=hgr.len
  exact ⟨_,_,_,rfl,fun _=>cK.fL hbk (hgr.row.le fun _ _ g=>wW.le g l6) (by decide) hgr.le⟩
theorem zV (x:Sd):∀r:List Sd,(kG x r).length=r.length+1
 | []=>rfl
 | s::r=>by
  unfold kG
  split
  ·rw [List.length_cons,zV x r,List.length_cons]
  ·rfl
theorem wc {c c':List Sd}{l:L3}(e:fq c l=some c'):c'.length<=c.length+1:=by
 unfold fq at e
 split at e
 ·cases e
  rw [zV]
  have:=rS c l
  omega
 ·split at e
  ·cases e;omega
  ·cases e
theorem zy (l:L3)(r M:List L3)(c:List Sd):br (l::r) M c=match fq c l with|some c'=>br r (l::M) c'|none=>none:=rfl
theorem xi {V:View}{p:OA}{n c:Nat}{ls:List L3}(h:cK 9 wW V p n ls)(ho:∀l∈ls,du l=true)(hn:ls.length<=2000) :
  ab prog 66 #[.slice p n c] V fun r V'=>∃q m e,r=.tuple #[.slice q m e,.bool (br ls [] []).isSome]/\(br ls [] []=none->r=.tuple #[.slice none 0 0,.bool false])/\(∀c',br ls [] []=some c'->cK 17 fE V' q m c'/\m<=e):=by
 obtain rfl:=h.len
 refine yp p _ c V _ ⟨fun z V'=>∃(i:Nat)(M:List L3)(cs:List Sd),z.2.2.2.2=(i:Int)/\i<=ls.length/\z.2.2.2.1=true/\br ls [] []=br (ls.drop i) M cs/\fN M cs/\(∀m∈M,du m=true)/\cs.length<=i/\cK 17 fE V' z.1 z.2.1 cs/\z.2.1<=z.2.2.1,fun z=>ls.length-z.2.2.2.2.toNat,
  ⟨(none,0,0,true,0),by and_intros<;>rfl,0,[],[],rfl,Nat.zero_le _,rfl,rfl,fN.nil,(fun m hm=>by cases hm),Nat.le_refl _,cK.nil,Nat.le_refl _⟩,?_⟩
 rintro ⟨zp,zn,zc,zb,zi⟩ V1 l1 ⟨i,M,cs,e1,Rl,e2,hcan,hC,hM,hcl,hL,hcap⟩
 dsimp only at e1 e2 hL hcap
 subst e1 e2
 refine ⟨rfl,fun hlt=>?_,fun hlt=>⟨(fun hf=>by cases hf),fun _ V7 l7=>?_⟩⟩
 ·have hlt:(i:Int)<ls.length:=of_decide_eq_true hlt
  have hi:i<ls.length:=by omega
  have w:i64.wrap ((i:Int)+1)=((i+1:Nat):Int):=by rw [aw (by omega)];rfl
  dsimp only
  rw [Int.toNat_natCast,w]
  obtain ⟨is,x1,x2,q1,y1,y2,q2,z1,z2,q3,a,had,a0,a1,a2,a3,a4,a5,a6,a7,a8,hl1⟩:=H2 (h.le l1 fun _ _ g=>wW.le g l1) hi
  have ok:=ho _ (List.getElem_mem hi)
  have ed:ls.drop i=ls[i]::ls.drop (i+1):=List.drop_eq_getElem_cons hi
  rw [ed,zy] at hcan
  refine ⟨is,⟨by omega,by omega⟩,_,_,_,_,_,_,_,_,_,a,had,a0,a1,a2,a3,a4,a5,a6,a7,a8,fun V2 l2=>(ze (hL.le l2 fun _ _ g=>fE.le g l2) (hl1.le l2).1 hl1.2 (by omega) hC.qh).mono ?_⟩
  rintro r V3 l3 ⟨q,m,e,rfl,hr⟩
  refine ⟨_,_,_,_,rfl,fun hf=>⟨fun _ V4 l4=>?_,fun hf'=>by rw [hf] at hf';cases hf'⟩,fun hf=>?_⟩
  ·have hf:fq cs ls[i]=none:=by simpa using hf
   rw [hf] at hcan
   have hcan:br ls [] []=none:=hcan
   rw [hcan]
   exact ⟨none,0,0,rfl,fun _=>rfl,fun c' e=>by cases e⟩
  ·have hf:(fq cs ls[i]).isSome=true:=by simpa using hf
   obtain ⟨c',e'⟩:=Option.isSome_iff_exists.1 hf
   rw [e'] at hcan
   have hcan:br ls [] []=br (ls.drop (i+1)) (ls[i]::M) c':=hcan
   refine ⟨(q,m,e,(fq cs ls[i]).isSome,((i+1:Nat):Int)),by dsimp only;omega,by and_intros<;>rfl,i+1,ls[i]::M,c',rfl,hi,hf,hcan,(C7 hC hM ok).1 c' e',List.forall_mem_cons.2 ⟨ok,hM⟩,?_,(hr c' e').1,(hr c' e').2 hcap⟩
   have:=wc e'
   omega
 ·have hlt:¬(i:Int)<ls.length:=of_decide_eq_false hlt
  obtain rfl:i=ls.length:=by omega
  rw [List.drop_length] at hcan
  have hcan:br ls [] []=some cs:=hcan
  rw [hcan]
  refine ⟨zp,zn,zc,rfl,(fun h=>by cases h),fun c' e=>?_⟩
  cases e
  exact ⟨hL.le l7 fun _ _ g=>fE.le g l7,hcap⟩
theorem Bz {V:View}{p:OA}{n c:Nat}{cs:List Sd}(h:cK 17 fE V p n cs)(hn:cs.length<=100000) :
  ab prog 70 #[.slice p n c] V fun r V'=>∃q m e,r=.agg #[.slice q m e]/\cK 6 di V' q m (cs.map Prod.fst)/\m<=e:=by
 obtain rfl:=h.len
 refine qv p _ c V _ ⟨fun z V'=>∃j:Nat,z.1=(j:Int)/\j<=cs.length/\GR 6 di V' z.2.1 z.2.2.1 z.2.2.2 ((cs.map Prod.fst).take j),fun z=>cs.length-z.1.toNat,⟨(0,0,0,[]),by and_intros<;>rfl,0,rfl,Nat.zero_le _,GR.nil⟩,?_⟩
 rintro ⟨z1,z2,z3,vs⟩ V1 l1 ⟨j,e4,EY,hg⟩
 dsimp only at e4 hg
 subst e4
 have zl:=hg.len
 rw [List.length_take,List.length_map] at zl
 refine ⟨rfl,fun hlt=>?_,fun hlt V4 l4 bk hb=>?_⟩
 ·have hlt:(j:Int)<cs.length:=of_decide_eq_true hlt
  have hi:j<cs.length:=by omega
  have w:i64.wrap ((j:Int)+1)=((j+1:Nat):Int):=by rw [aw (by omega)];rfl
  dsimp only
  rw [Int.toNat_natCast,w]
  obtain ⟨ps,a1,a2,a3,a4,a5,a6,a7,a8,a9,b1,b2,b3,b4,b5,b6,a,ha,k0,k1,k2,k3,k4,k5,k6,k7,k8,k9,k10,k11,k12,k13,k14,k15,k16,hr⟩:=jS (h.le l1 fun _ _ g=>fE.le g l1) hi
  obtain ⟨rl,ri,-,-⟩:=hr.both
  obtain ⟨s1,s2,s3⟩:=hr.2.1.sz
  refine ⟨ps,⟨by omega,by omega⟩,_,_,_,_,_,_,_,_,_,_,_,_,_,_,_,_,_,a,ha,k0,k1,k2,k3,k4,k5,k6,k7,k8,k9,k10,k11,k12,k13,k14,k15,k16,fun V2 l2=>(DV (rl.le l2) s1 s2 s3 (by omega)).mono ?_⟩
  rintro r V3 l3 gr
  have g0:di V3 r cs[j].1:=rf.SG gr
  obtain ⟨_,_,_,_,_,_,_,_,_,_,_,_,rfl⟩:=bO g0
  refine ⟨_,_,_,_,_,_,_,_,_,_,_,_,rfl,by omega,hg.le,hg.cap,rfl,H6,fun sp c' h1 h2=>⟨(((j+1:Nat):Int),z2+1,c',_),by dsimp only;omega,by and_intros<;>rfl,j+1,rfl,hi,?_⟩⟩
  dsimp only
  rw [List.take_add_one,List.getElem?_map,List.getElem?_eq_getElem hi]
  exact (hg.mono (V':=V3) fun _ _ g=>di.le g (l2.trans l3)).snoc rfl g0 (by decide) h1 h2
 ·have hlt:¬(j:Int)<cs.length:=of_decide_eq_false hlt
  obtain rfl:j=cs.length:=by omega
  rw [List.take_of_length_le (by rw [List.length_map];exact Nat.le_refl _)] at hg
  obtain rfl:=hg.len
  exact ⟨_,_,_,rfl,cK.fL hb (hg.row.le fun _ _ g=>di.le g l4) (by decide) hg.le,hg.le⟩
def yY (c:List Sd):Bool:=decide (c≠[])&&c.all fun s=>!s.2.a&&!s.2.b
theorem rH {V:View}{p:OA}{n c:Nat}{cs:List Sd}(h:cK 17 fE V p n cs)(hn:cs.length<=100000) :
  ab prog 81 #[.slice p n c] V fun r V'=>r=.bool (yY cs):=by
 obtain rfl:=h.len
 refine lO p _ c V _ ⟨fun z V'=>∃j:Nat,z=(j:Int)/\j<=cs.length/\((cs.take j).all fun s=>!s.2.a&&!s.2.b)=true,fun z=>cs.length-z.toNat,⟨0,by and_intros<;>rfl,0,rfl,Nat.zero_le _,rfl⟩,?_⟩
 rintro z1 V1 l1 ⟨j,rfl,EY,hall⟩
 refine ⟨rfl,fun hlt=>?_,fun hlt V4 l4=>?_⟩
 ·have hlt:(j:Int)<cs.length:=of_decide_eq_true hlt
  have hi:j<cs.length:=by omega
  have w:i64.wrap ((j:Int)+1)=((j+1:Nat):Int):=by rw [aw (by omega)];rfl
  rw [Int.toNat_natCast,w]
  obtain ⟨ps,a1,a2,a3,a4,a5,a6,a7,a8,a9,b1,b2,b3,b4,b5,b6,a,ha,k0,k1,k2,k3,k4,k5,k6,k7,k8,k9,k10,k11,k12,k13,k14,k15,k16,hr⟩:=jS (h.le l1 fun _ _ g=>fE.le g l1) hi
  have bad:(cs[j].2.a=true\/cs[j].2.b=true)->yY cs=false:=fun uE=>by
   unfold yY
   rw [Bool.and_eq_false_iff,List.all_eq_false]
   refine .inr ⟨_,List.getElem_mem hi,?_⟩
   rcases uE with h|h<;>simp [h]
  refine ⟨ps,⟨by omega,by omega⟩,_,_,_,_,_,_,_,_,_,_,_,_,_,_,_,_,_,a,ha,k0,k1,k2,k3,k4,k5,k6,k7,k8,k9,k10,k11,k12,k13,k14,k15,k16,fun h1 V2 l2=>by rw [bad (.inl h1)],fun h1=>⟨fun h2 V3 l3=>by rw [bad (.inr h2)],fun h2=>⟨((j+1:Nat):Int),by dsimp only;omega,by and_intros<;>rfl,j+1,rfl,hi,?_⟩⟩⟩
  rw [List.take_add_one,List.getElem?_eq_getElem hi,List.all_append,hall]
  simp [h1,h2]
 ·have hlt:¬(j:Int)<cs.length:=of_decide_eq_false hlt
  obtain rfl:j=cs.length:=by omega
  rw [List.take_length] at hall
  unfold yY
  rw [hall,Bool.and_true]
  congr 1
  cases cs with
  | nil=>rfl
  | cons s r=>simp
def Bi (S:List L3)(i:Nat):Option ay.V2:=if 0<ay.cr (ay.aG (S.getD i (0,0,0))) (ay.aG (S.getD ((i+1)%S.length) (0,0,0))) then some (J5 (S.getD i (0,0,0)) (S.getD ((i+1)%S.length) (0,0,0)),J6 (S.getD i (0,0,0)) (S.getD ((i+1)%S.length) (0,0,0))) else none
theorem IC (S:List L3):lP S=(List.range S.length).filterMap (Bi S):=rfl
theorem Bj (S:List L3)(i:Nat):(List.range (i+1)).filterMap (Bi S)=(List.range i).filterMap (Bi S)++(Bi S i).toList:=by
 rw [List.range_succ,List.filterMap_append]
 congr 1
theorem DJ (S:List L3):(lP S).length<=S.length:=by
 have:=List.length_filterMap_le (Bi S) (List.range S.length)
 rw [List.length_range] at this
 exact this
theorem iA {α:Type}{l:List α}{i:Nat}{d:α}(h:i<l.length):l.getD i d=l[i]:=by rw [List.getD_eq_getElem?_getD,List.getElem?_eq_getElem h];rfl
theorem zA (l m:L3):ay.cr (ay.aG l) (ay.aG m)=e_ l m:=by unfold ay.cr ay.aG e_;grind
theorem kd {V:View}{p:OA}{n c:Nat}{cs:List Sd}(h:cK 17 fE V p n cs)(hn:cs.length<=100000) :
  ab prog 79 #[.slice p n c] V fun r V'=>∃q m e,r=.slice q m e/\cK 6 (Bq 20000) V' q m (lP (cs.map Prod.fst)):=by
 obtain rfl:=h.len
 have hml:(cs.map Prod.fst).length=cs.length:=List.length_map ..
 refine lf p _ c V _ ⟨fun z V'=>∃j:Nat,z.2.2.2=(j:Int)/\j<=cs.length/\z.1<=j/\GR 6 (Bq 20000) V' z.1 z.2.1 z.2.2.1 ((List.range j).filterMap (Bi (cs.map Prod.fst))),fun z=>cs.length-z.2.2.2.toNat,⟨(0,0,[],0),by and_intros<;>first|rfl|trivial,0,rfl,Nat.zero_le _,Nat.le_refl _,GR.nil⟩,?_⟩
 rintro ⟨z1,z2,vs,z4⟩ V1 l1 ⟨j,e4,EY,NQ,hg⟩
 dsimp only at e4 hg NQ
 subst e4
 refine ⟨rfl,fun hlt=>?_,fun hlt oo cU bk hb=>?_⟩
 ·have hlt:(j:Int)<cs.length:=of_decide_eq_true hlt
  have hi:j<cs.length:=by omega
  have w:i64.wrap ((j:Int)+1)=((j+1:Nat):Int):=by rw [aw (by omega)];rfl
  have hm:(((j+1:Nat):Int)).tmod (cs.length:Int)=(((j+1)%cs.length:Nat):Int):=by rw [Int.ofNat_tmod]
  have hk:(j+1)%cs.length<cs.length:=Nat.mod_lt _ (by omega)
  dsimp only
  rw [w,hm]
  simp only [Int.toNat_natCast]
  obtain ⟨ps,a1,a2,a3,a4,a5,a6,a7,a8,a9,b1,b2,b3,b4,b5,b6,a,ha,k0,k1,k2,k3,k4,k5,k6,k7,k8,k9,k10,k11,k12,k13,k14,k15,k16,hr⟩:=jS (h.le l1 fun _ _ g=>fE.le g l1) hi
  obtain ⟨rl,-,-,-⟩:=hr.both
  obtain ⟨-,c1,c2,c3,c4,c5,c6,c7,c8,c9,d1,d2,d3,d4,d5,d6,aa,Tl,m0,m1,m2,m3,m4,m5,m6,m7,m8,m9,m10,m11,m12,m13,m14,m15,m16,hr'⟩:=jS (h.le l1 fun _ _ g=>fE.le g l1) hk
  obtain ⟨rl',-,-,-⟩:=hr'.both
  have sl:=hr.2.1
  have sl':=hr'.2.1
  have ev:Bi (cs.map Prod.fst) j=if 0<e_ cs[j].1 cs[(j+1)%cs.length].1 then some (J5 cs[j].1 cs[(j+1)%cs.length].1,J6 cs[j].1 cs[(j+1)%cs.length].1) else none:=by
   unfold Bi
   rw [hml,iA (by omega:j<(cs.map Prod.fst).length),iA (by omega:(j+1)%cs.length<(cs.map Prod.fst).length),List.getElem_map,List.getElem_map,zA]
  generalize cs[j]=S at *
  generalize cs[(j+1)%cs.length]=T at *
  refine ⟨ps,⟨by omega,by omega⟩,_,_,_,_,_,_,_,_,_,_,_,_,_,_,_,_,_,a,ha,k0,k1,k2,k3,k4,k5,k6,k7,k8,k9,k10,k11,k12,k13,k14,k15,k16,by omega,ps,⟨by omega,by omega⟩,_,_,_,_,_,_,_,_,_,_,_,_,_,_,_,_,_,aa,Tl,m0,m1,m2,m3,m4,m5,m6,m7,m8,m9,m10,m11,m12,m13,m14,m15,m16,fun V2 l2=>(Dg (rl.le l2) sl).mono ?_⟩
  rintro r V3 l3 g1
  have g10:=g1
  obtain ⟨_,_,_,_,_,_,rfl,-,-⟩:=g1
  refine ⟨_,_,_,_,_,_,rfl,fun V4 l4=>(Dg (rl'.le (l2.trans (l3.trans l4))) sl').mono ?_⟩
  rintro r V5 l5 g2
  have g20:=g2
  obtain ⟨_,_,_,_,_,_,rfl,-,-⟩:=g2
  refine ⟨_,_,_,_,_,_,rfl,fun V6 l6=>(eY (g10.le (l4.trans (l5.trans l6))) (g20.le l6) (kS sl).1 (kS sl).2 (kS sl').1 (kS sl').2 (by omega)).mono ?_⟩
  rintro r V7 l7 g3
  have mq:RR V7 r (e_ S.1 T.1):=by rw [←zA];exact g3
  obtain ⟨_,_,_,rfl⟩:=mq.shape
  refine ⟨_,_,_,rfl,fun V8 l8=>(dY (mq.le l8) (k:=5000) ((nU sl.pY sl'.pY).mono (by omega)) (by omega)).mono ?_⟩
  rintro r V9 l9 rfl
  have eT:V1.Le V9:=l2.trans (l3.trans (l4.trans (l5.trans (l6.trans (l7.trans (l8.trans l9))))))
  refine ⟨_,rfl,fun hc kn l10=>(DU (rl.le (eT.trans l10)) (rl'.le (eT.trans l10)) sl.pY sl'.pY (by omega)).mono ?_,fun hc=>⟨(z1,z2,vs,((j+1:Nat):Int)),by dsimp only;omega,by and_intros<;>first|rfl|trivial,j+1,rfl,hi,by dsimp only;omega,?_⟩⟩
  ·have hc:0<e_ S.1 T.1:=ay.pX.1 (of_decide_eq_true hc)
   rintro r ko bR ⟨RG,rfl,⟨_,_,_,_,_,_,rfl⟩,hme⟩
   have gm:=hme (by grind)
   obtain ⟨sx,sy⟩:=MQ sl.pY sl'.pY
   refine ⟨_,_,_,_,_,_,_,rfl,by omega,hg.le,hg.cap,rfl,Mt,fun sp c' h1 h2=>⟨(z1+1,c',_,((j+1:Nat):Int)),by dsimp only;omega,by and_intros<;>first|rfl|trivial,j+1,rfl,hi,by dsimp only;omega,?_⟩⟩
   dsimp only
   rw [Bj,ev,if_pos hc]
   exact (hg.mono (V':=ko) fun _ _ g=>Bq.le g (eT.trans (l10.trans bR))).snoc (a:=(J5 S.1 T.1,J6 S.1 T.1)) rfl ⟨gm,sx.mono (by omega),sy.mono (by omega)⟩ (by decide) h1 h2
  ·have hc:¬0<e_ S.1 T.1:=fun h=>of_decide_eq_false hc (ay.pX.2 h)
   dsimp only
   rw [Bj,ev,if_neg hc,Option.toList_none,List.append_nil]
   exact hg.mono fun _ _ g=>Bq.le g eT
 ·have hlt:¬(j:Int)<cs.length:=of_decide_eq_false hlt
  obtain rfl:j=cs.length:=by omega
  rw [←hml,←IC] at hg
  obtain rfl:=hg.len
  exact ⟨_,_,_,rfl,cK.fL hb (hg.row.le fun _ _ g=>Bq.le g cU) (by decide) hg.le⟩
def MT (l:List ay.V2)(k:Nat):Rat:=((List.range k).map fun i=>ay.cr (l.getD i (0,0)) (l.getD ((i+1)%l.length) (0,0))).sum
theorem AL (l:List ay.V2)(k:Nat):MT l (k+1)=MT l k+ay.cr (l.getD k (0,0)) (l.getD ((k+1)%l.length) (0,0)):=by
 unfold MT
 rw [List.range_succ,List.map_append,List.sum_append]
 simp [Rat.add_zero]
theorem BD {V:View}{p:OA}{n c:Nat}{l:List ay.V2}(h:cK 6 (Bq 20000) V p n l)(hn:l.length<=100000) :
  ab prog 139 #[.slice p n c] V fun r V'=>RR V' r (tw l*((2:Int):Rat)⁻¹)/\Sz (100000*l.length+10) (tw l*((2:Int):Rat)⁻¹):=by
 obtain rfl:=h.len
 have step:∀k,k<=l.length->(∀i,i<l.length->Sz 20000 (l.getD i (0,0)).1/\Sz 20000 (l.getD i (0,0)).2)->Sz (100000*k+4) (MT l k):=by
  intro k
  induction k with
  | zero=>exact fun _ _=>Ku _ (by omega)
  | succ k ih=>
   intro hk hs
   rw [AL]
   obtain ⟨s1,s2⟩:=hs k (by omega)
   obtain ⟨s3,s4⟩:=hs _ (Nat.mod_lt (k+1) (show l.length>0 by omega))
   exact ((ih (by omega) hs).add ((s1.mul s4).sub (s2.mul s3))).mono (by omega)
 have hsz:∀i,i<l.length->Sz 20000 (l.getD i (0,0)).1/\Sz 20000 (l.getD i (0,0)).2:=fun i hi=>by
  obtain ⟨-,_,_,_,_,_,_,_,-,-,-,-,-,-,-,g⟩:=nF h hi
  rw [iA hi]
  exact g.2
 refine AX p _ c V _ ⟨fun z V'=>∃j:Nat,z.1=(j:Int)/\j<=l.length/\RR V' (.agg #[.int .i64 z.2.1,.int .i64 z.2.2.1,.pointer z.2.2.2]) (MT l j),fun z=>l.length-z.1.toNat,⟨(0,0,0,none),by and_intros<;>first|rfl|trivial,0,rfl,Nat.zero_le _,RR.zero _⟩,?_⟩
 rintro ⟨z1,z2,z3,z4⟩ V1 l1 ⟨j,e4,EY,hg⟩
 dsimp only at e4 hg
 subst e4
 refine ⟨rfl,fun hlt=>?_,fun hlt V6 l6=>?_⟩
 ·have hlt:(j:Int)<l.length:=of_decide_eq_true hlt
  have hi:j<l.length:=by omega
  have w:i64.wrap ((j:Int)+1)=((j+1:Nat):Int):=by rw [aw (by omega)];rfl
  have hm:(((j+1:Nat):Int)).tmod (l.length:Int)=(((j+1)%l.length:Nat):Int):=by rw [Int.ofNat_tmod]
  have hk:(j+1)%l.length<l.length:=Nat.mod_lt _ (by omega)
  dsimp only
  rw [w,hm]
  simp only [Int.toNat_natCast]
  obtain ⟨ps,x,y,q,x',y',q',a,ha,a0,a1,a2,a3,a4,a5,gu⟩:=nF (h.le l1 fun _ _ g=>Bq.le g l1) hi
  obtain ⟨-,u,v,t,u',v',t',b,hb,b0,b1,b2,b3,b4,b5,gw⟩:=nF (h.le l1 fun _ _ g=>Bq.le g l1) hk
  have et:=AL l j
  rw [iA hi,iA hk] at et
  have sj:=step j EY hsz
  generalize l[j]=S at *
  generalize l[(j+1)%l.length]=T at *
  refine ⟨ps,⟨by omega,by omega⟩,_,_,_,_,_,_,a,ha,a0,a1,a2,a3,a4,a5,by omega,ps,⟨by omega,by omega⟩,_,_,_,_,_,_,b,hb,b0,b1,b2,b3,b4,b5,fun V2 l2=>(eY (gu.1.le l2) (gw.1.le l2) gu.2.1 gu.2.2 gw.2.1 gw.2.2 (by omega)).mono ?_⟩
  rintro r V3 l3 g3
  have mq:RR V3 r (ay.cr S T):=g3
  obtain ⟨_,_,_,rfl⟩:=mq.shape
  refine ⟨_,_,_,rfl,fun V4 l4=>(il (hg.le (l2.trans (l3.trans l4))) (mq.le l4) sj ((gu.2.1.mul gw.2.2).sub (gu.2.2.mul gw.2.1)) (by omega)).mono ?_⟩
  rintro r V5 l5 g5
  have IQ:=g5
  obtain ⟨_,_,_,rfl⟩:=g5.shape
  exact ⟨_,_,_,rfl,(((j+1:Nat):Int),_,_,_),by dsimp only;omega,by and_intros<;>first|rfl|trivial,j+1,rfl,hi,by rw [et];exact IQ⟩
 ·have hlt:¬(j:Int)<l.length:=of_decide_eq_false hlt
  obtain rfl:j=l.length:=by omega
  have sj:=step l.length (Nat.le_refl _) hsz
  refine (zh (hg.le l6) sj (by omega)).mono ?_
  rintro r V7 l7 g7
  have HG:=g7
  obtain ⟨_,_,_,rfl⟩:=g7.shape
  exact ⟨_,_,_,rfl,fun V8 l8=>⟨HG.le l8,(sj.mul (fZ yh)).mono (by omega)⟩⟩
theorem zd {V:View}{p:OA}{n c:Nat}{cs:List Sd}(h:cK 17 fE V p n cs)(hn:cs.length<=100000) :
  ab prog 82 #[.slice p n c] V fun r V'=>RR V' r (tw (lP (cs.map Prod.fst))*((2:Int):Rat)⁻¹)/\Sz 10000000010 (tw (lP (cs.map Prod.fst))*((2:Int):Rat)⁻¹):=by
 refine pk p n c V _ fun V1 l1=>(kd (h.le l1 fun _ _ g=>fE.le g l1) hn).mono ?_
 rintro r V2 l2 ⟨q,m,e,rfl,g⟩
 have vl:=DJ (cs.map Prod.fst)
 rw [List.length_map] at vl
 refine ⟨_,_,_,rfl,fun V3 l3=>(BD (g.le l3 fun _ _ g=>Bq.le g l3) (by omega)).mono ?_⟩
 rintro r V4 l4 ⟨g4,s4⟩
 have Fy:=g4
 obtain ⟨_,_,_,rfl⟩:=g4.shape
 exact ⟨_,_,_,rfl,fun V5 l5=>⟨Fy.le l5,s4.mono (by omega)⟩⟩
structure Er (V:View) (yi ye yu:Value):Prop where
 inv:DM V 0 yi
 emp:DM V 1 ye
 RB:DM V 2 yu
 si:E3 yi
 se:E3 ye
 su:E3 yu
theorem Er.le {V V':View}{yi ye yu:Value}(h:Er V yi ye yu)(l:V.Le V'):Er V' yi ye yu:=⟨h.inv.le l,h.emp.le l,h.RB.le l,h.si,h.se,h.su⟩
theorem nt {y:Value}(h:E3 y):IsIface y/\bL y=false:=by obtain ⟨a,rfl⟩:=h;exact ⟨.inr ⟨_,_,rfl⟩,rfl⟩
theorem fJ:IsIface .nilIface/\bL .nilIface=true:=⟨.inl rfl,rfl⟩
def Bk (ls:List L3)(bad Pq:Prop)(some_:List Sd->Prop):Prop:=(wE ls=false/\bad)\/(wE ls=true/\br ls [] []=none/\Pq)\/(wE ls=true/\∃c,br ls [] []=some c/\some_ c)
theorem Bk.bad {ls:List L3}{p q:Prop}{s:List Sd->Prop}(h:Bk ls p q s)(e:wE ls=false):p:=by
 rcases h with ⟨-,h⟩|⟨h,-⟩|⟨h,-⟩
 ·exact h
 ·rw [e] at h;cases h
 ·rw [e] at h;cases h
theorem Bk.Pq {ls:List L3}{p q:Prop}{s:List Sd->Prop}(h:Bk ls p q s)(e:wE ls=true)(e':br ls [] []=none):q:=by
 rcases h with ⟨h,-⟩|⟨-,-,h⟩|⟨-,c,h,-⟩
 ·rw [e] at h;cases h
 ·exact h
 ·rw [e'] at h;cases h
theorem Bk.some {ls:List L3}{p q:Prop}{s:List Sd->Prop}{c:List Sd}(h:Bk ls p q s)(e:wE ls=true)(e':br ls [] []=Option.some c):s c:=by
 rcases h with ⟨h,-⟩|⟨-,h,-⟩|⟨-,c',h,h'⟩
 ·rw [e] at h;cases h
 ·rw [e'] at h;cases h
 ·rw [e'] at h;cases h;exact h'
theorem Bk.imp {ls:List L3}{p q p' q':Prop}{s s':List Sd->Prop}(h:Bk ls p q s)(hp:p->p')(hq:q->q')(hs:∀c,br ls [] []=Option.some c->s c->s' c):Bk ls p' q' s':=by
 rcases h with ⟨h,h'⟩|⟨h,h1,h'⟩|⟨h,c,h1,h'⟩
 ·exact .inl ⟨h,hp h'⟩
 ·exact .inr (.inl ⟨h,h1,hq h'⟩)
 ·exact .inr (.inr ⟨h,c,h1,hs c h1 h'⟩)
theorem qX {ls:List L3}(h:wE ls=true):ls.length<=1024/\∀l∈ls,du l=true:=by
 unfold wE at h
 rw [Bool.and_eq_true,decide_eq_true_eq,List.all_eq_true] at h
 exact h
theorem Cb {ls:List L3}(h:ls.length<=1024)(h':∀l∈ls,du l=true):wE ls=true:=by
 unfold wE
 rw [decide_eq_true h,List.all_eq_true.2 h'];rfl
theorem oK:∀{ls M:List L3} {c c':List Sd},br ls M c=some c'->c'.length<=c.length+ls.length
 | [],_,_,_,e=>by cases e;simp
 | l::r,M,c,c',e=>by
  unfold br at e
  cases h:fq c l with
  | none=>rw [h] at e;cases e
  | some c1=>
   rw [h] at e
   have:=oK e
   have:=wc h
   rw [List.length_cons];omega
theorem BK {ls:List L3}{c:List Sd}(e:br ls [] []=some c)(h:wE ls=true):c.length<=100000:=by
 have:=oK e
 have:=(qX h).1
 rw [List.length_nil] at *
 omega
def RW (V':View)(r:Value)(ls:List L3)(yi ye:Value):Prop:=Bk ls (r=.tuple #[.slice none 0 0,yi]) (r=.tuple #[.slice none 0 0,ye]) fun cs=>(∃q m e,r=.tuple #[.slice q m e,.nilIface]/\cK 17 fE V' q m cs/\m<=e)/\fN ls.reverse cs/\cs.length<=100000
theorem fF {V:View}{p:OA}{n c:Nat}{ls:List L3}(h:cK 6 pC V p n ls)(hb:∀l∈ls,Bd l){yi ye yu:Value}(E:Er V yi ye yu) :
  ab prog 69 #[.agg #[.slice p n c]] V fun r V'=>RW V' r ls yi ye:=by
 refine tG p n c V _ fun V1 l1=>(DT (h.le l1 fun _ _ g=>pC.le g l1) hb).mono ?_
 rintro r V2 l2 ⟨q,m,e,rfl,g⟩
 have L2:=l1.trans l2
 refine ⟨_,_,_,_,rfl,fun ho=>⟨yi,⟨_,rfl,(E.le L2).inv⟩,fun V3 l3=>.inl ⟨by simpa using ho,rfl⟩⟩,fun ho V4 l4=>?_⟩
 have ho:wE ls=true:=by simpa using ho
 have hg:=g ho
 refine (xi (hg.le l4 fun _ _ g=>wW.le g l4) (qX ho).2 (by have:=(qX ho).1;omega)).mono ?_
 rintro r V5 l5 ⟨q',m',e',rfl,hn,hs⟩
 refine ⟨_,_,_,_,rfl,fun hf=>⟨ye,⟨_,rfl,(E.le (L2.trans (l4.trans l5))).emp⟩,fun V6 l6=>.inr (.inl ⟨ho,by simpa using hf,rfl⟩)⟩,fun hf V7 l7=>?_⟩
 have hf:(br ls [] []).isSome=true:=by simpa using hf
 obtain ⟨cs,hc⟩:=Option.isSome_iff_exists.1 hf
 have hC:=(nj fN.nil (fun m hm=>by cases hm) (qX ho).2).1 cs hc
 rw [List.append_nil] at hC
 exact .inr (.inr ⟨ho,cs,hc,⟨_,_,_,rfl,(hs cs hc).1.le l7 fun _ _ g=>fE.le g l7,(hs cs hc).2⟩,hC,BK hc ho⟩)
theorem kx {V:View}{p:OA}{n c:Nat}{ls:List L3}(h:cK 6 pC V p n ls)(hb:∀l∈ls,Bd l){yi ye yu:Value}(E:Er V yi ye yu) :
  ab prog 18 #[.agg #[.slice p n c]] V fun r V'=>Bk ls (r=.tuple #[.agg #[.slice none 0 0],yi]) (r=.tuple #[.agg #[.slice none 0 0],ye]) fun cs=>∃q m e,r=.tuple #[.agg #[.slice q m e],.nilIface]/\cK 6 di V' q m (cs.map Prod.fst)/\m<=e:=by
 refine qp p n c V _ fun V1 l1=>(fF (h.le l1 fun _ _ g=>pC.le g l1) hb (E.le l1)).mono ?_
 rintro r V2 l2 (⟨ho,rfl⟩|⟨ho,hc,rfl⟩|⟨ho,cs,hc,⟨q,m,e,rfl,hL,-⟩,hC,hl⟩)
 ·obtain ⟨i1,i2⟩:=nt E.si
  exact ⟨_,_,_,_,rfl,i1,fun _ V3 l3=>.inl ⟨ho,rfl⟩,fun hf=>by rw [i2] at hf;cases hf⟩
 ·obtain ⟨i1,i2⟩:=nt E.se
  exact ⟨_,_,_,_,rfl,i1,fun _ V3 l3=>.inr (.inl ⟨ho,hc,rfl⟩),fun hf=>by rw [i2] at hf;cases hf⟩
 ·refine ⟨_,_,_,_,rfl,fJ.1,(fun hf=>by cases hf),fun _ V4 l4=>(Bz (hL.le l4 fun _ _ g=>fE.le g l4) hl).mono ?_⟩
  rintro r V5 l5 ⟨q',m',e',rfl,g,hm⟩
  exact ⟨_,_,_,rfl,fun V6 l6=>.inr (.inr ⟨ho,cs,hc,_,_,_,rfl,g.le l6 fun _ _ g=>di.le g l6,hm⟩)⟩
def fr (V:View)(v:Value)(c:Rat×Rat):Prop:=E2 V v c.1 c.2
theorem fr.le {V V':View}{v:Value}{c:Rat×Rat}(h:fr V v c)(l:V.Le V'):fr V' v c:=E2.le h l
theorem I6 {b:Bool}{p:OA}{n c:Nat}{p':OA}{n' c':Nat}{d:Bool}{q:OA}{m e:Nat}{q':OA}{m' e':Nat}:∀v∈([.bool b,.slice p n c,.slice p' n' c',.bool d,.slice q m e,.slice q' m' e']:List Value),v.oneCell'=true:=by
 intro v hm
 simp only [List.mem_cons,List.not_mem_nil,or_false] at hm
 rcases hm with rfl|rfl|rfl|rfl|rfl|rfl<;>rfl
theorem ni {V:View}{p:OA}{n c:Nat}{ls:List L3}(h:cK 6 pC V p n ls)(hb:∀l∈ls,Bd l){yi ye yu:Value}(E:Er V yi ye yu) :
  ab prog 23 #[.agg #[.slice p n c]] V fun r V'=>Bk ls (r=.tuple #[.slice none 0 0,yi]) (r=.tuple #[.slice none 0 0,ye]) fun cs=>∃q m e,r=.tuple #[.slice q m e,.nilIface]/\cK 6 fr V' q m (lP (cs.map Prod.fst))/\∀x∈lP (cs.map Prod.fst),Sz 20000 x.1/\Sz 20000 x.2:=by
 refine mI p n c V _ fun V1 l1=>(fF (h.le l1 fun _ _ g=>pC.le g l1) hb (E.le l1)).mono ?_
 rintro r V2 l2 (⟨ho,rfl⟩|⟨ho,hc,rfl⟩|⟨ho,cs,hc,⟨q,m,e,rfl,hL,-⟩,hC,hl⟩)
 ·obtain ⟨i1,i2⟩:=nt E.si
  exact ⟨_,_,_,_,rfl,i1,fun _ V3 l3=>.inl ⟨ho,rfl⟩,fun hf=>by rw [i2] at hf;cases hf⟩
 ·obtain ⟨i1,i2⟩:=nt E.se
  exact ⟨_,_,_,_,rfl,i1,fun _ V3 l3=>.inr (.inl ⟨ho,hc,rfl⟩),fun hf=>by rw [i2] at hf;cases hf⟩
 ·refine ⟨_,_,_,_,rfl,fJ.1,(fun hf=>by cases hf),fun _ V4 l4=>(kd (hL.le l4 fun _ _ g=>fE.le g l4) hl).mono ?_⟩
  rintro r V5 l5 ⟨q',m',e',rfl,g⟩
  have vl:=DJ (cs.map Prod.fst)
  rw [List.length_map] at vl
  have R:∀{r:Value} {V':View},(∃q m e,r=.tuple #[.slice q m e,.nilIface]/\cK 6 fr V' q m (lP (cs.map Prod.fst))/\∀x∈lP (cs.map Prod.fst),Sz 20000 x.1/\Sz 20000 x.2)->Bk ls (r=.tuple #[.slice none 0 0,yi]) (r=.tuple #[.slice none 0 0,ye]) fun cs=>∃q m e,r=.tuple #[.slice q m e,.nilIface]/\cK 6 fr V' q m (lP (cs.map Prod.fst))/\∀x∈lP (cs.map Prod.fst),Sz 20000 x.1/\Sz 20000 x.2:=fun h=>.inr (.inr ⟨ho,cs,hc,h⟩)
  generalize lP (cs.map Prod.fst)=A at *
  have hsz:∀x∈A,Sz 20000 x.1/\Sz 20000 x.2:=fun x hx=>by
   obtain ⟨i,hi,rfl⟩:=List.mem_iff_getElem.1 hx
   obtain ⟨-,_,_,_,_,_,_,_,-,-,-,-,-,-,-,g⟩:=nF g hi
   exact g.2
  obtain rfl:=g.len
  refine ⟨_,_,_,rfl,fun z V'=>∃j:Nat,z.2.2.2=(j:Int)/\j<=A.length/\GR 6 fr V' z.1 z.2.1 z.2.2.1 (A.take j),fun z=>A.length-z.2.2.2.toNat,⟨(0,0,[],0),by and_intros<;>rfl,0,rfl,Nat.zero_le _,GR.nil⟩,?_⟩
  rintro ⟨z1,z2,vs,z4⟩ V6 l6 ⟨j,e4,EY,hg⟩
  dsimp only at e4 hg
  subst e4
  have zl:=hg.len
  rw [List.length_take] at zl
  refine ⟨rfl,fun hlt=>?_,fun hlt V9 l9 bk hbk=>?_⟩
  ·have hlt:(j:Int)<A.length:=of_decide_eq_true hlt
   have hi:j<A.length:=by omega
   have w:i64.wrap ((j:Int)+1)=((j+1:Nat):Int):=by rw [aw (by omega)];rfl
   dsimp only
   rw [Int.toNat_natCast,w]
   obtain ⟨ps,x,y,t,x',y',t',a,ha,a0,a1,a2,a3,a4,a5,gu⟩:=nF (g.le l6 fun _ _ g=>Bq.le g l6) hi
   refine ⟨ps,⟨by omega,by omega⟩,_,_,_,_,_,_,a,ha,a0,a1,a2,a3,a4,a5,fun V7 l7=>(xk (gu.1.le l7) gu.2.1 gu.2.2 (by omega)).mono ?_⟩
   rintro r V8 l8 gr
   have g0:fr V8 r A[j]:=gr
   obtain ⟨_,_,_,_,_,_,_,_,_,_,_,_,_,_,rfl,-⟩:=gr
   refine ⟨_,_,_,_,_,_,_,_,_,_,_,_,_,_,rfl,by omega,hg.le,hg.cap,rfl,I6,fun sp c' h1 h2=>⟨(z1+1,c',_,((j+1:Nat):Int)),by dsimp only;omega,by and_intros<;>rfl,j+1,rfl,hi,?_⟩⟩
   dsimp only
   rw [List.take_add_one,List.getElem?_eq_getElem hi]
   exact (hg.mono (V':=V8) fun _ _ g=>fr.le g (l7.trans l8)).snoc rfl g0 (by decide) h1 h2
  ·have hlt:¬(j:Int)<A.length:=of_decide_eq_false hlt
   obtain rfl:j=A.length:=by omega
   rw [List.take_length] at hg
   have e1:=hg.len
   refine R ⟨mA bk z2,z1,z2,rfl,?_,hsz⟩
   rw [e1]
   exact cK.fL hbk (hg.row.le fun _ _ g=>fr.le g l9) (by decide) (by have:=hg.le;omega)
theorem um {V:View}{p:OA}{n c:Nat}{ls:List L3}(h:cK 6 pC V p n ls)(hb:∀l∈ls,Bd l){yi ye yu:Value}(E:Er V yi ye yu) :
  ab prog 25 #[.agg #[.slice p n c]] V fun r V'=>Bk ls (r=.tuple #[.agg #[.bool false,.slice none 0 0,.slice none 0 0],yi]) (r=.tuple #[.agg #[.bool false,.slice none 0 0,.slice none 0 0],ye])
   fun cs=>(yY cs=false->r=.tuple #[.agg #[.bool false,.slice none 0 0,.slice none 0 0],yu])/\(yY cs=true->∃w,r=.tuple #[w,.nilIface]/\RA V' w (tw (lP (cs.map Prod.fst))*((2:Int):Rat)⁻¹)/\Sz 10000000010 (tw (lP (cs.map Prod.fst))*((2:Int):Rat)⁻¹)):=by
 refine tF p n c V _ fun V1 l1=>(fF (h.le l1 fun _ _ g=>pC.le g l1) hb (E.le l1)).mono ?_
 rintro r V2 l2 (⟨ho,rfl⟩|⟨ho,hc,rfl⟩|⟨ho,cs,hc,⟨q,m,e,rfl,hL,-⟩,hC,hl⟩)
 ·obtain ⟨i1,i2⟩:=nt E.si
  exact ⟨_,_,_,_,rfl,i1,fun _ V3 l3=>.inl ⟨ho,rfl⟩,fun hf=>by rw [i2] at hf;cases hf⟩
 ·obtain ⟨i1,i2⟩:=nt E.se
  exact ⟨_,_,_,_,rfl,i1,fun _ V3 l3=>.inr (.inl ⟨ho,hc,rfl⟩),fun hf=>by rw [i2] at hf;cases hf⟩
 ·have L2:=l1.trans l2
  refine ⟨_,_,_,_,rfl,fJ.1,(fun hf=>by cases hf),fun _ V4 l4=>(rH (hL.le l4 fun _ _ g=>fE.le g l4) hl).mono ?_⟩
  rintro r V5 l5 rfl
  refine ⟨_,rfl,fun hf=>⟨yu,⟨_,rfl,(E.le (L2.trans (l4.trans l5))).RB⟩,fun V6 l6=>.inr (.inr ⟨ho,cs,hc,fun _=>rfl,fun ht=>by rw [ht] at hf;cases hf⟩)⟩,fun hf V7 l7=>?_⟩
  have hf:yY cs=true:=by simpa using hf
  have nD:=l4.trans (l5.trans l7)
  refine (zd (hL.le nD fun _ _ g=>fE.le g nD) hl).mono ?_
  rintro r V8 l8 ⟨g,sg⟩
  have g0:=g
  obtain ⟨_,_,_,rfl⟩:=g.shape
  refine ⟨_,_,_,rfl,fun V9 l9=>(xh (g0.le l9) sg (by omega)).mono ?_⟩
  rintro r kn l10 ga
  have S4:=ga
  obtain ⟨_,_,_,_,_,_,_,rfl⟩:=ga.shape
  exact ⟨_,_,_,_,_,_,_,rfl,fun ko bR=>.inr (.inr ⟨ho,cs,hc,(fun ht=>by rw [hf] at ht;cases ht),fun _=>⟨_,rfl,S4.le bR,sg⟩⟩)⟩
theorem Ju {V:View}{v:Value}{q:Rat}(h:RA V v q){k:Nat}(hs:Sz k q)(hk:k<=274877906944):ab prog 43 #[v] V fun r V'=>RQ V' r q:=by
 obtain ⟨b,xs,ys,hr,-,e,hl⟩:=RE.raw (no:=false) ⟨(fun h=>nomatch h),fun _=>h⟩ (fun h=>nomatch h)
 obtain ⟨m1,m2⟩:=hl k hs
 have e:EC b xs ys=q:=e
 rw [←e]
 exact D2 hr (by omega) (by omega)
theorem Kl {V:View}{vs:List Value}{ls:List L3}(h:Row 6 di V vs ls){i:Nat}(hi:i<ls.length):∃b1 p1 n1 c1 b2 p2 n2 c2 b3 p3 n3 c3,i*6+6<=vs.length/\(vs.drop (i*6)).take 6=[Value.bool b1,.slice p1 n1 c1,.bool b2,.slice p2 n2 c2,.bool b3,.slice p3 n3 c3] /\
  di V (.agg #[.bool b1,.slice p1 n1 c1,.bool b2,.slice p2 n2 c2,.bool b3,.slice p3 n3 c3]) ls[i]:=by
 obtain ⟨xs,h1,h2,h3⟩:=h.at_ i hi
 have hl:=h.iN (by decide)
 have h20:=h2
 obtain ⟨_,_,_,_,_,_,_,_,_,_,_,_,e⟩:=bO h2
 have e:=congrArg Array.toList (Value.agg.inj e)
 dsimp only at e
 subst e
 refine ⟨_,_,_,_,_,_,_,_,_,_,_,_,by omega,?_,h20⟩
 apply List.ext_getElem?
 intro j
 rw [List.getElem?_take]
 split
 ·rename_i hj
  rw [List.getElem?_drop]
  exact h3 j _ (List.getElem?_eq_getElem (by show j<6;omega))▸(List.getElem?_eq_getElem (by show j<6;omega)).symm
 ·rename_i hj
  rw [List.getElem?_eq_none (by show 6<=j;omega)]
theorem xq {V:View}{p:OA}{n c:Nat}{ls:List L3}(h:cK 6 di V p n ls)(hn:ls.length<=1000000)(hs:∀l∈ls,Bd l) :
  ab prog 71 #[.slice p n c] V fun r V'=>∃q m e,r=.slice q m e/\cK 6 di V' q m ls:=by
 obtain rfl:=h.len
 refine vq p _ c V _ ⟨fun z V'=>∃j:Nat,z.2.2.2=(j:Int)/\j<=ls.length/\GR 6 di V' z.1 z.2.1 z.2.2.1 (ls.take j),fun z=>ls.length-z.2.2.2.toNat,⟨(0,0,[],0),by and_intros<;>rfl,0,rfl,Nat.zero_le _,GR.nil⟩,?_⟩
 rintro ⟨z1,z2,vs,z4⟩ V1 l1 ⟨j,e4,EY,hg⟩
 dsimp only at e4 hg
 subst e4
 have zl:=hg.len
 rw [List.length_take] at zl
 refine ⟨rfl,fun hlt=>?_,fun hlt V4 l4 bk hb=>?_⟩
 ·have hlt:(j:Int)<ls.length:=of_decide_eq_true hlt
  have hi:j<ls.length:=by omega
  obtain ⟨ad,ha,xs,-,hf,hat⟩:=(h.le l1 fun _ _ g=>di.le g l1).at_ j hi
  have hf0:=hf
  obtain ⟨_,_,_,_,_,_,_,_,_,_,_,_,ex⟩:=bO hf
  have ex:=congrArg Array.toList (Value.agg.inj ex)
  dsimp only at ex
  subst ex
  have w:i64.wrap ((j:Int)+1)=((j+1:Nat):Int):=by rw [aw (by omega)];rfl
  dsimp only
  rw [Int.toNat_natCast,w]
  obtain ⟨d1,d2,d3⟩:=(hs _ (List.getElem_mem hi)).ag
  refine ⟨kJ ha,⟨by omega,by omega⟩,_,_,_,_,_,_,_,_,_,_,_,_,ad,ha,hat 0 _ rfl,hat 1 _ rfl,hat 2 _ rfl,hat 3 _ rfl,hat 4 _ rfl,hat 5 _ rfl,fun V2 l2=>(zv (hf0.le l2) (by omega) (by omega) (by omega)).mono ?_⟩
  rintro r V3 l3 g
  have g0:di V3 r ls[j]:=g
  obtain ⟨_,_,_,_,_,_,_,_,_,_,_,_,rfl⟩:=bO g0
  refine ⟨_,_,_,_,_,_,_,_,_,_,_,_,rfl,by omega,hg.le,hg.cap,rfl,H6,fun sp c' h1 h2=>⟨(z1+1,c',_,((j+1:Nat):Int)),by dsimp only;omega,by and_intros<;>rfl,j+1,rfl,hi,?_⟩⟩
  dsimp only
  rw [List.take_add_one,List.getElem?_eq_getElem hi]
  exact (hg.mono (V':=V3) fun _ _ g=>di.le g (l2.trans l3)).snoc rfl g0 (by decide) h1 h2
 ·have hlt:¬(j:Int)<ls.length:=of_decide_eq_false hlt
  obtain rfl:j=ls.length:=by omega
  rw [List.take_length] at hg
  obtain rfl:=hg.len
  exact ⟨_,_,_,rfl,cK.fL hb (hg.row.le fun _ _ g=>di.le g l4) (by decide) hg.le⟩
theorem rM {V:View}{p:OA}{n c:Nat}{q:OA}{m d:Nat}{A:List L3}(hA:cK 6 di V p n A)(hB:cK 6 di V q m A)(hn:A.length<=1000000)(hs:∀l∈A,Bd l) :
  ab prog 111 #[.slice p n c,.slice q m d] V fun r V'=>r=.bool true:=by
 obtain rfl:=hA.len
 obtain rfl:=hB.len
 refine qH p _ c q _ d V _ ⟨fun h=>by simp at h,fun _=>⟨fun z V'=>∃j:Nat,z=(j:Int)/\j<=A.length,fun z=>A.length-z.toNat,⟨0,by and_intros<;>rfl,0,rfl,Nat.zero_le _⟩,?_⟩⟩
 rintro z V2 l2 ⟨j,rfl,EY⟩
 refine ⟨rfl,fun hlt=>?_,fun hlt V6 l6=>rfl⟩
 have hlt:(j:Int)<A.length:=of_decide_eq_true hlt
 have hi:j<A.length:=by omega
 obtain ⟨ad,ha,xs,-,hf,hat⟩:=(hA.le l2 fun _ _ g=>di.le g l2).at_ j hi
 obtain ⟨N4,ha',ys,-,hf',hat'⟩:=(hB.le l2 fun _ _ g=>di.le g l2).at_ j hi
 have hf0:=hf
 have OL:=hf'
 obtain ⟨_,_,_,_,_,_,_,_,_,_,_,_,ex⟩:=bO hf
 obtain ⟨_,_,_,_,_,_,_,_,_,_,_,_,ey⟩:=bO hf'
 have ex:=congrArg Array.toList (Value.agg.inj ex)
 have ey:=congrArg Array.toList (Value.agg.inj ey)
 dsimp only at ex ey
 subst ex ey
 have w:i64.wrap ((j:Int)+1)=((j+1:Nat):Int):=by rw [aw (by omega)];rfl
 rw [Int.toNat_natCast,w]
 obtain ⟨d1,d2,d3⟩:=(hs _ (List.getElem_mem hi)).ag
 refine ⟨kJ ha,⟨by omega,by omega⟩,_,_,_,_,_,_,_,_,_,_,_,_,ad,ha,hat 0 _ rfl,hat 1 _ rfl,hat 2 _ rfl,hat 3 _ rfl,hat 4 _ rfl,hat 5 _ rfl,kJ ha',⟨by omega,by omega⟩,_,_,_,_,_,_,_,_,_,_,_,_,N4,ha',hat' 0 _ rfl,hat' 1 _ rfl,hat' 2 _ rfl,hat' 3 _ rfl,hat' 4 _ rfl,hat' 5 _ rfl,fun V3 l3=>(uw (hf0.le l3) (OL.le l3) (by omega) (by omega) (by omega)).mono ?_⟩
 rintro r V4 l4 rfl
 rw [decide_eq_true ⟨rfl,rfl,rfl⟩]
 exact ⟨_,rfl,(fun h=>nomatch h),fun _=>⟨((j+1:Nat):Int),by dsimp only;omega,by and_intros<;>rfl,j+1,rfl,hi⟩⟩
end Go.Proofs.Tryz
