import Derived.Test.YtdhlkpfmlimjfaaGreatDoorN11
import Derived.Laws.IdiomCopy
import Derived.Lib.Overlaps
import Derived.Lib.JoinLaws
import Derived.Lib.AppendZerosOnto
import Derived.Test.YtdhlkpfmlimjfaaGreatDoorN6
import Derived.Shelf.RegionOpenPlain
import Derived.Lib.Walk
import Derived.Lib.SliceRun
import Derived.Laws.NewBlocks
import Derived.Test.YtdhlkpfmlimjfaaGreatDoorN16
import Derived.Test.YtdhlkpfmlimjfaaGreatDoorN15
import Derived.Test.YtdhlkpfmlimjfaaGreatDoorN9
import Derived.Test.YtdhlkpfmlimjfaaGreatDoorN17
import Derived.Test.YtdhlkpfmlimjfaaGreatDoorN14
import Derived.Test.YtdhlkpfmlimjfaaGreatDoorN8
set_option linter.unusedVariables false
open Go.IntKind (i64 u64 u32)
namespace Go.Eng
open Go.Lib
variable {P:Program}
theorem jv (w:World)(dT sT ty elem:TypeId)(sz b o dLen dCap:Nat)(a:Addr)(sLen sCap:Nat)(cs:List Value)
  (hu:P.underlying dT=some (.slice elem))(hs:(P.info? elem).map (·.size)=some sz)(hn:cs.length=Nat.min sLen dLen*sz)
  (hsrc:∀j v,cs[j]?=some v->w.cell? (a.add j)=some v)(hc:∀j,j<cs.length->(w.cell? ⟨b,o+j,none⟩).isSome=true)(hf:∀j,j<cs.length->w.frozen? ⟨b,o+j,none⟩=false)(h1:∀v∈cs,v.oneCell'=true) :
  (Builtin.copy_ #[dT,sT] ty #[.slice (some ⟨b,o,none⟩) dLen dCap,.slice (some a) sLen sCap]).run P w=.ok (goInt (Nat.min sLen dLen)) (w.setCells b o cs):=by
 have d:=run_loadCells_list (P:=P) w a cs hsrc;have c:=run_storeCells_cells (P:=P) b o cs 0 w (by simpa using hc) (by simpa using hf) h1
 cases hq:P.info? elem with
 | none=>simp [hq] at hs
 | some i=>
  have e:i.size=sz:=by simpa [hq] using hs
  simp [Builtin.copy_,run_underlying hu,Builtin.lenOf,Builtin.firstCells,sizeOf,typeInfo,hq,e,←hn,d,c]
theorem Bc (w:World){o:Oper}{a:Act}{K:Act->World->Prop}{Q:Exit->Act->World->Prop}(d s:Operand)(t t':TypeId)
  (ho:o.op=.call { callee:=.builtin .copy,args:=#[d,s],argTypes:=#[t,t'] })(v u:Value)(hd:a.eval d=v)(hs:a.eval s=u){v':Value}{w':World}
  (hr:(Builtin.copy_ #[t,t'] o.type #[v,u]).run P w=.ok v' w')(h:K (a.put o.dst v') w'):o.wp P a w K Q:=by
 unfold Oper.wp execOp;simp only [ho,resolve,invoke,builtin,Sem.run_bind,Sem.run_pure,Result.andThen_ok,List.map_toArray,List.map_cons,List.map_nil,hd,hs,hr];exact h
theorem kn (w:World){ops:Array Oper}{rest:List Oper}{o:Oper}{a:Act}{Q:Exit->Act->World->Prop}(hgd:o.guard=none)(d s:Operand)(t t':TypeId)
  (ho:o.op=.call { callee:=.builtin .copy,args:=#[d,s],argTypes:=#[t,t'] })(v u:Value)(hd:a.eval d=v)(hs:a.eval s=u){v':Value}{w':World}
  (hr:(Builtin.copy_ #[t,t'] o.type #[v,u]).run P w=.ok v' w')(h:wpList P ops Q rest (a.put o.dst v') w'):wpList P ops Q (o::rest) a w:=
 wpList_plain hgd fun _ b=>Bc w d s t t' ho v u hd hs hr (b _ _ h)
theorem mh {ops:Array Oper}{o:Oper}{a:Act}{w:World}{K:Act->World->Prop}{Q:Exit->Act->World->Prop}{E:Prop}
  (hg:o.guard=none)(d x:Operand)(dT sT:TypeId)(hop:o.op=Op.call { callee:=Callee.builtin Builtin.copy,args:=#[d,x],argTypes:=#[dT,sT] })
  (v u:Value)(hd:a.eval d=v)(hx:a.eval x=u){v':Value}{w':World}(hr:(Builtin.copy_ #[dT,sT] o.type #[v,u]).run P w=.ok v' w')(hK:K (a.put o.dst v') w') :
  if Region.wanted o (yielded ops a.tmps)=true then Oper.wp P o a w K Q else E:=by
 have hw:Region.wanted o (yielded ops a.tmps)=true:=by simp [Region.wanted,hg]
 rw [if_pos hw];unfold Oper.wp;simp [execOp,hop,resolve,invoke,builtin,hd,hx,hr,Result.andThen];exact hK
theorem fl {w:World}{b o:Nat}{vs:List Value}{ty:TypeId}(h:w.heap[b]?=some (.cells vs.toArray ty (0,0))):w.frozen? ⟨b,o,none⟩=false:=by simp [World.frozen?,h]
theorem zh {w:World}{b:Nat}{vs:List Value}{ty:TypeId}(h:w.heap[b]?=some (.cells vs.toArray ty (0,0))):w.shape? b=some (ty,vs.length):=by simp [World.shape?,h]
theorem bK {w:World}{b o:Nat}{vs:List Value}{ty:TypeId}(h:w.heap[b]?=some (.cells vs.toArray ty (0,0))):w.cell? ⟨b,o,none⟩=vs[o]?:=cell_of_row h
theorem uC (X:Nat->Prop)(w:World):eK X w w.drew:=⟨Nat.le_refl _,fun _ _ _=>rfl,rfl,rfl,rfl⟩
theorem qA (X:Nat->Prop)(w:World)(o:Obj):eK X w (w.alloc o):=⟨by rw [show (w.alloc o).heap.size=w.heap.size+1 from Array.size_push ..];omega,fun b a _=>bO w o a,rfl,rfl,rfl⟩
theorem D0 {w:World}{g:Nat}{old cs:Array Value}{ty:TypeId}(h:w.heap[g]?=some (.cells old ty (0,0))):eK (·=g) w (w.setRow g cs):=by
 refine ⟨?_,fun b c a=>?_,?_,?_,?_⟩
 ·rw [dM h,Array.size_setIfInBounds];exact Nat.le_refl _
 ·rw [dM h,Array.getElem?_setIfInBounds_ne (fun e=>a e.symm)]
 all_goals simp [World.setRow,h]
theorem cC {b:Nat}{ty:TypeId}:∀(xs:List Value)(o:Nat)(vs:List Value)(w:World),w.heap[b]?=some (.cells vs.toArray ty (0,0))->o+xs.length<=vs.length ->
  (w.setCells b o xs).heap[b]?=some (.cells (vs.take o++xs++vs.drop (o+xs.length)).toArray ty (0,0))/\eK (·=b) w (w.setCells b o xs)
 | [],o,vs,w,h,hl=>⟨by rw [World.setCells,List.append_nil,List.length_nil,Nat.add_zero,List.take_append_drop];exact h,eK.refl _ _⟩
 | x::xs,o,vs,w,h,hl=>by
  rw [List.length_cons] at hl;have e1:w.setCell ⟨b,o,none⟩ x=w.setRow b (vs.toArray.setIfInBounds o x):=setCell_eq_setRow w b o vs.toArray ty (0,0) x h;have a:vs.toArray.setIfInBounds o x=(vs.set o x).toArray:=by simp
  rw [World.setCells,e1,a];have c:(w.setRow b (vs.set o x).toArray).heap[b]?=some (.cells (vs.set o x).toArray ty (0,0)):=setRow_heap w b vs.toArray _ ty (0,0) h;obtain ⟨d,e⟩:=cC xs (o+1) (vs.set o x) _ c (by rw [List.length_set];omega);refine ⟨?_,(D0 h).trans e⟩;rw [d];congr 3;rw [List.take_set,List.take_add_one,List.getElem?_eq_getElem (by omega),List.drop_set_of_lt (by omega),List.length_cons,show o+1+xs.length=o+(xs.length+1) by omega];rw [List.set_append_right _ _ (by rw [List.length_take];omega),List.length_take,Nat.min_eq_left (by omega),Nat.sub_self];simp
end Go.Eng
namespace Go.Proofs.Tryz
open Go.Eng Go.RowKit Go.Lib
theorem oY:∃i z,prog.info? 193=some i/\i.zero=some z/\i.size=17/\i.bytes=128/\z.cells.size=17:=by
 have h:=iY 193 _ rfl;unfold j9 at h;split at h
 ·rename_i i d a c;split at h
  ·rename_i z b;have h:=Option.some.inj h;injection h with h1 h2 h3 h4;refine ⟨i,z,a,b,h2,h3,?_⟩;have:=congrArg List.length h4;rw [List.length_map,Array.length_toList] at this;rw [this];rfl
  ·cases h
 ·cases h
theorem dC (b o j:Nat):(⟨b,o,none⟩:Addr).add j=⟨b,o+j,none⟩:=by
 unfold Addr.add;split
 ·rename_i h;subst h;rfl
 ·rfl
theorem Mq (w:World){t:TypeId}{i:TypeInfo}(h:prog.info? t=some i):(Go.sizeOf t).run prog w=.ok i.size w:=by
 simp [sizeOf,typeInfo,h]
set_option maxHeartbeats 4000000 in
set_option maxRecDepth 100000 in
theorem GJ (b n c i vb:Nat)(cs vs:List Value)(w:World)(hi:i<n)(hroom:n+1<=c)(hn63:n<=1000000)(hvb:vb≠b)(hcl:c*17<=cs.length)(hvl:vs.length=17)
  (hb:w.heap[b]?=some (.cells cs.toArray 193 (0,0)))(hv:w.heap[vb]?=some (.cells vs.toArray 193 (0,0)))
  (h1c:∀v∈(cs.take (n*17)).drop (i*17),v.oneCell'=true)(h1v:∀v∈vs,v.oneCell'=true) :
  Calls prog 172 #[.slice (some ⟨b,0,none⟩) n c,.int .i64 i,.slice (some ⟨vb,0,none⟩) 1 1] w fun e w'=>
   e=.returned (.slice (some ⟨b,0,none⟩) (n+1) c)/\w'=(w.drew.setCells b ((i+1)*17) ((cs.take (n*17)).drop (i*17))).setCells b (i*17) vs:=by
 obtain ⟨X,z,G,Y,H,Z,e5⟩:=oY;have K:¬((i:Int)=(n:Int)):=by omega
 have q:(prog.info? 193).map (·.size)=some 17:=by rw [G];simp [H]
 have y:=underlying112;have I:=underlying111;have L:∀w,(Go.sizeOf 193).run prog w=.ok 17 w:=fun w=>by rw [Mq w G,H]
 have ru:=run_underlying y;have rv:=run_underlying I
 have A:∀lb B,(callFunc 217 #[.slice (some ⟨vb,0,none⟩) 1 1,.slice (some ⟨b,(i+1)*17,none⟩) lb B]).run prog w=.ok (.value (.bool false)) w:=fun lb B=>by
  rw [run_callFunc_extern func217 (by kernel_rfl) (by kernel_rfl) (by kernel_rfl) (e:=Extern.SlicesOverlaps.overlaps #[111,111] #[4]) (by kernel_rfl),
   Lib.run_overlaps_apart w 111 4 193 I 17 L ⟨vb,0,none⟩ ⟨b,(i+1)*17,none⟩ 1 1 lb B hvb _ _ _ _ (zh hv) (zh hb) (by omega) (fl hv) (fl hv)]
  rfl
 obtain ⟨a,d⟩:∃a,a=(cs.take (n*17)).drop (i*17):=⟨_,rfl⟩;rw [←d] at h1c ⊢;have g:a.length=(n-i)*17:=by rw [d,List.length_drop,List.length_take];omega
 have l:∀(W:World)(o:Nat),W.heap[b]?=some (.cells cs.toArray 193 (0,0))->o<cs.length->(W.cell? ⟨b,o,none⟩).isSome=true:=fun W o M N=>by rw [bK M,List.getElem?_eq_getElem N];rfl
 have h:(w.drew).heap[b]?=some (.cells cs.toArray 193 (0,0)):=hb;have r:∀x:Nat,Nat.min (n+1-i) (n+1-(i+1))=n-i:=fun _=>by simp only [Nat.min_def];split<;>omega
 have k:∀ty m C,(Builtin.copy_ #[112,112] ty #[.slice (some ⟨b,(i+1)*17,none⟩) (n+1-(i+1)) m,.slice (some ⟨b,i*17,none⟩) (n+1-i) C]).run prog w.drew=  .ok (goInt ((n-i:Nat):Int)) (w.drew.setCells b ((i+1)*17) a):=fun ty m C=>by
  have:=jv (P:=prog) w.drew 112 112 ty 193 17 b ((i+1)*17) (n+1-(i+1)) m ⟨b,i*17,none⟩ (n+1-i) C a y q (by rw [r 0,g])
   (fun j v f=>by
    rw [dC b,bK h];rw [d,List.getElem?_drop,List.getElem?_take] at f;split at f
    ·exact f
    ·cases f)
   (fun j f=>l _ _ h (by rw [g] at f;omega)) (fun j f=>fl h) h1c
  rw [r 0] at this;exact this
 obtain ⟨u,D⟩:=cC a ((i+1)*17) cs w.drew h (by rw [g];omega);obtain ⟨p,s⟩:∃p,p=w.drew.setCells b ((i+1)*17) a:=⟨_,rfl⟩;rw [←s] at k u D ⊢;have J:Nat.min 1 (n+1-i)=1:=by simp only [Nat.min_def];split<;>omega
 have E:vb<w.heap.size:=(Array.getElem?_eq_some_iff.1 hv).1;have F:p.heap[vb]?=some (.cells vs.toArray 193 (0,0)):=by rw [D.aS vb E hvb];exact hv
 have t:∀ty m,(Builtin.copy_ #[112,111] ty #[.slice (some ⟨b,i*17,none⟩) (n+1-i) m,.slice (some ⟨vb,0,none⟩) 1 1]).run prog p=.ok (goInt 1) (p.setCells b (i*17) vs):=fun ty m=>by
  have:=jv (P:=prog) p 112 111 ty 193 17 b (i*17) (n+1-i) m ⟨vb,0,none⟩ 1 1 vs y q (by rw [J,hvl])
   (fun j v f=>by rw [dC vb,Nat.zero_add,bK F];exact f)
   (fun j f=>by rw [bK u,List.getElem?_eq_getElem (by rw [hvl] at f;simp only [List.length_append,List.length_take,List.length_drop,g];omega)];rfl) (fun j f=>fl u) h1v
  rw [J] at this;exact this
 clear u D d h1c s;have mixed:=mixed;have O:i64.wrap ((i:Int)+1)=(i:Int)+1:=by rw [IntKind.wrap_i64];omega
 have Q:(0:Int)<=(i:Int)+1:=by omega
 have R:i<=n:=by omega
 have S:((i:Int)+1).toNat=i+1:=by omega
 have T:¬(c=i+1):=by omega
 have U:(i:Int)<=(n:Int)+1:=by omega
 have V:¬(c=i):=by omega
 go_enter func172,ntmps172
 go_wp2_with (simp only [A])
 go_region_law_o (refine mh rfl _ _ 112 112 rfl (.slice (some ⟨b,(i+1)*17,none⟩) (n+1-(i+1)) (c-(i+1))) (.slice (some ⟨b,i*17,none⟩) (n+1-i) (c-i)) (by simp [Act.eval,Act.put]) (by simp [Act.eval,Act.put]) (k 3 _ _) ?_)
 go_wp2_with (at_builtin;refine kn _ rfl _ _ 112 111 rfl _ _ rfl rfl (t _ _) ?_)
 go_ret
 exact ⟨rfl,rfl⟩
set_option maxHeartbeats 4000000 in
set_option maxRecDepth 100000 in
theorem KY (b n c vb:Nat)(cs vs:List Value)(w:World)(hroom:n+1<=c)(hn63:n<=1000000)(hcl:c*17<=cs.length)(hvl:vs.length=17)
  (hb:w.heap[b]?=some (.cells cs.toArray 193 (0,0)))(hv:w.heap[vb]?=some (.cells vs.toArray 193 (0,0)))(h1v:∀v∈vs,v.oneCell'=true) :
  Calls prog 172 #[.slice (some ⟨b,0,none⟩) n c,.int .i64 n,.slice (some ⟨vb,0,none⟩) 1 1] w fun e w'=>
   e=.returned (.slice (some ⟨b,0,none⟩) (n+1) c)/\w'=w.setCells b (0+n*17) vs:=by
 obtain ⟨d,z,k,o,g,p,q⟩:=oY;have h:=underlying112;have i:=underlying111;have r:=run_underlying h;have s:=run_underlying i;have mixed:=mixed;have a:Src prog d.size 111 (.slice (some ⟨vb,0,none⟩) 1 1) 1 vs w:=Src.ofSlice w i ⟨vb,0,none⟩ 1 1 vs (by rw [g,hvl]) (fun j u f=>by rw [dC vb,Nat.zero_add,bK hv];exact f) h1v;have l:∀j,j<vs.length->(w.cell? ⟨b,0+n*d.size+j,none⟩).isSome=true:=fun j f=>by rw [bK hb,g,List.getElem?_eq_getElem (by rw [hvl] at f;omega)];rfl
 have m:∀j,j<vs.length->w.frozen? ⟨b,0+n*d.size+j,none⟩=false:=fun j f=>fl hb
 go_enter func172,ntmps172
 go_wp2_with (at_builtin;refine wpList_append_room_src _ rfl _ _ 112 111 rfl 193 d h k b 0 n c rfl _ rfl 1 vs a hroom l m ?_)
 go_ret
 exact ⟨rfl,by rw [Nat.zero_add]⟩
set_option maxHeartbeats 4000000 in
set_option maxRecDepth 100000 in
theorem Ad (b n c vb:Nat)(cs vs:List Value)(w:World)(hnc:n<=c)(hroom:c<n+1)(hn63:n<=1000000)(hcl:c*17<=cs.length)(hvl:vs.length=17)
  (hb:w.heap[b]?=some (.cells cs.toArray 193 (0,0)))(hv:w.heap[vb]?=some (.cells vs.toArray 193 (0,0)))(h1v:∀v∈vs,v.oneCell'=true) :
  ∃z:Array Value,z.size=17/\Calls prog 172 #[.slice (some ⟨b,0,none⟩) n c,.int .i64 n,.slice (some ⟨vb,0,none⟩) 1 1] w fun e w'=>
   e=.returned (.slice (some ⟨w.heap.size,0,none⟩) (n+1) (grownCap w (n+1) c 193)) /\
   w'=w.drew.alloc (.cells ((cs.take (n*17)++vs).toArray++Builtin.zeroCells z (grownCap w (n+1) c 193-(n+1))) 193):=by
 obtain ⟨k,z,s,t,o,x,p⟩:=oY;refine ⟨z.cells,p,?_⟩;have q:=underlying112;have r:=underlying111;have y:=run_underlying q;have A:=run_underlying r;have mixed:=mixed;have g:Src prog k.size 111 (.slice (some ⟨vb,0,none⟩) 1 1) 1 vs w:=Src.ofSlice w r ⟨vb,0,none⟩ 1 1 vs (by rw [o,hvl]) (fun j u f=>by rw [dC vb,Nat.zero_add,bK hv];exact f) h1v;have l:(w.drew).heap[b]?=some (.cells cs.toArray 193 (0,0)):=hb
 have hold:(Builtin.firstCells k.size n (.slice (some ⟨b,0,none⟩) n c)).run prog w.drew=.ok (cs.take (n*17)).toArray w.drew:=by
  rw [o]
  exact run_firstCells_some w.drew 17 n ⟨b,0,none⟩ n c (cs.take (n*17)) (by rw [List.length_take];omega) (fun j v f=>by
   rw [dC b,Nat.zero_add,bK l];rw [List.getElem?_take] at f;split at f
   ·exact f
   ·cases f)
 have a:∀ty,(Builtin.append_ #[112,111] ty #[.slice (some ⟨b,0,none⟩) n c,.slice (some ⟨vb,0,none⟩) 1 1]).run prog w=_:=fun ty=>
  run_append_grow_src w 112 111 ty 193 k z q s t (some ⟨b,0,none⟩) n c (cs.take (n*17)) hold _ 1 vs g hroom (by omega) (by rw [x];exact growslice_fits hroom (by omega))
 obtain ⟨m,h⟩:∃m,m=z.cells:=⟨_,rfl⟩;rw [←h] at a ⊢;obtain ⟨i,d⟩:∃i:Array Value,i=(cs.take (n*17)++vs).toArray++Builtin.zeroCells m (grownCap w (n+1) c 193-(n+1)):=⟨_,rfl⟩;rw [←d] at a ⊢;clear h p hold d
 go_enter func172,ntmps172
 go_wp2_with (at_builtin;refine Lib.wpList_append_run _ rfl _ _ _ _ rfl _ _ rfl rfl _ _ (a _) ?_)
 all_goals (go_ret;exact ⟨rfl,rfl⟩)
set_option maxHeartbeats 4000000 in
set_option maxRecDepth 100000 in
theorem IE (b n c i vb:Nat)(cs vs:List Value)(w:World)(hi:i<n)(hnc:n<=c)(hroom:c<n+1)(hn63:n<=1000000)(hvb:vb≠b)(hcl:c*17<=cs.length)(hvl:vs.length=17)
  (hb:w.heap[b]?=some (.cells cs.toArray 193 (0,0)))(hv:w.heap[vb]?=some (.cells vs.toArray 193 (0,0)))
  (h1c:∀v∈(cs.take (n*17)).drop (i*17),v.oneCell'=true)(h1v:∀v∈vs,v.oneCell'=true) :
  ∃z:Array Value,z.size=17/\Calls prog 172 #[.slice (some ⟨b,0,none⟩) n c,.int .i64 i,.slice (some ⟨vb,0,none⟩) 1 1] w fun e w'=>
   e=.returned (.slice (some ⟨w.heap.size,0,none⟩) (n+1) (grownCap w (n+1) c 193)) /\
   w'=(((w.alloc (.cells ((cs.take (i*17)).toArray++Builtin.zeroCells z (n+1-i)++Builtin.zeroCells z (grownCap w (n+1) c 193-(n+1))) 193)).drew.setCells w.heap.size (i*17) vs).drew).setCells w.heap.size ((i+1)*17) ((cs.take (n*17)).drop (i*17)):=by
 obtain ⟨X,z,I,e2,J,Y,D⟩:=oY;refine ⟨z.cells,D,?_⟩;have E:=underlying112;have uV:=underlying111;have uI:=underlying3;have ru:=run_underlying E;have rv:=run_underlying uV;have rz:∀w,(Go.sizeOf 193).run prog w=.ok 17 w:=fun w=>by rw [Mq w I,J]
 have mixed:=mixed;have a2:¬((i:Int)=(n:Int)):=by omega
 have a3:(c:Int)<(n:Int)+1:=by omega
 have A:(prog.info? 193).map (·.size)=some 17:=by rw [I];simp [J]
 have K:b<w.heap.size:=(Array.getElem?_eq_some_iff.1 hb).1;have L:vb<w.heap.size:=(Array.getElem?_eq_some_iff.1 hv).1;have B:(n:Int)+1-(i:Int)=((n+1-i:Nat):Int):=by omega
 have s:i+(n+1-i)=n+1:=by omega
 have M:(w.drew).heap[b]?=some (.cells cs.toArray 193 (0,0)):=hb
 have hold:(Builtin.firstCells X.size i (.slice (some ⟨b,0,none⟩) i c)).run prog w.drew=.ok (cs.take (i*17)).toArray w.drew:=by
  rw [J]
  exact run_firstCells_some w.drew 17 i ⟨b,0,none⟩ i c (cs.take (i*17)) (by rw [List.length_take];omega) (fun j v d=>by
   rw [dC b,Nat.zero_add,bK M];rw [List.getElem?_take] at d;split at d
   ·exact d
   ·cases d)
 obtain ⟨p,t⟩:∃p,p=z.cells:=⟨_,rfl⟩;rw [←t] at D ⊢
 have o:∀ty,(Builtin.append_ #[112,3] ty #[.slice (some ⟨b,0,none⟩) i c,.int .i64 ((n:Int)+1-(i:Int))]).run prog w =
   .ok (.slice (some ⟨w.heap.size,0,none⟩) (n+1) (grownCap w (n+1) c 193)) (w.drew.alloc (.cells ((cs.take (i*17)).toArray++Builtin.zeroCells p (n+1-i)++Builtin.zeroCells p (grownCap w (n+1) c 193-(n+1))) 193)):=fun ty=>by
  have h:=Lib.run_append_grow_zeros w 112 3 ty 193 X z .i64 .i64 E uI I e2 (some ⟨b,0,none⟩) i c (cs.take (i*17)) hold (n+1-i) (by omega) (by omega) (by omega) (by omega) (by rw [Y];omega) (by rw [Y,s];exact growslice_fits hroom (by omega));rw [s,←t] at h;rw [B];exact h
 obtain ⟨G,F⟩:∃G,G=grownCap w (n+1) c 193:=⟨_,rfl⟩;obtain ⟨a,k⟩:∃a:List Value,a.toArray=(cs.take (i*17)).toArray++Builtin.zeroCells p (n+1-i)++Builtin.zeroCells p (G-(n+1)):=⟨((cs.take (i*17)).toArray++Builtin.zeroCells p (n+1-i)++Builtin.zeroCells p (G-(n+1))).toList,by simp⟩;rw [←F] at o ⊢;rw [←k] at o ⊢
 have N:(n+1)*17<=a.length:=by
  have:=congrArg Array.size k;simp [Builtin.zeroCells,D] at this;omega
 obtain ⟨l,g⟩:∃l,l=(cs.take (n*17)).drop (i*17):=⟨_,rfl⟩;rw [←g] at h1c ⊢;have u:l.length=(n-i)*17:=by rw [g,List.length_drop,List.length_take];omega
 obtain ⟨q,f⟩:∃q,q=w.drew.alloc (.cells a.toArray 193):=⟨_,rfl⟩;rw [←f] at o;have H:q.heap[w.heap.size]?=some (.cells a.toArray 193 (0,0)):=by rw [f];exact Array.getElem?_push_size
 have O:q.heap[b]?=some (.cells cs.toArray 193 (0,0)):=by rw [f];exact (bO w.drew _ K).trans hb
 have Z:q.heap[vb]?=some (.cells vs.toArray 193 (0,0)):=by rw [f];exact (bO w.drew _ L).trans hv
 have Q:Nat.min 1 (n+1-i)=1:=by simp only [Nat.min_def];split<;>omega
 have m:∀(W:World),W.heap=q.heap->∀ty x,(Builtin.copy_ #[112,111] ty #[.slice (some ⟨w.heap.size,i*17,none⟩) (n+1-i) x,.slice (some ⟨vb,0,none⟩) 1 1]).run prog W=.ok (goInt 1) (W.setCells w.heap.size (i*17) vs):=fun W y ty x=>by
  have:=jv (P:=prog) W 112 111 ty 193 17 w.heap.size (i*17) (n+1-i) x ⟨vb,0,none⟩ 1 1 vs E A (by rw [Q,hvl])
   (fun j v d=>by rw [dC vb,Nat.zero_add,bK (by rw [y];exact Z)];exact d)
   (fun j d=>by rw [bK (by rw [y];exact H),List.getElem?_eq_getElem (by omega)];rfl) (fun j d=>fl (by rw [y];exact H)) h1v
  rw [Q] at this;exact this
 have R:b≠w.heap.size:=by omega
 have S:Nat.min (n-i) (n+1-(i+1))=n-i:=by simp only [Nat.min_def];split<;>omega
 have r:∀(W:World),W.heap=q.heap->∀ty x T,(Builtin.copy_ #[112,112] ty #[.slice (some ⟨w.heap.size,(i+1)*17,none⟩) (n+1-(i+1)) x,.slice (some ⟨b,i*17,none⟩) (n-i) T]).run prog (W.setCells w.heap.size (i*17) vs).drew=.ok (goInt ((n-i:Nat):Int)) ((W.setCells w.heap.size (i*17) vs).drew.setCells w.heap.size ((i+1)*17) l):=fun W y ty x T=>by
  obtain ⟨g1,g2⟩:=cC vs (i*17) a W (by rw [y];exact H) (by omega)
  have U:(W.setCells w.heap.size (i*17) vs).drew.heap[b]?=some (.cells cs.toArray 193 (0,0)):=by
   have:=g2.aS b (by rw [y];exact (Array.getElem?_eq_some_iff.1 O).1) R;rw [y,O] at this;exact this
  have C:(W.setCells w.heap.size (i*17) vs).drew.heap[w.heap.size]?=_:=g1
  have:=jv (P:=prog) (W.setCells w.heap.size (i*17) vs).drew 112 112 ty 193 17 w.heap.size ((i+1)*17) (n+1-(i+1)) x ⟨b,i*17,none⟩ (n-i) T l E A (by rw [S,u])
   (fun j v d=>by
    rw [dC b,bK U];rw [g,List.getElem?_drop,List.getElem?_take] at d;split at d
    ·exact d
    ·cases d)
   (fun j d=>by rw [bK C,List.getElem?_eq_getElem (by rw [u] at d;simp only [List.length_append,List.length_take,List.length_drop,hvl];omega)];rfl) (fun j d=>fl C) h1c
  rw [S] at this;exact this
 have a4:n+1<=G:=by rw [F];exact grownCap_ge w _ _ _
 have a0:G<=9223372036854775807:=by
  have:=grownCap_le_maxLen w (n+1) c 193 (by unfold maxLen;omega);rw [←F] at this;unfold maxLen at this;omega
 have a5:¬(G=i):=by omega
 have a1:¬(G=i+1):=by omega
 have a6:¬(c=i):=by omega
 have hA:=m ((w.alloc (.cells a.toArray 193)).drew) (by rw [f];rfl);have a7:=m q rfl;have V:=r ((w.alloc (.cells a.toArray 193)).drew) (by rw [f];rfl);subst f;have a8:i64.wrap ((i:Int)+1)=(i:Int)+1:=by rw [IntKind.wrap_i64];omega
 have a9:i64.wrap ((n:Int)+1)=(n:Int)+1:=by rw [IntKind.wrap_i64];omega
 have b0:(0:Int)<=(i:Int)+1:=by omega
 have b1:i<=n:=by omega
 have b2:((i:Int)+1).toNat=i+1:=by omega
 have b3:(i:Int)<=(n:Int):=by omega
 clear B s hold k F N m r H O Z t D g h1c Q S u
 go_enter func172,ntmps172
 go_wp2_with (first
  | (at_builtin;refine Lib.wpList_append_run _ rfl _ _ _ _ rfl _ _ rfl rfl _ _ (o _) ?_)
  | (at_builtin;refine kn _ rfl _ _ 112 111 rfl _ _ rfl rfl (hA _ _) ?_))
 go_region_law_o (refine mh rfl _ _ 112 112 rfl (.slice (some ⟨w.heap.size,(i+1)*17,none⟩) (n+1-(i+1)) (G-(i+1))) (.slice (some ⟨b,i*17,none⟩) (n-i) (c-i)) (by simp [Act.eval,Act.put]) (by simp [Act.eval,Act.put]) (V 3 (G-(i+1)) (c-i)) ?_)
 go_wp2
 go_ret
 exact ⟨rfl,rfl⟩
end Go.Proofs.Tryz
namespace Go.Proofs.Tryz
open Go.Eng
theorem N6 {α:Type}{A B:List α}{k:Nat}(h:k<=A.length):(A.take k++B).drop k=B:=by
 rw [List.drop_append_of_le_length (by rw [List.length_take];omega),List.drop_eq_nil_of_le (by rw [List.length_take];omega),List.nil_append]
theorem QB {α:Type}{A B:List α}{j k:Nat}(hj:j<=k)(h:k<=A.length):(A.take k++B).take j=A.take j:=by
 rw [List.take_append_of_le_length (by rw [List.length_take];omega),List.take_take,Nat.min_eq_left hj]
theorem HU {V:View}{ob vb n c i:Nat}{vs xs:List Value}(hs:V.w.heap[ob]?=some (.cells vs.toArray 193 (0,0)))(hx:V.X ob)(hv:V.w.heap[vb]?=some (.cells xs.toArray 193 (0,0)))
  (hne:ob≠vb)(hi:i<=n)(hnc:n<=c)(hc:n<=1000000)(hcl:c*17<=vs.length)(hl:xs.length=17)(h1c:∀v∈(vs.take (n*17)).drop (i*17),v.oneCell'=true)(h1v:∀v∈xs,v.oneCell'=true) :
  Acts prog 172 #[.slice (some ⟨ob,0,none⟩) n c,.int .i64 i,.slice (some ⟨vb,0,none⟩) 1 1] V fun r V'=>∃(q c':Nat)(sp:List Value),r=.slice (some ⟨q,0,none⟩) (n+1) c' /\
   V'.w.heap[q]?=some (.cells (vs.take (i*17)++(xs++(vs.take (n*17)).drop (i*17))++sp).toArray 193 (0,0))/\(V.w.heap.size<=q\/q=ob)/\n+1<=c'/\c'*17<=(n+1)*17+sp.length /\
   V'.w.heap[vb]?=some (.cells xs.toArray 193 (0,0)):=by
 refine ⟨⟨f172,func172,rfl,by kernel_rfl⟩,?_⟩;have M:ob<V.w.heap.size:=(Array.getElem?_eq_some_iff.1 hs).1;have g:vb<V.w.heap.size:=(Array.getElem?_eq_some_iff.1 hv).1;have d:((vs.take (n*17)).drop (i*17)).length=(n-i)*17:=by rw [List.length_drop,List.length_take];omega
 by_cases t:n+1<=c
 ·by_cases l:i<n
  ·refine (GJ ob n c i vb vs xs V.w l t hc (fun e=>hne e.symm) hcl hl hs hv h1c h1v).mono ?_;rintro e y ⟨m,rfl⟩;obtain ⟨A,h⟩:=cC ((vs.take (n*17)).drop (i*17)) ((i+1)*17) vs V.w.drew hs (by rw [d];omega);have N:(vs.take ((i+1)*17)).length=(i+1)*17:=by rw [List.length_take];omega
   obtain ⟨s,f⟩:=cC xs (i*17) _ _ A (by simp only [List.length_append,N,d];omega);have ex:=((uC (·=ob) V.w).trans h).trans f;refine ⟨_,m,ex.mono fun b e=>e▸hx,ob,c,vs.drop ((i+1)*17+((vs.take (n*17)).drop (i*17)).length),rfl,?_,.inr rfl,t,?_,?_⟩
   ·refine s.trans ?_;congr 3;rw [List.append_assoc,hl,List.append_assoc (vs.take ((i+1)*17)),QB (by omega) (by omega),show i*17+17=(i+1)*17 by omega,N6 (by omega)];simp only [List.append_assoc]
   ·rw [List.length_drop,d];omega
   ·exact (ex.aS vb g fun e=>hne e.symm).trans hv
  ·obtain rfl:i=n:=by omega
   refine (KY ob i c vb vs xs V.w t hc hcl hl hs hv h1v).mono ?_;rintro e y ⟨m,rfl⟩;obtain ⟨s,f⟩:=cC xs (0+i*17) vs V.w hs (by omega);refine ⟨_,m,f.mono fun b e=>e▸hx,ob,c,vs.drop (0+i*17+xs.length),rfl,?_,.inr rfl,t,?_,?_⟩
   ·refine s.trans ?_;congr 3;rw [show (vs.take (i*17)).drop (i*17)=[] from List.drop_eq_nil_of_le (by rw [List.length_take];omega),Nat.zero_add,List.append_nil]
   ·rw [List.length_drop];omega
   ·exact (f.aS vb g fun e=>hne e.symm).trans hv
 ·by_cases l:i<n
  ·obtain ⟨z,B,C⟩:=IE ob n c i vb vs xs V.w l hnc (by omega) hc (fun e=>hne e.symm) hcl hl hs hv h1c h1v;refine C.mono ?_;rintro e y ⟨m,rfl⟩;have D:=Go.grownCap_ge V.w (n+1) c 193;generalize Go.grownCap V.w (n+1) c 193=G at *;obtain ⟨a,j⟩:∃a:List Value,a.toArray=(vs.take (i*17)).toArray++Builtin.zeroCells z (n+1-i)++Builtin.zeroCells z (G-(n+1)):=⟨((vs.take (i*17)).toArray++Builtin.zeroCells z (n+1-i)++Builtin.zeroCells z (G-(n+1))).toList,by simp⟩
   have J:a=vs.take (i*17)++((Builtin.zeroCells z (n+1-i)).toList++(Builtin.zeroCells z (G-(n+1))).toList):=by
    have:=congrArg Array.toList j;simpa using this
   have p:∀k,(Builtin.zeroCells z k).toList.length=k*17:=fun k=>by simp [Builtin.zeroCells,B]
   have u:(vs.take (i*17)).length=i*17:=by rw [List.length_take];omega
   have E:a.length=i*17+(n+1-i)*17+(G-(n+1))*17:=by rw [J];simp only [List.length_append,p,u];omega
   rw [←j];have O:(V.w.alloc (.cells a.toArray 193)).drew.heap[V.w.heap.size]?=some (.cells a.toArray 193 (0,0)):=Array.getElem?_push_size;have x:eK (·=ob) V.w (V.w.alloc (.cells a.toArray 193)).drew:=(qA _ _ _).trans (uC _ _);obtain ⟨A,h⟩:=cC xs (i*17) a _ O (by omega);obtain ⟨s,f⟩:=cC ((vs.take (n*17)).drop (i*17)) ((i+1)*17) _ (World.drew _) A (by simp only [List.length_append,List.length_take,List.length_drop,d];omega);have F:V.w.heap.size<=_:=x.size
   have K:∀{X:Nat->Prop},eK X V.w _:=fun {X}=>by
    refine ⟨Nat.le_trans F (Nat.le_trans h.size f.size),fun b H _=>?_,?_,?_,?_⟩
    ·exact (f.aS b (Nat.lt_of_lt_of_le H (Nat.le_trans F h.size)) (by omega)).trans ((h.aS b (Nat.lt_of_lt_of_le H F) (by omega)).trans ((qA (fun _=>False) V.w (.cells a.toArray 193)).aS b H id))
    ·exact f.os.trans (h.os.trans x.os)
    ·exact f.tape.trans (h.tape.trans x.tape)
    ·exact f.out.trans (h.out.trans x.out)
   refine ⟨_,m,K,V.w.heap.size,G,(a.drop ((n+1)*17)),rfl,?_,.inl (Nat.le_refl _),D,?_,?_⟩
   ·refine s.trans ?_;have L:a.take (i*17)=vs.take (i*17):=by rw [J,List.take_append_of_le_length (by rw [u];exact Nat.le_refl _),List.take_of_length_le (by rw [u];exact Nat.le_refl _)]
    have I:(a.take (i*17)++xs).length=(i+1)*17:=by rw [List.length_append,L,u,hl];omega
    have P:(a.take (i*17)++xs++a.drop (i*17+xs.length)).take ((i+1)*17)=a.take (i*17)++xs:=by rw [←I,List.take_left'];rfl
    have Q:(a.take (i*17)++xs++a.drop (i*17+xs.length)).drop ((i+1)*17+((vs.take (n*17)).drop (i*17)).length)=a.drop ((n+1)*17):=by
     rw [List.drop_append,List.drop_eq_nil_of_le (by rw [I];omega),List.nil_append,List.drop_drop,I,d,hl];congr 1;omega
    rw [P,Q,L];simp only [List.append_assoc]
   ·rw [List.length_drop,E];omega
   ·exact (@K fun _=>False).aS vb g id |>.trans hv
  ·obtain rfl:i=n:=by omega
   obtain ⟨z,B,C⟩:=Ad ob i c vb vs xs V.w hnc (by omega) hc hcl hl hs hv h1v;refine C.mono ?_;rintro e y ⟨m,rfl⟩;have D:=Go.grownCap_ge V.w (i+1) c 193;generalize Go.grownCap V.w (i+1) c 193=G at *;have p:∀k,(Builtin.zeroCells z k).toList.length=k*17:=fun k=>by simp [Builtin.zeroCells,B]
   have ex:∀{X:Nat->Prop} {o:Obj},eK X V.w (V.w.drew.alloc o):=(uC _ _).trans (qA _ _ _);refine ⟨_,m,ex,V.w.heap.size,G,(Builtin.zeroCells z (G-(i+1))).toList,rfl,?_,.inl (Nat.le_refl _),D,?_,?_⟩
   ·refine (Array.getElem?_push_size (xs:=V.w.heap)).trans ?_;congr 2;rw [show (vs.take (i*17)).drop (i*17)=[] from List.drop_eq_nil_of_le (by rw [List.length_take];omega),List.append_nil];apply Array.ext';simp
   ·rw [p];omega
   ·exact ((ex (X:=fun _=>False)).aS vb g id).trans hv
end Go.Proofs.Tryz
namespace Go.Proofs.Tryz
open Go.Eng Go.Big
theorem yu {V:View}{v:Value}{p:Rat×Rat}(h:RPt V v p.1 p.2){k:Nat}(s1:Sz k p.1)(s2:Sz k p.2)(hk:k<=1099511627776) :
  Acts prog 215 #[v] V fun r V'=>r=.int .i64 (Sec.half p):=by
 obtain ⟨n,o,q,s,t,u,rfl,f,w⟩:=h;refine vR n o q s t u V _ fun G j=>(fM (w.le j) s2 hk).mono ?_;rintro r V2 x rfl;have d:=j.trans x;refine ⟨_,rfl,fun b H I=>?_,fun b=>⟨fun c J l=>(fM (f.le (d.trans l)) s1 hk).mono ?_,fun c=>⟨fun a y K=>?_,fun a z g=>(fM (f.le (d.trans g)) s1 hk).mono ?_⟩⟩⟩
 ·have b:p.2.num.sign>0:=of_decide_eq_true b;unfold Sec.half;rw [if_pos (.inl b)]
 ·have b:¬p.2.num.sign>0:=of_decide_eq_false b;have c:p.2.num.sign=0:=by simpa using c
  rintro r L A rfl;refine ⟨_,rfl,fun a M N=>?_,fun a=>⟨fun i O P=>?_,fun i Q B=>(fM (f.le (d.trans (l.trans (A.trans B)))) s1 hk).mono ?_⟩⟩
  ·have a:p.1.num.sign>0:=of_decide_eq_true a;unfold Sec.half;rw [if_pos (.inr ⟨c,a⟩)]
  ·have i:p.2.num.sign<0:=of_decide_eq_true i;omega
  ·have a:¬p.1.num.sign>0:=of_decide_eq_false a;have m:¬(p.2.num.sign>0\/p.2.num.sign=0/\p.1.num.sign>0):=by omega
   rintro r R S rfl;refine ⟨_,rfl,fun e C D=>?_,fun e E F=>?_⟩
   ·have e:p.1.num.sign<0:=of_decide_eq_true e;unfold Sec.half;rw [if_neg m,if_pos (.inr e)]
   ·have e:¬p.1.num.sign<0:=of_decide_eq_false e;unfold Sec.half;rw [if_neg m,if_neg (by omega)]
 ·have b:¬p.2.num.sign>0:=of_decide_eq_false b;have c:¬p.2.num.sign=0:=by simpa using c
  have a:p.2.num.sign<0:=of_decide_eq_true a;unfold Sec.half;rw [if_neg (by omega),if_pos (.inl a)]
 ·have b:¬p.2.num.sign>0:=of_decide_eq_false b;have c:¬p.2.num.sign=0:=by simpa using c
  have a:¬p.2.num.sign<0:=of_decide_eq_false a;omega
theorem Lv (q:Rat):-1<=q.num.sign/\q.num.sign<=1:=by
 rcases Int.lt_trichotomy q.num 0 with h|h|h
 ·rw [Int.sign_eq_neg_one_of_neg h];omega
 ·rw [h];decide
 ·rw [Int.sign_eq_one_of_pos h];omega
theorem Bw {V:View}{v w:Value}{a b:Rat×Rat}(h:RPt V v a.1 a.2)(h':RPt V w b.1 b.2){k:Nat}(s1:Sz k a.1)(s2:Sz k a.2)(s3:Sz k b.1)(s4:Sz k b.2)(hk:4*k+3<274877906944) :
  Acts prog 170 #[v,w] V fun r V'=>r=.int .i64 (Sec.ang a b):=by
 have f:=h;have c:=h';obtain ⟨n,o,q,p,s,u,rfl,-⟩:=h;obtain ⟨x,y,t,z,A,B,rfl,-⟩:=h';refine AP n o q p s u x y t z A B V _ fun J d=>(yu (f.le d) s1 s2 (by omega)).mono ?_;rintro r V2 i rfl;refine ⟨_,rfl,fun K j=>(yu (c.le (d.trans (i.trans j))) s3 s4 (by omega)).mono ?_⟩;rintro r L C rfl;have l:=d.trans (i.trans (j.trans C));refine ⟨_,rfl,fun g M N=>?_,fun g=>⟨fun e O P=>?_,fun e Q m=>(tX (f.le (l.trans m)) (c.le (l.trans m)) s1 s2 s3 s4 hk).mono ?_⟩⟩
 ·unfold Sec.ang;rw [if_pos (of_decide_eq_true g)]
 ·unfold Sec.ang;rw [if_neg (of_decide_eq_false g),if_pos (of_decide_eq_true e)]
 ·rintro r R S gc;have D:=gc;obtain ⟨T,U,W,rfl⟩:=gc.shape;refine ⟨_,_,_,rfl,fun X E=>(fM (D.le E) (rA s1 s2 s3 s4) (by omega)).mono ?_⟩;rintro r F G rfl;refine ⟨_,rfl,fun H I=>?_⟩;have Y:=Lv (a.1*b.2-a.2*b.1);rw [i64w (by omega)];unfold Sec.ang;rw [if_neg (of_decide_eq_false g),if_neg (of_decide_eq_false e)];show _=Value.int .i64 (-(a.1*b.2-a.2*b.1).num.sign);congr 1;omega
theorem Ma {V:View}{v:Value}{l:L3}(h:RLi V v l)(hb:Bd l):Acts prog 171 #[v] V fun r V'=>RPt V' r (Sec.dirL l).1 (Sec.dirL l).2:=kF h hb.szl.1 hb.szl.2.1 hb.szl.2.2 (by omega)
theorem mi {l:L3}(hb:Bd l):Sz 1000 (Sec.dirL l).1/\Sz 1000 (Sec.dirL l).2:=⟨hb.szl.2.1,hb.szl.1.neg⟩
theorem Fb {V:View}{v lv:Value}{s:Sd}{l:L3}(h:RSd V v s)(hl:RLi V lv l)(hb:Bd l):Acts prog 169 #[v,lv] V fun r V'=>r=.int .i64 (Sec.ang (Sec.dirL s.1) (Sec.dirL l)):=by
 have a:=hl;obtain ⟨_,_,_,_,_,_,_,_,_,_,_,_,_,_,_,rfl⟩:=h.shape;obtain ⟨j,o,-,-⟩:=h.both;have b:=h.2.1;obtain ⟨_,_,_,_,_,_,_,_,_,rfl,-,-,-⟩:=hl;refine nZ _ _ _ _ _ _ _ _ _ _ _ _ _ _ _ _ _ _ _ _ _ _ _ _ _ _ V _ fun p d=>(Ma (j.le d) b).mono ?_;rintro r V2 k g;have m:=g;obtain ⟨_,_,_,_,_,_,rfl,-,-⟩:=g;refine ⟨_,_,_,_,_,_,rfl,fun q e=>(Ma (a.le (d.trans (k.trans e))) hb).mono ?_⟩;rintro r t n f;have c:=f;obtain ⟨_,_,_,_,_,_,rfl,-,-⟩:=f;refine ⟨_,_,_,_,_,_,rfl,fun u i=>(Bw (m.le (e.trans (n.trans i))) (c.le i) (mi b).1 (mi b).2 (mi hb).1 (mi hb).2 (by omega)).mono ?_⟩;rintro r w x rfl;exact ⟨_,rfl,fun y z=>rfl⟩
theorem GD {i j:Nat}(hi:i<=1000000)(hj:j<=1000000):i64.wrap ((u64.wrap (i64.wrap ((i:Int)+(j:Int)))).fdiv (2^1))=(((i+j) / 2:Nat):Int):=by
 have a:i64.wrap ((i:Int)+(j:Int))=(i:Int)+(j:Int):=i64w (by omega);have b:u64.wrap ((i:Int)+(j:Int))=(i:Int)+(j:Int):=aH (by omega)
 have:((i:Int)+(j:Int)).fdiv (2^1)=(((i+j) / 2:Nat):Int):=by
  rw [Int.fdiv_eq_ediv_of_nonneg _ (by decide)];omega
 rw [a,b,this,i64w (by omega)]
theorem Ge {V:View}{lb n c:Nat}{vs:List Value}{r:List Sd}{lv:Value}{l:L3}(hw:V.w.heap[lb]?=some (.cells vs.toArray 193 (0,0)))(hx:V.X lb)(hr:Row 17 RSd V vs r)(hn:n=r.length)(hs:n<=1000000)(hl:RLi V lv l)(hb:Bd l)
  (asc:r.Pairwise fun s u=>Sec.ang (Sec.dirL s.1) (Sec.dirL u.1)<0) :
  Acts prog 168 #[.slice (some ⟨lb,0,none⟩) n c,lv,.func (.func 169) #[] #[]] V fun q V'=>∃(i:Nat)(b:Bool),q=.tuple #[.int .i64 i,.bool b]/\i<=n/\(∀v:Sp,lU (l,v) r=r.take i++(l,v)::r.drop i) /\
   V'.w.heap[lb]?=some (.cells vs.toArray 193 (0,0)):=by
 have k:=hl;subst hn;obtain ⟨_,_,_,_,_,_,_,_,_,rfl,-,-,-⟩:=hl;refine ja lb _ c vs _ _ _ _ _ _ _ _ _ V _ hw hx ⟨fun z V'=>∃i j:Nat,z.1=(i:Int)/\z.2=(j:Int)/\Bs r l i j,fun z=>z.2.toNat-z.1.toNat,⟨(0,(r.length:Int)),by and_intros<;>rfl,0,r.length,rfl,rfl,Bs.start r l⟩,?_⟩;rintro ⟨z1,z2⟩ H o ⟨i,j,D,E,f⟩;dsimp only at D E;subst D E;have ble:=f.le;have I:=f.len;have m:=hr.le (V':=H) fun _ _ g=>RSd.le g o;refine ⟨rfl,fun a=>?_,fun a=>?_⟩
 ·have a:(i:Int)<(j:Int):=of_decide_eq_true a;dsimp only;rw [GD (by omega) (by omega)];have p:(i+j) / 2<j:=by omega
  have J:i<=(i+j) / 2:=by omega
  generalize (i+j) / 2=h at *;have t:h<r.length:=by omega
  have w:i64.wrap ((h:Int)+1)=((h+1:Nat):Int):=by rw [i64w (by omega)];rfl
  rw [Int.toNat_natCast,w,Nat.zero_add];obtain ⟨K,L,M,N,O,P,Q,R,S,T,U,W,Y,Z,b6,x,y,d⟩:=FQ m t;refine ⟨by omega,⟨by omega,by omega⟩,_,_,_,_,_,_,_,_,_,_,_,_,_,_,_,_,_,⟨x,y⟩,fun V2 F=>(Fb (d.le F) (k.le (o.trans F)) hb).mono ?_⟩;rintro q V3 l3 rfl;refine ⟨_,rfl,fun A=>⟨(((h+1:Nat):Int),(j:Int)),by dsimp only;omega,by and_intros<;>rfl,h+1,j,rfl,rfl,f.up asc p t (of_decide_eq_true A)⟩,fun A=>⟨((i:Int),(h:Int)),by dsimp only;omega,by and_intros<;>rfl,i,h,rfl,rfl,f.down J t (of_decide_eq_false A)⟩⟩
 ·have a:¬(i:Int)<(j:Int):=of_decide_eq_false a;obtain rfl:i=j:=by omega
  dsimp only;refine ⟨fun e=>?_,fun e V7 l7 B=>⟨i,false,rfl,by omega,fun v=>f.done v,B⟩⟩;have e:(i:Int)<(r.length:Int):=of_decide_eq_true e;have C:i<r.length:=by omega
  rw [Int.toNat_natCast,Nat.zero_add];obtain ⟨K,L,M,N,O,P,Q,R,S,T,U,W,Y,Z,b6,x,y,d⟩:=FQ m C;refine ⟨⟨by omega,by omega⟩,_,_,_,_,_,_,_,_,_,_,_,_,_,_,_,_,_,⟨x,y⟩,fun V4 G=>(Fb (d.le G) (k.le (o.trans G)) hb).mono ?_⟩;rintro q V5 l5 rfl;exact ⟨_,rfl,fun V6 l6 YQ=>⟨i,_,rfl,by omega,fun v=>f.done v,YQ⟩⟩
theorem le_moved {V V':View}{P:Prop}{b:Nat}(l:V.Le V')(h:P->V.w.heap.size<=b\/V.H b):V.Le (V'.shut.hideG P b):=fun x o a=>by
 have c:=l x o a;refine ⟨fun d=>d.elim c.1 ?_,c.2⟩;rintro ⟨e,rfl,-⟩;rcases h e with h|h
 ·have:=(Array.getElem?_eq_some_iff.1 a.2).1;omega
 ·exact a.1 h
theorem Gs {c:List Sd}{l:L3}{i:Nat}(hi:i<c.length):lq (c.take (i+1)) l=lq (c.take i) l++if cA c[i].1 c[i].2 l=true then [(c[i].1,bZ c[i].1 c[i].2 l)] else []:=by
 unfold lq;rw [List.take_add_one,List.getElem?_eq_getElem hi,List.filterMap_append];congr 1;show List.filterMap _ [c[i]]=_;by_cases h:cA c[i].1 c[i].2 l=true
 ·simp [h]
 ·simp [h]
theorem uo (c:List Sd)(l:L3):(lq c l).length<=c.length:=List.length_filterMap_le ..
theorem DW {c:List Sd}{l:L3}{v:Sp}(h:cg c l fullSp=some v):clipC c l=some (lU (l,v) (lq c l)):=by unfold clipC;rw [h]
theorem DV {c:List Sd}{l:L3}(h:cg c l fullSp=none):clipC c l=if 0<eI c l then some c else none:=by unfold clipC;rw [h]
set_option maxHeartbeats 1000000 in
theorem c_Cell_Clip {V:View}{cp:OA}{cn cc:Nat}{c:List Sd}{lv:Value}{l:L3}(h:Lst 17 RSd V cp cn c)(hl:RLi V lv l)(hb:Bd l)(hn:c.length<=100000)(asc:c.Pairwise fun s u=>Sec.ang (Sec.dirL s.1) (Sec.dirL u.1)<0) :
  Acts prog 133 #[.slice cp cn cc,lv] V fun r V'=>∃q m e,r=.tuple #[.slice q m e,.bool (clipC c l).isSome]/\(∀c',clipC c l=some c'->Lst 17 RSd V' q m c'/\(cn<=cc->m<=e)):=by
 have f:=hl;have h0:=h;obtain rfl:=h.len;obtain ⟨_,_,_,_,_,_,_,_,_,rfl,-,-,-⟩:=hl;refine qX cp _ cc _ _ _ _ _ _ _ _ _ V _ fun V1 T=>(rE (h.le T fun _ _ g=>RSd.le g T) (f.le T) hb (by omega)).mono ?_;rintro r V2 l2 ⟨w,rfl,gv,sv⟩;have Vz:=gv;obtain ⟨_,_,_,_,_,_,rfl,-,-⟩:=gv;have I:=T.trans l2;refine ⟨_,_,_,_,_,_,_,_,_,rfl,fun B V3 U=>(zG (h0.le (I.trans U) fun _ _ g=>RSd.le g (I.trans U)) (f.le (I.trans U)) hb (by omega)).mono ?_,fun B=>?_⟩
 ·have B:cg c l fullSp=none:=by simpa using B
  rintro r V4 l4 rfl;have e1:On c l=eI c l:=by unfold On;rw [B];rfl
  have J:=DV B;refine ⟨_,rfl,fun V5 l5=>⟨cp,c.length,cc,?_,fun c' e=>?_⟩⟩
  ·rw [e1,J];by_cases W:0<eI c l
   ·rw [if_pos W,decide_eq_true W];rfl
   ·rw [if_neg W,decide_eq_false W];rfl
  ·rw [J] at e;split at e
   ·cases e;have L5:=I.trans (U.trans (l4.trans l5));exact ⟨h0.le L5 fun _ _ g=>RSd.le g L5,id⟩
   ·cases e
 have B:(cg c l fullSp).isSome=true:=by simpa using B
 obtain ⟨v,ev⟩:=Option.isSome_iff_exists.1 B;rw [ev] at Vz sv ⊢;have J:=DW ev;have w1:i64.wrap ((c.length:Int)+1)=((c.length+1:Nat):Int):=by rw [i64w (by omega)];rfl
 rw [w1,Int.toNat_natCast]
 refine ⟨by omega,by omega,by omega,fun z V'=>∃i:Nat,z.2.2.2=(i:Int)/\i<=c.length/\GR 17 RSd V' z.1 z.2.1 z.2.2.1 (lq (c.take i) l)/\z.2.1≠0,fun z=>c.length-z.2.2.2.toNat,
  ⟨(0,c.length+1,oz (c.length+1) [.int .i64 0,.int .i64 0,.pointer none,.int .i64 0,.int .i64 0,.pointer none,.int .i64 0,.int .i64 0,.pointer none,.int .i64 0,.int .i64 0,.pointer none,.int .i64 0,.int .i64 0,.pointer none,.bool false,.bool false],0),by and_intros<;>first|rfl|omega,0,rfl,Nat.zero_le _,⟨rfl,Nat.zero_le _,?_,Row.nil⟩,by dsimp only;omega⟩,?_⟩
 ·show _<=(List.replicate (c.length+1) _).flatten.length;rw [List.length_flatten,List.map_replicate,List.sum_replicate_nat];exact Nat.le_refl _
 rintro ⟨D,z2,vs,z4⟩ V6 l6 ⟨i,e4,c4,t,E⟩;dsimp only at e4 t E;subst e4;have X:=I.trans l6;have H:=t.len;have F:=t.le;have K:=t.cap;try dsimp only at H F K
 have Vy:=uo (c.take i) l;rw [List.length_take] at Vy;refine ⟨rfl,fun j=>?_,fun j=>⟨fun d=>?_,fun d x Y bk g1 g2=>?_⟩⟩
 ·have j:(i:Int)<c.length:=of_decide_eq_true j;have y:i<c.length:=by omega
  have w:i64.wrap ((i:Int)+1)=((i+1:Nat):Int):=by rw [i64w (by omega)];rfl
  dsimp only;rw [Int.toNat_natCast,w];obtain ⟨ps,a1,a2,a3,a4,a5,a6,a7,a8,a9,b1,b2,b3,b4,b5,b6,a,ha,k0,Z,k2,k3,k4,k5,k6,k7,k8,k9,a0,b0,b7,b8,b9,c0,c1,hr⟩:=lst_rsd (h0.le X fun _ _ g=>RSd.le g X) y;obtain ⟨rl,ri,-,-⟩:=hr.both;have L:=hr.2;have ct:=Gs (l:=l) y;generalize c[i]=S at *;refine ⟨ps,⟨by omega,by omega⟩,_,_,_,_,_,_,_,_,_,_,_,_,_,_,_,_,_,a,ha,k0,Z,k2,k3,k4,k5,k6,k7,k8,k9,a0,b0,b7,b8,b9,c0,c1,fun V7 M=>(Bu (rl.le M) (ri.le M) (f.le (X.trans M)) (k:=100000) (L.1.szl.up (by omega)) L.2 (hb.szl.up (by omega)) (by omega)).mono ?_⟩;rintro r V8 l8 ⟨w8,rfl,g⟩;have g0:=g;obtain ⟨_,_,_,_,_,_,rfl,-,-⟩:=g;have VY:=t.mono (V':=V8) fun _ _ g=>RSd.le g (M.trans l8);refine ⟨_,_,_,_,_,_,_,_,_,rfl,fun G=>⟨by omega,F,K,rfl,Jf,fun sp c' h1 h2=>⟨(D+1,c',_,((i+1:Nat):Int)),by dsimp only;omega,by and_intros<;>rfl,i+1,rfl,y,?_,by dsimp only;omega⟩⟩,fun G=>⟨(D,z2,vs,((i+1:Nat):Int)),by dsimp only;omega,by and_intros<;>rfl,i+1,rfl,y,?_,E⟩⟩
  ·have G:cA S.1 S.2 l=true:=G;dsimp only;rw [ct,if_pos G];exact VY.snoc (a:=(S.1,bZ S.1 S.2 l)) rfl ⟨⟨_,_,_,_,_,_,_,_,_,_,_,_,_,_,_,rfl,rl.le (M.trans l8),g0⟩,L.1,tG L.1.szl hb.szl L.2 (by omega)⟩ (by decide) h1 h2
  ·have G:¬cA S.1 S.2 l=true:=by rw [show cA S.1 S.2 l=false from G];exact Bool.false_ne_true
   dsimp only;rw [ct,if_neg G,List.append_nil];exact VY
 ·have d:vs=[]:=d;rw [d] at K;simp at K;omega
 have j:¬(i:Int)<c.length:=of_decide_eq_false j;obtain rfl:i=c.length:=by omega
 rw [List.take_length] at t H;have Vy:=uo c l;have d:vs≠[]:=d;have LV:∀b,mA b z2=some ⟨b,0,none⟩:=fun b=>by unfold mA;rw [if_neg E]
 dsimp only;rw [LV];have Hy:=X.trans Y;refine (Ge (V:=x.lend [vb vs x.w.heap.size bk]) (r:=lq c l) (l:=l) (g1 d) ⟨by simp [vb_ne d],g2 d⟩ (t.row.le fun _ _ g=>RSd.le g fun b o h=>Y b o h) H (by omega) (RLi.le (V:=V) (V':=x.lend _) f fun b o h=>Hy b o h) hb (BK asc)).mono ?_;rintro r c5 dq ⟨at_,fb,rfl,c2,N,e5⟩;refine ⟨_,_,rfl,d,vs,d,e5,fun C du A O Z k2 k3 k4 k5=>?_⟩;rw [LV];have p:x.Le C:=fun b o h=>du b o (dq b o h);have c6:C.w.heap.size>A:=(Array.getElem?_eq_some_iff.1 (Z d)).1;have Nl:Row 17 RSd C vs (lq c l):=t.row.le fun _ _ g=>RSd.le g (Y.trans p)
 have Q:∀u∈(vs.take (D*17)).drop (at_*17),u.oneCell'=true:=fun u hu=>by
  obtain ⟨m,hm,e⟩:=List.mem_iff_getElem.1 (List.mem_of_mem_drop hu);have R:m<(lq c l).length*17:=by rw [List.length_take,H] at hm;omega
  have:=List.getElem?_eq_getElem hm;rw [e,List.getElem?_take,if_pos (by rw [H];exact R)] at this;exact row_one_cell t.row (by decide) (fun xs _=>Lu xs) R this
 refine (HU (V:=C.lend [vb vs C.w.heap.size A,O]) (ob:=A) (vb:=O) (n:=D) (c:=z2) (i:=at_) (vs:=vs) (xs:=[_,_,_,_,_,_,_,_,_,_,_,_,_,_,_,_,_]) (Z d) ⟨by simp [vb_ne d],k2 d⟩ k3 (k5 d) c2 F (by omega) K rfl Q Jf).mono ?_;rintro r ny cM ⟨q,c',sp,rfl,f1,f2,f3,f4,f5⟩;have c3:C.w.heap.size<=q\/(vs≠[]/\q=A):=f2.imp id fun e=>⟨d,e⟩;refine ⟨q,_,fun _=>f1,fun _=>c3,some ⟨q,0,none⟩,D+1,c',?_,_,_,_,_,_,_,_,_,_,_,_,_,_,_,_,_,_,f5,fun oD dz Oe m1=>⟨mA Oe c',D+1,c',?_,fun c7 e=>?_⟩⟩
 ·unfold mA;rw [if_neg (by omega)]
 ·rw [J];rfl
 ·rw [J] at e;obtain rfl:=Option.some.inj e;have IK:C.Le oD:=fun b o hx=>dz b o (le_moved (V:=C.lend _) (V':=ny) (P:=_) (b:=q) cM (fun _=>f2.elim .inl fun e=>.inr (by rw [e];exact k2 d)) b o hx);have hR:=vt (sp:=sp) (Nl.le fun _ _ g=>RSd.le g IK) (k:=at_) (by omega) (xs:=[_,_,_,_,_,_,_,_,_,_,_,_,_,_,_,_,_]) (a:=(l,v)) rfl ⟨⟨_,_,_,_,_,_,_,_,_,_,_,_,_,_,_,rfl,f.le (Hy.trans (p.trans IK)),Vz.le (l6.trans (Y.trans (p.trans IK)))⟩,hb,sv⟩ (by decide);rw [N v]
  have hlen:D+1=((lq c l).take at_++(l,v)::(lq c l).drop at_).length:=by
   rw [List.length_append,List.length_cons,List.length_take,List.length_drop];omega
  rw [hlen];rw [←H] at hR;exact ⟨Lst.of_mrow m1 hR (by decide) (by rw [←hlen];exact f3),fun _=>by rw [←hlen];exact f3⟩
end Go.Proofs.Tryz
namespace Go.Proofs.Tryz
open Go.Eng
set_option maxRecDepth 100000
end Go.Proofs.Tryz
namespace Go.Proofs.Tryz
open Go.Eng Go.Big
def RLv (V:View)(v:Value)(l:L3):Prop:=RL V v l.1 l.2.1 l.2.2
theorem RLv.le {V V':View}{v:Value}{l:L3}(h:RLv V v l)(e:V.Le V'):RLv V' v l:=RL.le h e
theorem rlv_shape {V:View}{v:Value}{l:L3}(h:RLv V v l):∃(b1:Bool)(p1:OA)(n1 c1:Nat)(b2:Bool)(p2:OA)(n2 c2:Nat)(b3:Bool)(p3:OA)(n3 c3:Nat),v=.agg #[.bool b1,.slice p1 n1 c1,.bool b2,.slice p2 n2 c2,.bool b3,.slice p3 n3 c3]:=by
 obtain ⟨_,_,_,_,_,_,_,_,_,e,-⟩:=h;exact ⟨_,_,_,_,_,_,_,_,_,_,_,_,e⟩
theorem FO {V:View}{xs:List Value}{l:L3}(h:RLv V (.agg (List.toArray xs)) l):∀v∈xs,v.oneCell'=true:=by
 obtain ⟨_,_,_,_,_,_,_,_,_,_,_,_,e⟩:=rlv_shape h;have e:=congrArg Array.toList (Value.agg.inj e);dsimp only at e;subst e;intro v hm;simp only [List.mem_cons,List.not_mem_nil,or_false] at hm;rcases hm with rfl|rfl|rfl|rfl|rfl|rfl<;>rfl
theorem one6 {b:Bool}{p:OA}{n c:Nat}{b':Bool}{p':OA}{n' c':Nat}{b'':Bool}{p'':OA}{n'' c'':Nat}:∀v∈([.bool b,.slice p n c,.bool b',.slice p' n' c',.bool b'',.slice p'' n'' c'']:List Value),v.oneCell'=true:=by
 intro v hm;simp only [List.mem_cons,List.not_mem_nil,or_false] at hm;rcases hm with rfl|rfl|rfl|rfl|rfl|rfl<;>rfl
theorem B_ (x:Sd):∀r:List Sd,(lU x r).length=r.length+1
 | []=>rfl
 | s::r=>by
  unfold lU;split
  ·rw [List.length_cons,B_ x r,List.length_cons]
  ·rfl
theorem clipC_len {c c':List Sd}{l:L3}(e:clipC c l=some c'):c'.length<=c.length+1:=by
 unfold clipC at e;split at e
 ·cases e;rw [B_];have:=uo c l;omega
 ·split at e
  ·cases e;omega
  ·cases e
theorem c_Cell_API {V:View}{p:OA}{n c:Nat}{cs:List Sd}(h:Lst 17 RSd V p n cs)(hn:cs.length<=100000) :
  Acts prog 41 #[.slice p n c] V fun r V'=>∃q m e,r=.agg #[.slice q m e]/\Lst 6 RLv V' q m (cs.map Prod.fst)/\m<=e:=by
 obtain rfl:=h.len;refine sJ p _ c V _ ⟨fun z V'=>∃j:Nat,z.1=(j:Int)/\j<=cs.length/\GR 6 RLv V' z.2.1 z.2.2.1 z.2.2.2 ((cs.map Prod.fst).take j),fun z=>cs.length-z.1.toNat,⟨(0,0,0,[]),by and_intros<;>rfl,0,rfl,Nat.zero_le _,GR.nil⟩,?_⟩;rintro ⟨z1,D,z3,vs⟩ V1 v ⟨j,x,E,d⟩;dsimp only at x d;subst x;have F:=d.len;rw [List.length_take,List.length_map] at F;refine ⟨rfl,fun b=>?_,fun b V4 G bk H=>?_⟩
 ·have b:(j:Int)<cs.length:=of_decide_eq_true b;have f:j<cs.length:=by omega
  have w:i64.wrap ((j:Int)+1)=((j+1:Nat):Int):=by rw [i64w (by omega)];rfl
  dsimp only;rw [Int.toNat_natCast,w];obtain ⟨I,a1,a2,a3,a4,a5,a6,a7,a8,a9,b1,b2,b3,b4,b5,b6,a,J,K,L,M,N,O,P,Q,R,S,T,i,k,l,o,s,t,u,y⟩:=lst_rsd (h.le v fun _ _ g=>RSd.le g v) f;obtain ⟨U,ri,-,-⟩:=y.both;obtain ⟨s1,s2,s3⟩:=y.2.1.sz;refine ⟨I,⟨by omega,by omega⟩,_,_,_,_,_,_,_,_,_,_,_,_,_,_,_,_,_,a,J,K,L,M,N,O,P,Q,R,S,T,i,k,l,o,s,t,u,fun V2 A=>(Gh (U.le A) s1 s2 s3 (by omega)).mono ?_⟩;rintro r B W X;have C:RLv B r cs[j].1:=RLi.api X;obtain ⟨_,_,_,_,_,_,_,_,_,_,_,_,rfl⟩:=rlv_shape C;refine ⟨_,_,_,_,_,_,_,_,_,_,_,_,rfl,by omega,d.le,d.cap,rfl,one6,fun sp Y Z h2=>⟨(((j+1:Nat):Int),D+1,Y,_),by dsimp only;omega,by and_intros<;>rfl,j+1,rfl,f,?_⟩⟩;dsimp only;rw [List.take_add_one,List.getElem?_map,List.getElem?_eq_getElem f];exact (d.mono (V':=B) fun _ _ g=>RLv.le g (A.trans W)).snoc rfl C (by decide) Z h2
 ·have b:¬(j:Int)<cs.length:=of_decide_eq_false b;obtain rfl:j=cs.length:=by omega
  rw [List.take_of_length_le (by rw [List.length_map];exact Nat.le_refl _)] at d;obtain rfl:=d.len;exact ⟨_,_,_,rfl,Lst.of_mrow H (d.row.le fun _ _ g=>RLv.le g G) (by decide) d.le,d.le⟩
theorem JI {V:View}{vs:List Value}{ls:List L3}(h:Row 6 RLv V vs ls){i:Nat}(hi:i<ls.length):∃b1 p1 n1 c1 b2 p2 n2 c2 b3 p3 n3 c3,i*6+6<=vs.length/\(vs.drop (i*6)).take 6=[Value.bool b1,.slice p1 n1 c1,.bool b2,.slice p2 n2 c2,.bool b3,.slice p3 n3 c3] /\
  RLv V (.agg #[.bool b1,.slice p1 n1 c1,.bool b2,.slice p2 n2 c2,.bool b3,.slice p3 n3 c3]) ls[i]:=by
 obtain ⟨xs,f,b,c⟩:=h.at_ i hi;have g:=h.kR (by decide);have a:=b;obtain ⟨_,_,_,_,_,_,_,_,_,_,_,_,e⟩:=rlv_shape b;have e:=congrArg Array.toList (Value.agg.inj e);dsimp only at e;subst e;refine ⟨_,_,_,_,_,_,_,_,_,_,_,_,by omega,?_,a⟩;apply List.ext_getElem?;intro j;rw [List.getElem?_take];split
 ·rename_i d;rw [List.getElem?_drop];exact c j _ (List.getElem?_eq_getElem (by show j<6;omega))▸(List.getElem?_eq_getElem (by show j<6;omega)).symm
 ·rename_i d;rw [List.getElem?_eq_none (by show 6<=j;omega)]
end Go.Proofs.Tryz
namespace Go.Proofs.Tryz
open Go.Eng
set_option maxRecDepth 100000
end Go.Proofs.Tryz
namespace Go.Proofs.Tryz
open Go.Eng Go.Big
theorem oG {V:View}{v:Value}{q:Rat}(h:RQ V v q):Acts prog 103 #[v] V fun r V'=>r=.int .i64 q.num.sign:=by
 obtain ⟨_,_,_,_,_,_,rfl,a,-⟩:=h;exact tg q a
theorem oI {V:View}{v:Value}{p:Rat×Rat}(h:RP V v p.1 p.2):Acts prog 142 #[v] V fun r V'=>r=.int .i64 (Sec.half p):=by
 obtain ⟨_,_,_,_,_,_,_,_,_,_,_,_,rfl,g,i⟩:=h;refine xN _ _ _ _ _ _ _ _ _ _ _ _ _ _ V _ fun w f=>(oG (g.le f)).mono ?_;rintro r V2 j rfl;refine ⟨_,rfl,fun x k=>(oG (i.le (f.trans (j.trans k)))).mono ?_⟩;rintro r y A rfl;have key:∀z:Int,(z=if p.2.num.sign>0\/p.2.num.sign=0/\p.1.num.sign>0 then 1 else if p.2.num.sign<0\/p.1.num.sign<0 then 2 else 0)->Value.int .i64 z=.int .i64 (Sec.half p):=fun z e=>by rw [e];rfl
 refine ⟨_,rfl,fun a=>?_,fun a=>?_⟩
 ·have a:p.1.num.sign=0:=by simpa using a
  refine ⟨fun b B C=>key _ ?_,fun b=>⟨fun c l m=>key _ ?_,fun c=>⟨fun d=>⟨fun e n o=>key _ ?_,fun e q s=>key _ ?_⟩,fun d t u=>key _ ?_⟩⟩⟩
  ·have b:p.2.num.sign=0:=by simpa using b
   rw [if_neg (by omega),if_neg (by omega)]
  ·have c:p.2.num.sign>0:=of_decide_eq_true c;rw [if_pos (.inl c)]
  ·have b:¬p.2.num.sign=0:=by simpa using b
   have d:p.2.num.sign=0:=by simpa using d
   exact absurd d b
  ·have b:¬p.2.num.sign=0:=by simpa using b
   have d:p.2.num.sign=0:=by simpa using d
   exact absurd d b
  ·have b:¬p.2.num.sign=0:=by simpa using b
   have c:¬p.2.num.sign>0:=of_decide_eq_false c;rw [if_neg (by omega),if_pos (by omega)]
 ·have a:¬p.1.num.sign=0:=by simpa using a
  refine ⟨fun c l m=>key _ ?_,fun c=>⟨fun d=>⟨fun e n o=>key _ ?_,fun e q s=>key _ ?_⟩,fun d t u=>key _ ?_⟩⟩
  ·have c:p.2.num.sign>0:=of_decide_eq_true c;rw [if_pos (.inl c)]
  ·have d:p.2.num.sign=0:=by simpa using d
   have e:p.1.num.sign>0:=of_decide_eq_true e;rw [if_pos (.inr ⟨d,e⟩)]
  ·have d:p.2.num.sign=0:=by simpa using d
   have e:¬p.1.num.sign>0:=of_decide_eq_false e;rw [if_neg (by omega),if_pos (by omega)]
  ·have d:¬p.2.num.sign=0:=by simpa using d
   have c:¬p.2.num.sign>0:=of_decide_eq_false c;rw [if_neg (by omega),if_pos (by omega)]
theorem N0 (q:Rat):-1<=q.num.sign/\q.num.sign<=1:=by
 rcases Int.lt_trichotomy q.num 0 with h|h|h
 ·rw [Int.sign_eq_neg_one_of_neg h];omega
 ·rw [h];decide
 ·rw [Int.sign_eq_one_of_pos h];omega
theorem wO {V:View}{v w:Value}{a b:Rat×Rat}(h:RP V v a.1 a.2)(h':RP V w b.1 b.2){k:Nat}(s1:Sz k a.1)(s2:Sz k a.2)(s3:Sz k b.1)(s4:Sz k b.2)(hk:4*k+4<274877906944) :
  Acts prog 98 #[v,w] V fun r V'=>r=.int .i64 (Sec.ang a b):=by
 have f:=h;have c:=h';obtain ⟨_,_,_,_,_,_,_,_,_,_,_,_,rfl,-⟩:=h;obtain ⟨_,_,_,_,_,_,_,_,_,_,_,_,rfl,-⟩:=h';refine vZ _ _ _ _ _ _ _ _ _ _ _ _ _ _ _ _ _ _ _ _ _ _ _ _ _ _ _ _ V _ fun x e=>(oI (f.le e)).mono ?_;rintro r V2 i rfl;refine ⟨_,rfl,fun y j=>(oI (c.le (e.trans (i.trans j)))).mono ?_⟩;rintro r z n rfl;have l:=e.trans (i.trans (j.trans n));refine ⟨_,rfl,fun g=>⟨fun d A B=>?_,fun d C D=>?_⟩,fun g E m=>(mZ (f.le (l.trans m)) (c.le (l.trans m)) s1 s2 s3 s4 hk).mono ?_⟩
 ·unfold Sec.ang;rw [if_pos (of_decide_eq_true d)]
 ·have g:Sec.half a≠Sec.half b:=by simpa using g
  have d:¬Sec.half a<Sec.half b:=of_decide_eq_false d;unfold Sec.ang;rw [if_neg d,if_pos (by omega)]
 ·have g:Sec.half a=Sec.half b:=by simpa using g
  rintro r F G gc;have o:=gc;obtain ⟨_,_,_,_,_,_,rfl⟩:=gc.shape;refine ⟨_,_,_,_,_,_,_,rfl,fun H p=>(oG (o.le p)).mono ?_⟩;rintro r q s rfl;refine ⟨_,rfl,fun t u=>?_⟩;have I:=N0 (a.1*b.2-a.2*b.1);rw [i64w (by omega)];unfold Sec.ang;rw [if_neg (by omega),if_neg (by omega)];show _=Value.int .i64 (-(a.1*b.2-a.2*b.1).num.sign);congr 1;omega
end Go.Proofs.Tryz
namespace Go.Proofs.Tryz
open Go.Eng
set_option maxRecDepth 100000
end Go.Proofs.Tryz
namespace Go.Proofs.Tryz
open Go.Eng Go.Big
theorem tA {V:View}{p:OA}{n:Nat}{al:List L3}(h:Lst 6 RLv V p n al){i:Nat}(hi:i<al.length) :
  p.isSome=true/\∃(b1:Bool)(p1:OA)(n1 c1:Nat)(b2:Bool)(p2:OA)(n2 c2:Nat)(b3:Bool)(p3:OA)(n3 c3:Nat)(a:Addr),addrAdd p (i*6)=some a/\V.at (a.add 0) (.bool b1)/\V.at (a.add 1) (.slice p1 n1 c1)/\V.at (a.add 2) (.bool b2)/\V.at (a.add 3) (.slice p2 n2 c2)/\V.at (a.add 4) (.bool b3)/\V.at (a.add 5) (.slice p3 n3 c3) /\
   RLv V (.agg #[.bool b1,.slice p1 n1 c1,.bool b2,.slice p2 n2 c2,.bool b3,.slice p3 n3 c3]) al[i]:=by
 obtain ⟨g,d,xs,j,f,b⟩:=h.at_ i hi;have c:=f;obtain ⟨_,_,_,_,_,_,_,_,_,_,_,_,e⟩:=rlv_shape f;have e:=congrArg Array.toList (Value.agg.inj e);dsimp only at e;subst e;refine ⟨?_,_,_,_,_,_,_,_,_,_,_,_,_,g,d,b 0 _ rfl,b 1 _ rfl,b 2 _ rfl,b 3 _ rfl,b 4 _ rfl,b 5 _ rfl,c⟩
 cases p with
 | none=>cases d
 | some a=>rfl
theorem F2 {l m:L3}{k:Nat}(sl:jL k l)(sm:jL k m):Sz (20*k+20) (NC l m)/\Sz (20*k+20) (ND l m):=by
 unfold NC ND aV;obtain ⟨a,b,e⟩:=sl;obtain ⟨c,d,f⟩:=sm;exact ⟨(Sz.mul ((b.mul f).sub (e.mul d)) (fm ((a.mul d).sub (b.mul c)))).mono (by omega),(Sz.mul ((e.mul c).sub (a.mul f)) (fm ((a.mul d).sub (b.mul c)))).mono (by omega)⟩
theorem Ar (l:List Nd):∀(f:Nat)(n:Int)(s:RS),s.bad=true->(dB l f n s).2.bad=true
 | 0,_,_,h=>h
 | f+1,n,s,h=>by
  simp only [dB];split
  ·exact h
  ·split
   ·exact h
   ·split
    ·rfl
    ·split
     ·split
      ·exact Ar l f _ _ (Ar l f _ _ h)
      ·rfl
     ·rfl
theorem Jb {l:List Nd}{root:Int}(hl:l.length<=65536):ofT l root=if (dB l (l.length+1) root ⟨List.replicate l.length false,0,false⟩).2.bad=false/\((dB l (l.length+1) root ⟨List.replicate l.length false,0,false⟩).2.seen.all id)=true then some (dB l (l.length+1) root ⟨List.replicate l.length false,0,false⟩).1 else none:=by
 have d:=tE l (l.length+1) root ⟨List.replicate l.length false,0,false⟩;have c:(List.replicate l.length false).count false=l.length:=by simp
 dsimp only at d;rw [c] at d;unfold ofT;rw [if_neg (by omega)];generalize dB l (l.length+1) root ⟨List.replicate l.length false,0,false⟩=r at *
 have e:(r.2.seen.all id)=true↔r.2.jM=l.length:=by
  have f:(r.2.seen.all id)=true↔r.2.seen.count false=0:=by
   rw [List.count_eq_zero,List.all_eq_true];constructor
   ·intro h hm;have:=h false hm;cases this
   ·intro h x g;cases x
    ·exact absurd g h
    ·rfl
  rw [f];omega
 dsimp only;by_cases a:r.2.bad=true
 ·rw [if_pos (.inl a),if_neg (fun h=>by rw [a] at h;cases h.1)]
 ·have a:r.2.bad=false:=by simpa using a
  by_cases b:r.2.jM=l.length
  ·rw [if_neg (by rintro (h|h);rw [a] at h;cases h;exact h b),if_pos ⟨a,e.2 b⟩]
  ·rw [if_pos (.inr b),if_neg (fun h=>b (e.1 h.2))]
theorem uQ {p:L3->Prop}:∀{t:Tr} {k:Nat},t.All p->∀x∈wr k t,p x.ln
 | .leaf _,_,_,x,h=>by simp [wr] at h
 | .node l a b,k,⟨h1,h2,h3⟩,x,h=>by
  simp only [wr,List.mem_cons,List.mem_append] at h;rcases h with rfl|h|h
  ·exact h1
  ·exact uQ h2 x h
  ·exact uQ h3 x h
theorem JK {V:View}{t:Tr}{p:OA}(h:RW V p t):p.isSome=true:=by
 cases t with
 | leaf i=>obtain ⟨b,a,c,d,e,f,g,j,k,rfl,m⟩:=h;rfl
 | node l x y=>obtain ⟨b,i,n,o,q,r,s,u,v,a,w,z,A,c,pl,B,rfl,-⟩:=h;rfl
theorem KC:∀(t:Tr) {V:View} {p:OA} {lb:Nat} {n c:Nat} {vs:List Value} {l:List Nd},RW V p t->t.All Okb->n=l.length ->
  (vs≠[]->V.w.heap[lb]?=some (.cells vs.toArray 78 (0,0)))->(vs≠[]->V.X lb)->n<=c->c*8<=vs.length->NR V vs l->n+t.size<=1000000 ->
  Acts prog 42 #[.pointer p,.slice (mA lb c) n c] V fun r V'=>∃(bm:Nat)(vm:List Value)(c':Nat),(vm≠[]->V'.w.heap[bm]?=some (.cells vm.toArray 78 (0,0)))/\(vm≠[]->V.w.heap.size<=bm\/(vs≠[]/\bm=lb)) /\
   r=.tuple #[.slice (mA bm c') (n+t.size) c',.int .i64 (rt n t)]/\n+t.size<=c'/\c'*8<=vm.length/\NR (V'.hideG (vm≠[]) bm) vm (l++wr n t)/\(t.size=0->c'=c):=by
 intro t
 induction t with
 | leaf i=>
  intro V p lb n c vs l H _ I a s z A B J;have f:=JK H;obtain ⟨b,S,T,c4,c5,c6,c7,c8,c9,rfl,C⟩:=H
  have fin:∀(F:View)(k:Nat)(x:Int),V.Le (F.hideG (vs≠[]) k)->(vs≠[]->F.w.heap[k]?=some (.cells vs.toArray 78 (0,0))) ->
    (vs≠[]->V.w.heap.size<=k\/(vs≠[]/\k=lb)\/False)->x=rt n (.leaf i)->∃(bm:Nat)(vm:List Value)(c':Nat),(vm≠[]->F.w.heap[bm]?=some (.cells vm.toArray 78 (0,0)))/\(vm≠[]->V.w.heap.size<=bm\/(vs≠[]/\bm=lb)) /\
   Value.tuple #[.slice (mA k c) n c,.int .i64 x]=.tuple #[.slice (mA bm c') (n+(Tr.leaf i).size) c',.int .i64 (rt n (.leaf i))]/\n+(Tr.leaf i).size<=c'/\c'*8<=vm.length/\NR (F.hideG (vm≠[]) bm) vm (l++wr n (.leaf i))/\((Tr.leaf i).size=0->c'=c):=by
   intro F k x hle e3 e4 U;refine ⟨k,vs,c,e3,fun h=>?_,by rw [U];rfl,z,A,?_,fun _=>rfl⟩
   ·rcases e4 h with h|h|h
    ·exact .inl h
    ·exact .inr h
    ·exact h.elim
   ·simp only [wr,List.append_nil];exact B.le hle
  refine mB _ lb n c vs V _ a s ⟨f,f,true,rdc C 0 rfl,fun _=>⟨f,f,i,rdc C 1 rfl,fun W V1 k K G Y=>fin V1 k _ K G Y (by subst W;rfl),fun W V2 k K G Y=>fin V2 k _ K G Y (by subst W;rfl)⟩,fun h=>by cases h⟩
 | node ln x y L8 ihy=>
  intro V p lb n c vs l H L I a s z A B J;have f:=JK H;simp only [Tr.size] at J;obtain ⟨⟨-,Z⟩,a0,Yq⟩:=L;obtain ⟨b,i,b1,p1,n1,c1,b2,p2,n2,S,b3,p3,n3,T,pl,pr,rfl,C,hl,U,hy⟩:=H
  have g:∀j v,([.bool b1,.slice p1 n1 c1,.bool b2,.slice p2 n2 S,.bool b3,.slice p3 n3 T]:List Value)[j]?=some v->V.at (((⟨b,2,none⟩:Addr)).add j) v:=by
   intro j v a
   have M:j<6:=by
    rcases Nat.lt_or_ge j 6 with M|M
    ·exact M
    ·rw [List.getElem?_eq_none (by simpa using M)] at a;cases a
   have h2:(⟨b,2,none⟩:Addr)=(⟨b,0,none⟩:Addr).add 2:=by rw [add_zero']
   rw [h2,addadd,add_zero'];refine blk_at (xs:=[_,_,_,_,_,_,_,_,_,_]) C ?_
   match j,M,a with
   | 0,_,a=>exact a
   | 1,_,a=>exact a
   | 2,_,a=>exact a
   | 3,_,a=>exact a
   | 4,_,a=>exact a
   | 5,_,a=>exact a
  obtain ⟨t1,t2,t3⟩:=Z.af;refine mB _ lb n c vs V _ a s ⟨f,f,false,rdc C 0 rfl,(fun h=>by cases h),fun _=>⟨f,f,b1,p1,n1,c1,b2,p2,n2,S,b3,p3,n3,T,⟨b,2,none⟩,by simp [addrAdd,add_zero'],g 0 _ rfl,g 1 _ rfl,g 2 _ rfl,g 3 _ rfl,g 4 _ rfl,g 5 _ rfl,fun F l3=>(BF (hl.le l3) (by omega) (by omega) (by omega)).mono ?_⟩⟩;rintro r V4 l4 O8;have SA:=O8;obtain ⟨d1,q1,m1,e1,d2,q2,m2,e2,d3,q3,m3,e3,rfl⟩:=pZ O8;have D:=l3.trans l4;refine ⟨_,_,_,_,_,_,_,_,_,_,_,_,rfl,by omega,z,A,rfl,by intro v a;simp at a;rcases a with rfl|rfl|rfl|rfl|rfl|rfl|rfl|rfl<;>rfl,fun sp c' g1 g2=>?_⟩;have a4:=D _ _ C;refine ⟨f,f,pl,rdc a4 8 rfl,fun m l5 N f1 f2=>?_⟩;have d:=NR.push (sp:=sp) (x:=0) (y:=0) (B.le D) (by omega) (ln:=ln) SA;rw [←I] at d;generalize hrow:vs.take (n*8)++([_,_,_,_,_,_,_,_]:List Value)++sp=row at f1 f2 d ⊢
  have O:row.length=n*8+8+sp.length:=by
   rw [←hrow];simp only [List.length_append,List.length_take,List.length_cons,List.length_nil];omega
  have S2:row≠[]:=fun e=>by rw [e] at O;simp only [List.length_nil] at O;omega
  have E:=D.trans l5;have i1:=L8 (V:=m.lend [vb row m.w.heap.size N]) (p:=pl) (lb:=N) (n:=n+1) (c:=c') (vs:=row) (l:=l++[⟨ln,0,0⟩]) (RW.le (V:=V) (V':=m.lend _) (fun b o h=>E b o h) U) a0 (by simp [I]) f1 (fun h=>⟨by simp [vb_ne h],f2 h⟩) g1 (by omega) (NR.le (V:=V4) (V':=m.lend _) d fun b o h=>l5 b o h) (by omega);refine i1.mono ?_;rintro r V6 l6 ⟨bm,vm,a8,K,G,rfl,a5,a6,a7,-⟩;have a9:m.Le V6:=fun b o h=>l6 b o h;have Wn:m.Le (V6.shut.hideG (vm≠[]) bm):=Ck (V':=m) a9 (View.Le.refl m) fun h=>(G h).imp id fun h'=>by rw [h'.2];exact f2 S2
  refine ⟨bm,vm,K,G,none,_,_,_,rfl,f,f,pr,rdc ((E.trans Wn) _ _ C) 9 rfl,fun P l7 Q d1 d2=>?_⟩;have Wg:vm≠[]:=fun e=>by rw [e] at a6;simp at a6;omega
  have K0:V.Le P:=(E.trans Wn).trans l7;have i2:=ihy (V:=P.lend [vb vm P.w.heap.size Q]) (p:=pr) (lb:=Q) (n:=n+1+x.size) (c:=a8) (vs:=vm) (l:=l++[⟨ln,0,0⟩]++wr (n+1) x) (RW.le (V:=V) (V':=P.lend _) (fun b o h=>K0 b o h) hy) Yq (by simp [I,eo];omega) d1 (fun h=>⟨by simp [vb_ne h],d2 h⟩) a5 a6 (NR.le (V:=V6.hideG (vm≠[]) bm) (V':=P.lend _) a7 fun b o h=>l7 b o h) (by omega);refine i2.mono ?_;rintro r V8 l8 ⟨bn,R,b0,b4,b8,rfl,b5,b6,b7,-⟩;have hlen:n*8+8<=R.length:=by omega
  simp only [Int.toNat_natCast];refine ⟨bn,R,b4,b8,none,_,_,_,rfl,⟨by omega,by omega⟩,b5,by omega,⟨by omega,by omega⟩,b5,by rw [List.length_set];omega,fun V9 Oe u1 u4 u5=>?_⟩;have q:=NR.kids (V:=V8.hideG (R≠[]) bn) (l:=l) (r:=wr (n+1) x++wr (n+1+x.size) y) (ln:=ln) (u:=0) (v:=0) (x:=rt (n+1) x) (y:=rt (n+1+x.size) y) (by simpa using b7);rw [←I] at q;refine ⟨Oe,_,b0,u4,fun h=>?_,by rw [show n+(Tr.node ln x y).size=n+1+x.size+y.size from by simp only [Tr.size];omega];rfl,by simp only [Tr.size];omega,by simp only [List.length_set];omega,?_,fun h=>by simp only [Tr.size] at h;omega⟩
  ·rcases u5 h with h|h|h
   ·exact .inl h
   ·exact .inr h
   ·exact h.elim
  ·simp only [wr];exact NR.le (V:=V8.hideG (R≠[]) bn) q fun b o h=>u1 b o h
theorem uc {V:View}{p:OA}{t:Tr}(h:RW V p t)(ha:t.All Okb)(hs:t.size<=1000000) :
  Acts prog 12 #[.pointer p] V fun r V'=>AT V' r (rt 0 t) (wr 0 t)/\(t.size=0->r=.agg #[.int .i64 (rt 0 t),.slice none 0 0]):=by
 refine wo p V _ fun g j=>?_;refine Acts.P0 (KC t (V:=g) (lb:=0) (vs:=[]) (l:=[]) (n:=0) (c:=0) (h.le j) ha rfl (fun h=>absurd rfl h) (fun h=>absurd rfl h) (Nat.le_refl _) (Nat.le_refl _) (fun i d k=>by simp at k) (by omega)) ?_;rintro r V2 B C ⟨m,vm,q,s,u,rfl,a,D,e,v⟩;refine ⟨m,vm,s,fun h=>(u h).imp id fun w=>absurd rfl w.1,none,_,_,_,rfl,fun x y z A=>?_⟩;simp only [List.nil_append,Nat.zero_add] at e a ⊢;have:=NS.ofRow (V:=x) (b:=z) (c:=q) (vm:=vm) (l:=wr 0 t) (ty:=78) A (by rw [eo];exact a) (e.le fun b o h=>y b o h);rw [eo] at this;refine ⟨⟨_,_,_,rfl,this⟩,fun f=>?_⟩;rw [v f,f];rfl
theorem wU {V:View}{p:OA}{t:Tr}(h:RW V p t)(ha:t.All Okb)(hs:t.size<=1000000) :
  Acts prog 12 #[.pointer p] V fun r V'=>AT V' r (rt 0 t) (wr 0 t):=(uc h ha hs).mono fun _ _ _ h=>h.1
def Fs (V:View):View:=⟨V.w,fun b=>b<V.w.heap.size,fun _=>False,fun _ h=>h,fun _ h=>h.elim⟩
theorem DG {f:FuncId}{args:Array Value}{V:View}{o:Obj}(h:Acts prog f args (Fs V) fun r V'=>∃bk,r=.pointer (some ⟨bk,0,none⟩)/\V'.aS bk o) :
  Acts prog f args V fun r V'=>∃bk,r=.pointer (some ⟨bk,0,none⟩)/\V.w.heap.size<=bk/\V'.aS bk o:=
 ⟨h.1,h.2.mono fun _ _ ⟨_,he,a,bk,d,c⟩=>⟨_,he,⟨a.size,fun b c _=>a.aS b c (fun h=>h),a.os,a.tape,a.out⟩,bk,d,Nat.le_of_not_lt c.1,fun e=>c.1 (V.hH bk e),c.2⟩⟩
theorem BG {V:View}{lp:OA}{ln lc:Nat}(hc:ln<=lc) :
  Acts prog 9 #[.slice lp ln lc] V fun r V'=>∃bk,r=.pointer (some ⟨bk,0,none⟩)/\V.w.heap.size<=bk/\V'.aS bk (.cells #[.slice lp (min ln 400) lc,.int .i64 0] 102 (0,0)):=by
 refine DG (Bb lp ln lc (Fs V) _ ?_)
 have e:bJ (ln:Int) 400=((min ln 400:Nat):Int):=by
  unfold bJ;simp only [Nat.min_def];split<;>split<;>omega
 rw [e,Int.toNat_natCast];have:=Nat.min_le_left ln 400;exact ⟨⟨by omega,by omega⟩,fun b c bk a=>⟨bk,rfl,a⟩⟩
theorem tB {t:Tr}(h:t.All Okb):t.All fun x=>okL x=true:=Tr.All.imp (fun _ h=>h.1) h
theorem NL {t:Tr}(h:t.All Okb):t.All Bd:=Tr.All.imp (fun _ h=>h.2) h
end Go.Proofs.Tryz
namespace Go.Eng
end Go.Eng
namespace Go.Proofs.Tryz
open Go.Eng Go.Big
theorem tj {a b:Rat}:eM a b<0↔a<b:=by
 constructor
 ·intro h;by_cases c:a<b
  ·exact c
  ·by_cases e:a=b
   ·have:=h_.1 e;omega
   ·have:=th.1 (show b<a by grind);omega
 ·intro h;have:=zT.1 h;omega
theorem Fh {a b:Rat}:eM a b>0↔b<a:=by
 constructor
 ·intro h;rcases gy a b with ⟨g,e⟩|⟨g,e⟩|⟨g,e⟩<;>first|omega|exact g
 ·intro h;have:=th.1 h;omega
abbrev WX:=Bool×OA×Nat×Nat×OA×Nat×Nat×Bool×OA×Nat×Nat×OA×Nat×Nat×Bool×Bool
def QY (z:WX):Value:=.agg #[.bool z.1,.slice z.2.1 z.2.2.1 z.2.2.2.1,.slice z.2.2.2.2.1 z.2.2.2.2.2.1 z.2.2.2.2.2.2.1,.bool z.2.2.2.2.2.2.2.1,.slice z.2.2.2.2.2.2.2.2.1 z.2.2.2.2.2.2.2.2.2.1 z.2.2.2.2.2.2.2.2.2.2.1,.slice z.2.2.2.2.2.2.2.2.2.2.2.1 z.2.2.2.2.2.2.2.2.2.2.2.2.1 z.2.2.2.2.2.2.2.2.2.2.2.2.2.1,.bool z.2.2.2.2.2.2.2.2.2.2.2.2.2.2.1,.bool z.2.2.2.2.2.2.2.2.2.2.2.2.2.2.2]
theorem WA {V:View}{xb:Bool}{xp:OA}{xn xc:Nat}{xq:OA}{xm xe:Nat}{yb:Bool}{yp:OA}{yn yc:Nat}{yq:OA}{ym ye:Nat}{xa ya:Bool}{s:Sp}(h:lf V (.agg #[.bool xb,.slice xp xn xc,.slice xq xm xe,.bool yb,.slice yp yn yc,.slice yq ym ye,.bool xa,.bool ya]) s):xa=s.a/\ya=s.b/\RQ V (.agg #[.bool xb,.slice xp xn xc,.slice xq xm xe]) s.lo/\RQ V (.agg #[.bool yb,.slice yp yn yc,.slice yq ym ye]) s.hi:=by
 obtain ⟨_,_,_,_,_,_,_,_,_,_,_,_,_,_,e,c,d⟩:=h;have e:=congrArg Array.toList (Value.agg.inj e);simp only [List.cons.injEq,Value.bool.injEq,Value.slice.injEq,and_true] at e;obtain ⟨rfl,⟨rfl,rfl,rfl⟩,⟨rfl,rfl,rfl⟩,rfl,⟨rfl,rfl,rfl⟩,⟨rfl,rfl,rfl⟩,rfl,rfl⟩:=e;exact ⟨rfl,rfl,c,d⟩
theorem Qw {V:View}{xb:Bool}{xp:OA}{xn xc:Nat}{xq:OA}{xm xe:Nat}{yb:Bool}{yp:OA}{yn yc:Nat}{yq:OA}{ym ye:Nat}{xa ya:Bool}{s:Sp}(ea:xa=s.a)(eb:ya=s.b)(h1:RQ V (.agg #[.bool xb,.slice xp xn xc,.slice xq xm xe]) s.lo)(h2:RQ V (.agg #[.bool yb,.slice yp yn yc,.slice yq ym ye]) s.hi):lf V (.agg #[.bool xb,.slice xp xn xc,.slice xq xm xe,.bool yb,.slice yp yn yc,.slice yq ym ye,.bool xa,.bool ya]) s:=by
 subst ea eb;exact ⟨_,_,_,_,_,_,_,_,_,_,_,_,_,_,rfl,h1,h2⟩
def lY (l m:L3)(s:Sp):Sp:=if 0<(bN m l).num.sign then (if s.a=true\/s.lo<kc l m then ⟨kc l m,s.hi,false,s.b⟩ else s) else (if s.b=true\/kc l m<s.hi then ⟨s.lo,kc l m,s.a,false⟩ else s)
theorem yC {l m:L3}{s:Sp}(hc:aV l m≠0):oP l m s=if (lY l m s).a=false/\(lY l m s).b=false/\(lY l m s).hi<=(lY l m s).lo then none else some (lY l m s):=by
 unfold oP;rw [if_neg hc];rfl
theorem Gt {l m:L3}{s:Sp}(hc:aV l m=0):oP l m s=if (aj m (dE l 0) (dS l 0)).num.sign<=0 then none else some s:=by
 unfold oP;rw [if_pos hc]
theorem F3 {l m:L3}(hl:Nz l)(bl:Bd l)(bm:Bd m)(hc:aV l m≠0):Sz 100000 (kc l m):=by
 rw [vg hl hc];exact (mR bl.szl bm.szl).mono (by omega)
theorem NF {l m:L3}{s:Sp}(hl:Nz l)(bl:Bd l)(bm:Bd m)(hc:aV l m≠0)(hs:s.sz 100000):(lY l m s).sz 100000:=by
 have:=F3 hl bl bm hc;unfold lY;split<;>split<;>first|exact hs|exact ⟨this,hs.2⟩|exact ⟨hs.1,this⟩
theorem Ia {l m:L3}{s w:Sp}(hl:Nz l)(bl:Bd l)(bm:Bd m)(sg:s.fR)(hs:s.sz 100000)(e:oP l m s=some w):w.fR/\w.sz 100000:=by
 rw [uy hl sg] at e;split at e
 ·rename_i g;cases e;exact ⟨gL sg g,tG bl.szl bm.szl hs (by omega)⟩
 ·cases e
theorem FL {V:View}{v:Value}{L:L3}(h:RL V v L.1 L.2.1 L.2.2)(hz:Nz L)(hb:Bd L):Acts prog 80 #[v] V fun r V'=>RP V' r (dE L 0) (dS L 0):=by
 have sl:=hb.szl;refine (oH h (Eu hz) sl.1 sl.2.1 sl.2.2 (by omega)).mono fun r V' _ g=>?_;have b:dE L 0=_:=rfl;unfold dE dS;unfold eG;have a:∀x y:Rat,x=y->∀z w:Rat,z=w->RP V' r x z->RP V' r y w:=by rintro x _ rfl z _ rfl h;exact h
 refine a _ _ ?_ _ _ ?_ g<;>grind
theorem AG {L:L3}(hb:Bd L):Sz 30000 (dE L 0)/\Sz 30000 (dS L 0):=by
 have sl:=hb.szl;exact ⟨Sz.mono (EC sl (EE 1000 (by omega))) (by omega),Sz.mono (ED sl (EE 1000 (by omega))) (by omega)⟩
theorem zQ {V:View}{cp:OA}{cn cc:Nat}{ls:List L3}{i:Nat}(h:Lst 6 RLv V cp cn ls)(hb:∀l∈ls,Bd l)(hk:∀l∈ls,okL l=true)(hl:ls.length<=1000)(hi:i<ls.length) :
  Acts prog 97 #[.slice cp cn cc,.int .i64 i] V fun r V'=>∃u s,r=.tuple #[u,.bool (edgeG ls[i] ls fullSp).isSome]/\lf V' u s/\s.sz 100000/\∀w,edgeG ls[i] ls fullSp=some w->s=w:=by
 have hn:=h.len;subst hn;obtain ⟨is,b1,p1,n1,c1,b2,p2,n2,c2,b3,p3,n3,c3,a,a6,a0,a1,a2,a3,a4,a5,o⟩:=tA h hi;have x:=hb _ (List.getElem_mem hi);have ok:=hk _ (List.getElem_mem hi);generalize el:ls[i]=L at *;have sl:=x.szl;have nz:=Jc ok;have hd:=mi x;refine xS cp ls.length cc (i:Int) V _ ⟨is,⟨by omega,by omega⟩,b1,p1,n1,c1,b2,p2,n2,c2,b3,p3,n3,c3,a,(by rw [Int.toNat_natCast];exact a6),a0,a1,a2,a3,a4,a5,fun V1 l1=>hZ.mono ?_⟩;rintro r V2 l2 gf;have X9:=gf;obtain ⟨_,_,_,_,_,_,_,_,_,_,_,_,_,_,rfl⟩:=CQ gf;have a7:=l1.trans l2;refine ⟨_,_,_,_,_,_,_,_,_,_,_,_,_,_,_,_,rfl,fun z V'=>∃(j:Nat)(s:Sp),z.1=(j:Int)/\j<=ls.length/\lf V' (QY z.2) s/\s.fR/\s.sz 100000/\edgeG L ls fullSp=edgeG L (ls.drop j) s,fun z=>(ls.length-z.1).toNat,⟨(0,_,_,_,_,_,_,_,_,_,_,_,_,_,_,_,_),by and_intros<;>first|rfl|trivial,0,fullSp,rfl,Nat.zero_le _,X9,bu,Fo (by omega),by rw [List.drop_zero]⟩,?_⟩;rintro ⟨z,I,J,N,O,P,Q,R,S,T,U,X,Y,Z,ye,xa,ya⟩ V3 l3 ⟨j,s,ez,hj,gs,sg,ss,d⟩;dsimp only [QY] at ez gs ⊢;subst ez;obtain ⟨rfl,rfl,D,E⟩:=WA gs;have y:=a7.trans l3;refine ⟨by trivial,fun f=>?_,fun f WZ Me=>?_⟩;rotate_left
 ·have e:j=ls.length:=by have:=of_decide_eq_false f;omega
  subst e;rw [List.drop_length] at d;exact ⟨_,s,by rw [d];rfl,gs.le Me,ss,fun w e=>by rw [d] at e;exact Option.some.inj e⟩
 have f:j<ls.length:=by have:=of_decide_eq_true f;omega
 have w1:i64.wrap ((j:Int)+1)=((j+1:Nat):Int):=by rw [i64w (by omega)];rfl
 rw [w1,Int.toNat_natCast];obtain ⟨Ok,B1,P1,N1,C1,B2,P2,N2,C2,B3,P3,N3,C3,A,Yf,A0,A1,A2,A3,A4,A5,p⟩:=tA (h.le y fun _ _ g=>RLv.le g y) f;have F:=hb _ (List.getElem_mem f);have sm:=F.szl;have D5:=mi F;have ej:j=i->ls[j]=L:=fun e=>by subst e;exact el
 have ed:ls.drop j=ls[j]::ls.drop (j+1):=List.drop_eq_getElem_cons f;rw [ed] at d;generalize ls[j]=M at *;have XX:edgeG L (M::ls.drop (j+1)) s=if M=L then edgeG L (ls.drop (j+1)) s else match oP L M s with|some s'=>edgeG L (ls.drop (j+1)) s'|none=>none:=rfl
 rw [XX] at d;have next:∀{W:View} {I:Bool} {J:OA} {N O:Nat} {P:OA} {Q R:Nat} {S:Bool} {T:OA} {U X:Nat} {Y:OA} {Z ye:Nat} {xa ya:Bool} {s':Sp},lf W (.agg #[.bool I,.slice J N O,.slice P Q R,.bool S,.slice T U X,.slice Y Z ye,.bool xa,.bool ya]) s'->s'.fR->s'.sz 100000->edgeG L ls fullSp=edgeG L (ls.drop (j+1)) s'->∃(j':Nat)(s:Sp),((j+1:Nat):Int)=(j':Int)/\j'<=ls.length/\lf W (.agg #[.bool I,.slice J N O,.slice P Q R,.bool S,.slice T U X,.slice Y Z ye,.bool xa,.bool ya]) s/\s.fR/\s.sz 100000/\edgeG L ls fullSp=edgeG L (ls.drop j') s:=fun g1 g2 g3 e=>⟨j+1,_,rfl,f,g1,g2,g3,e⟩;refine ⟨Ok,⟨by omega,by omega⟩,B1,P1,N1,C1,B2,P2,N2,C2,B3,P3,N3,C3,A,Yf,A0,A1,A2,A3,A4,A5,fun z _=>z=decide (M=L),⟨fun c=>⟨true,by and_intros<;>rfl,?_⟩,fun c V4 l4=>(gK (o.le (y.trans l4)) (p.le l4) sl sm (by omega)).mono ?_⟩,?_⟩
 ·exact (decide_eq_true (ej (by have:=of_decide_eq_true c;omega))).symm
 ·rintro r V5 l5 rfl;exact ⟨_,rfl,(BJ L M==(0:Int)),by and_intros<;>rfl,by rw [jS];exact decide_eq_decide.2 eq_comm⟩
 rintro z V6 l6 rfl;refine ⟨by trivial,fun c=>?_,fun c V7 l7=>(Jz (o.le (y.trans (l6.trans l7))) (p.le (l6.trans l7)) sl sm (by omega)).mono ?_⟩
 ·rw [if_pos (of_decide_eq_true c)] at d;exact ⟨(((j+1:Nat):Int),_,_,_,_,_,_,_,_,_,_,_,_,_,_,_,_),by dsimp only;omega,by and_intros<;>rfl,next (gs.le l6) sg ss d⟩
 rw [if_neg (of_decide_eq_false c)] at d;rintro r V8 l8 ⟨u,rfl,q0,q1⟩;obtain ⟨s1,s2⟩:=F2 sl sm;have K1:=l6.trans (l7.trans l8);by_cases q:aV L M=0
 ·have qz:=q0 q;unfold Hz at qz;subst qz;rw [Gt q] at d;refine ⟨_,_,_,_,_,_,_,_,_,_,_,_,_,_,_,rfl,fun _ V9 l9=>(FL (o.le (y.trans (K1.trans l9))) nz x).mono ?_,fun h=>by simp [q] at h⟩;rintro r b6 a8 gB;have R4:=gB;obtain ⟨_,_,_,_,_,_,_,_,_,_,_,_,rfl,-⟩:=gB;have PH:=K1.trans (l9.trans a8);refine ⟨_,_,_,_,_,_,_,_,_,_,_,_,_,_,rfl,fun b7 B=>(Et (p.le (PH.trans B)) (R4.le B) (sm.up (K:=30000) (by omega)) (AG x).1 (AG x).2 (by omega)).mono ?_⟩;rintro r b8 a9 rfl;have PI:=PH.trans (B.trans a9);refine ⟨_,rfl,fun c b9 b0=>?_,fun c=>?_⟩
  ·rw [if_pos (of_decide_eq_true c)] at d;exact ⟨_,s,by rw [d];rfl,gs.le (PI.trans b0),ss,fun w e=>by rw [d] at e;cases e⟩
  ·rw [if_neg (of_decide_eq_false c)] at d;exact ⟨(((j+1:Nat):Int),_,_,_,_,_,_,_,_,_,_,_,_,_,_,_,_),by dsimp only;omega,by and_intros<;>rfl,next (gs.le PI) sg ss d⟩
 have hp:=q1 q;have b4:=hp;obtain ⟨_,_,_,_,_,_,_,_,_,_,_,_,rfl,-⟩:=hp;refine ⟨_,_,_,_,_,_,_,_,_,_,_,_,_,_,_,rfl,fun h=>by simp [q] at h,fun _ c0 c_=>(FM (o.le (y.trans (K1.trans c_))) (b4.le c_) nz (sl.up (K:=30000) (by omega)) (s1.mono (by omega)) (s2.mono (by omega)) (by omega)).mono ?_⟩;rintro r G dq gt;have t:RQ G r (kc L M):=gt;obtain ⟨_,_,_,_,_,_,rfl⟩:=gt.shape;have st:=F3 nz x F q;have PJ:=K1.trans (c_.trans dq);refine ⟨_,_,_,_,_,_,_,rfl,fun ll du=>(dH (p.le (PJ.trans du)) sm.1 sm.2.1 sm.2.2 (by omega)).mono ?_⟩;rintro r ny cM gm;have Ya:=gm;obtain ⟨_,_,_,_,_,_,_,_,_,_,_,_,rfl,-⟩:=gm;have PK:=PJ.trans (du.trans cM);refine ⟨_,_,_,_,_,_,_,_,_,_,_,_,_,_,rfl,fun oD dz=>(dH (o.le (y.trans (PK.trans dz))) sl.1 sl.2.1 sl.2.2 (by omega)).mono ?_⟩;rintro r rZ dY gl;have X_:=gl;obtain ⟨_,_,_,_,_,_,_,_,_,_,_,_,rfl,-⟩:=gl;have Tj:=PK.trans (dz.trans dY);refine ⟨_,_,_,_,_,_,_,_,_,_,_,_,_,_,rfl,fun Bk iO=>(mZ (k:=1000) (Ya.le (dz.trans (dY.trans iO))) (X_.le iO) D5.1 D5.2 hd.1 hd.2 (by omega)).mono ?_⟩;rintro r r_ gC gc
 have O3:RQ r_ r (bN M L):=by
  have e:bN M L=_:=(MU M L).symm;rw [e];exact gc
 obtain ⟨_,_,_,_,_,_,rfl⟩:=gc.shape;have Tk:=Tj.trans (iO.trans gC);refine ⟨_,_,_,_,_,_,_,rfl,fun wI kq=>(oG (O3.le kq)).mono ?_⟩;rintro r xZ je rfl;have C:=Tk.trans (kq.trans je);have Fy:G.Le xZ:=(du.trans cM).trans ((dz.trans dY).trans ((iO.trans gC).trans (kq.trans je)));refine ⟨_,rfl,fun z W=>lf W (QY z) (lY L M s),⟨fun v=>?_,fun v=>?_⟩,?_⟩
 ·have v:0<(bN M L).num.sign:=of_decide_eq_true v;refine ⟨fun z _=>z=decide (s.a=true\/s.lo<kc L M),⟨fun n=>⟨true,by and_intros<;>rfl,?_⟩,fun n Kg H=>(hU (t.le (Fy.trans H)) (D.le (C.trans H)) st ss.1 (by omega)).mono ?_⟩,?_⟩
  ·exact (decide_eq_true (.inl n)).symm
  ·rintro r HA b5 rfl;refine ⟨_,rfl,decide (eM (kc L M) s.lo>(0:Int)),by and_intros<;>rfl,?_⟩;rw [n];exact decide_eq_decide.2 ⟨fun h=>.inr (Fh.1 h),fun h=>h.elim (fun h=>nomatch h) Fh.2⟩
  rintro z MH m rfl;refine ⟨by trivial,fun c=>⟨(_,_,_,_,_,_,_,_,_,_,_,_,_,_,_,_),by and_intros<;>rfl,?_⟩,fun c=>⟨(_,_,_,_,_,_,_,_,_,_,_,_,_,_,_,_),by and_intros<;>rfl,?_⟩⟩
  ·have e:lY L M s=⟨kc L M,s.hi,false,s.b⟩:=by unfold lY;rw [if_pos v,if_pos (of_decide_eq_true c)]
   rw [e];exact Qw rfl rfl (t.le (Fy.trans m)) (E.le (C.trans m))
  ·have e:lY L M s=s:=by unfold lY;rw [if_pos v,if_neg (of_decide_eq_false c)]
   rw [e];exact gs.le (C.trans m)
 ·have v:¬0<(bN M L).num.sign:=of_decide_eq_false v;refine ⟨fun z _=>z=decide (s.b=true\/kc L M<s.hi),⟨fun n=>⟨true,by and_intros<;>rfl,?_⟩,fun n Kg H=>(hU (t.le (Fy.trans H)) (E.le (C.trans H)) st ss.2 (by omega)).mono ?_⟩,?_⟩
  ·exact (decide_eq_true (.inl n)).symm
  ·rintro r HA b5 rfl;refine ⟨_,rfl,decide (eM (kc L M) s.hi<(0:Int)),by and_intros<;>rfl,?_⟩;rw [n];exact decide_eq_decide.2 ⟨fun h=>.inr (tj.1 h),fun h=>h.elim (fun h=>nomatch h) tj.2⟩
  rintro z MH m rfl;refine ⟨by trivial,fun c=>⟨(_,_,_,_,_,_,_,_,_,_,_,_,_,_,_,_),by and_intros<;>rfl,?_⟩,fun c=>⟨(_,_,_,_,_,_,_,_,_,_,_,_,_,_,_,_),by and_intros<;>rfl,?_⟩⟩
  ·have e:lY L M s=⟨s.lo,kc L M,s.a,false⟩:=by unfold lY;rw [if_neg v,if_pos (of_decide_eq_true c)]
   rw [e];exact Qw rfl rfl (D.le (C.trans m)) (t.le (Fy.trans m))
  ·have e:lY L M s=s:=by unfold lY;rw [if_neg v,if_neg (of_decide_eq_false c)]
   rw [e];exact gs.le (C.trans m)
 rw [yC q] at d;have kk:=fun w=>Ia (w:=w) nz x F sg ss;rw [yC q] at kk;have sz:=NF nz x F q ss;generalize lY L M s=s' at *;clear gs D E;rintro ⟨I,J,N,O,P,Q,R,S,T,U,X,Y,Z,ye,xa,ya⟩ MI DE gs;dsimp only [QY] at gs ⊢;obtain ⟨rfl,rfl,D,E⟩:=WA gs;refine ⟨by trivial,fun z _=>z=decide (s'.a=false/\s'.b=false/\s'.hi<=s'.lo),⟨fun n=>⟨fun hb UK GN=>(hU (D.le GN) (E.le GN) sz.1 sz.2 (by omega)).mono ?_,fun hb=>⟨false,by and_intros<;>rfl,?_⟩⟩,fun n=>⟨false,by and_intros<;>rfl,?_⟩⟩,?_⟩
 ·rintro r UL Ny rfl;rw [Bool.not_eq_true'] at n hb;refine ⟨_,rfl,decide (eM s'.lo s'.hi≥(0:Int)),by and_intros<;>rfl,decide_eq_decide.2 ⟨fun h=>⟨n,hb,?_⟩,fun h=>?_⟩⟩
  ·refine Rat.not_lt.1 fun g=>?_;have:=tj.2 g;omega
  ·refine Int.not_lt.1 fun g=>?_;have:=tj.1 g;have:=h.2.2;grind
 ·rw [Bool.not_eq_false'] at hb;exact (decide_eq_false fun h=>by rw [hb] at h;cases h.2.1).symm
 ·rw [Bool.not_eq_false'] at n;exact (decide_eq_false fun h=>by rw [n] at h;cases h.1).symm
 rintro z Rv Cj rfl;refine ⟨by trivial,fun c WY NA=>?_,fun c=>?_⟩
 ·rw [if_pos (of_decide_eq_true c)] at d;exact ⟨_,s',by rw [d];rfl,gs.le (Cj.trans NA),sz,fun w e=>by rw [d] at e;cases e⟩
 ·rw [if_neg (of_decide_eq_false c)] at d kk;obtain ⟨k1,k2⟩:=kk _ rfl;exact ⟨(((j+1:Nat):Int),_,_,_,_,_,_,_,_,_,_,_,_,_,_,_,_),by dsimp only;omega,by and_intros<;>rfl,next (gs.le Cj) k1 k2 d⟩
def partsC:Tr->List Sd->List (List Sd×Bool)
 | .leaf b,c=>[(c,b)]
 | .node l x y,c=>(match clipC c l with|some d=>partsC x d|none=>[])++(match clipC c (revL l) with|some d=>partsC y d|none=>[])
def cellsR:Tr->List L3->List (List L3×Bool)
 | .leaf b,ls=>if ls=[]\/refC ls ls []≠[] then [(refC ls ls [],b)] else []
 | .node l x y,ls=>if ls=[]\/refC ls ls []≠[] then cellsR x (refC ls ls []++[l])++cellsR y (refC ls ls []++[revL l]) else []
theorem H2 {c d:List Sd}{l:L3}(e:clipC c l=some d):∀s∈d,s.1=l\/s.1∈c.map Prod.fst:=fun s a=>by
 unfold clipC at e;split at e
 ·cases e;rcases jX.1 a with rfl|a
  ·exact .inl rfl
  ·obtain ⟨u,hu,-,rfl⟩:=uq.1 a;exact .inr (List.mem_map.2 ⟨u,hu,rfl⟩)
 ·split at e
  ·cases e;exact .inr (List.mem_map.2 ⟨s,a,rfl⟩)
  ·cases e
theorem Ii {S M:List L3}(hsub:∀m∈S,m∈M)(hk:∀m∈M,okL m=true)(KQ:∀p:Sec.V2,(∀m∈S,0<=aj m p.1 p.2)->∀m∈M,0<=aj m p.1 p.2){q:Sec.V2}(hq:Sec.pos M q){x:L3}(hx:x∈S){p:Sec.V2}(p0:aj x p.1 p.2=0)(p1:∀m∈S,m≠x->0<aj m p.1 p.2):∀m∈M,m≠x->0<aj m p.1 p.2:=by
 have h:∀s∈S,0<=aj s p.1 p.2:=fun s a=>by
  by_cases es:s=x
  ·rw [es,p0];decide
  ·exact Rat.le_of_lt (p1 s a es)
 intro m hm c;have u:=KQ p h m hm;by_cases e:aj m p.1 p.2=0
 ·exfalso;have i:=hk x (hsub x hx);by_cases f:Sec.cr (Sec.dirL m) (Sec.dirL x)=0
  ·rcases JL (hk m hm) i e p0 f with g|g
   ·exact c g
   ·have j:=hq m hm;have w:=hq x (hsub x hx);rw [g,val_rev] at j;grind
  ·have k:Sec.nv m (Sec.dirL x)≠0:=fun g=>f (by unfold Sec.nv Sec.dirL at g;unfold Sec.cr Sec.dirL;dsimp only at g ⊢;grind);have b:Sec.nv x (Sec.dirL x)=0:=by unfold Sec.nv Sec.dirL;dsimp only;grind
   obtain ⟨v,z,d⟩:∃v:Sec.V2,Sec.nv m v<0/\Sec.nv x v=0:=by
    by_cases g:Sec.nv m (Sec.dirL x)<0
    ·exact ⟨_,g,b⟩
    ·refine ⟨(-(Sec.dirL x).1,-(Sec.dirL x).2),?_,?_⟩
     ·have:Sec.nv m (-(Sec.dirL x).1,-(Sec.dirL x).2)=-Sec.nv m (Sec.dirL x):=by unfold Sec.nv;dsimp only;grind
      rw [this];grind
     ·have:Sec.nv x (-(Sec.dirL x).1,-(Sec.dirL x).2)=-Sec.nv x (Sec.dirL x):=by unfold Sec.nv;dsimp only;grind
      rw [this,b];decide
   obtain ⟨t,t0,l⟩:=Sec.vC ((S.filter fun s=>decide (s≠x)).map fun s=>(aj s p.1 p.2,Sec.nv s v)) (fun y n=>by
    obtain ⟨s,a,rfl⟩:=List.mem_map.1 n;obtain ⟨o,r⟩:=List.mem_filter.1 a;exact p1 s o (of_decide_eq_true r))
   have key:∀s∈S,0<=aj s (p.1+t*v.1) (p.2+t*v.2):=fun s a=>by
    rw [Sec.fX];by_cases es:s=x
    ·rw [es,p0,d];have:(0:Rat)+t*0=0:=by grind
     rw [this];decide
    ·exact Rat.le_of_lt (l _ (List.mem_map.2 ⟨s,List.mem_filter.2 ⟨a,decide_eq_true es⟩,rfl⟩))
   have:=KQ (p.1+t*v.1,p.2+t*v.2) key m hm;dsimp only at this;rw [Sec.fX,e] at this;have:=Sec.mp t0 (show -Sec.nv m v>0 by grind);grind
 ·grind
theorem OX {S M:List L3}(hsub:∀m∈S,m∈M)(hk:∀m∈M,okL m=true)(KQ:∀p:Sec.V2,(∀m∈S,0<=aj m p.1 p.2)->∀m∈M,0<=aj m p.1 p.2){q:Sec.V2}(hq:Sec.pos M q){x:L3}(hx:x∈S)(e:Sec.Es S x):Sec.Es M x:=by
 obtain ⟨p,a,b⟩:=e;exact ⟨p,a,Ii hsub hk KQ hq hx a b⟩
theorem H0 {M:List L3}{c:List Sd}(h:CanC M c)(hk:∀m∈M,okL m=true){l:L3}(hl:okL l=true) :
  (∀d,clipC c l=some d->refC (c.map Prod.fst++[l]) (c.map Prod.fst++[l]) []=d.map Prod.fst/\d.map Prod.fst≠[])/\(clipC c l=none->refC (c.map Prod.fst++[l]) (c.map Prod.fst++[l]) []=[]):=by
 have ok:=CX h hk;have j:∀m∈c.map Prod.fst++[l],okL m=true:=fun m hm=>(List.mem_append.1 hm).elim (ok m) fun g=>by rw [List.mem_singleton.1 g];exact hl
 have y:∀m∈l::M,okL m=true:=fun m hm=>(List.mem_cons.1 hm).elim (fun g=>g▸hl) (hk m)
 have a:∀m∈c.map Prod.fst++[l],m∈l::M:=fun m hm=>(List.mem_append.1 hm).elim (fun g=>by
  obtain ⟨s,b,rfl⟩:=List.mem_map.1 g;exact List.mem_cons_of_mem _ (h.mem s b).1) fun g=>by rw [List.mem_singleton.1 g];exact List.mem_cons_self ..
 have E:∀q,Sec.pos (c.map Prod.fst++[l]) q->Sec.pos (l::M) q:=fun q f m hm=>by
  rcases List.mem_cons.1 hm with rfl|hm
  ·exact f m (List.mem_append_right _ (List.mem_singleton.2 rfl))
  ·exact (Hg h hk q).1 (fun m hm=>f m (List.mem_append_left _ hm)) m hm
 have F:∀p:Sec.V2,(∀m∈c.map Prod.fst++[l],0<=aj m p.1 p.2)->∀m∈l::M,0<=aj m p.1 p.2:=fun p z m hm=>by
  rcases List.mem_cons.1 hm with rfl|hm
  ·exact z m (List.mem_append_right _ (List.mem_singleton.2 rfl))
  ·exact zS h hk (fun s b=>z _ (List.mem_append_left _ (List.mem_map.2 ⟨s,b,rfl⟩))) m hm
 obtain ⟨G,H⟩:=clip_ok h hk hl;obtain ⟨A,B⟩:=HZ j;constructor
 ·intro d e;have k:=G d e;obtain ⟨q,f⟩:=k.pos
  cases e3:lN (c.map Prod.fst++[l]) [] [] with
  | none=>exact absurd ⟨q,fun m hm=>f m (a m hm)⟩ (B e3).2.2
  | some c3=>
   obtain ⟨C,n,i⟩:=A c3 e3
   have D:c3.map Prod.fst=d.map Prod.fst:=by
    refine tR (List.pairwise_map.2 n.asc) (List.pairwise_map.2 k.asc) fun x=>⟨fun r=>?_,fun r=>?_⟩
    ·obtain ⟨s,b,rfl⟩:=List.mem_map.1 r;have o:=List.mem_reverse.1 (n.mem s b).1
     have es:Sec.Es (c.map Prod.fst++[l]) s.1:=by
      obtain ⟨p,t,u⟩:=FX n (fun m hm=>j m (List.mem_reverse.1 hm)) b;exact ⟨p,t,fun m hm=>u m (List.mem_reverse.2 hm)⟩
     obtain ⟨v,w⟩:=k.all s.1 (a _ o) (OX a y F f o es);exact List.mem_map.2 ⟨_,w,rfl⟩
    ·obtain ⟨s,b,rfl⟩:=List.mem_map.1 r
     have o:s.1∈c.map Prod.fst++[l]:=by
      rcases H2 e s b with g|g
      ·rw [g];exact List.mem_append_right _ (List.mem_singleton.2 rfl)
      ·exact List.mem_append_left _ g
     obtain ⟨p,t,u⟩:=FX k y b;obtain ⟨v,w⟩:=n.all s.1 (List.mem_reverse.2 o) ⟨p,t,fun m hm=>u m (a m (List.mem_reverse.1 hm))⟩;exact List.mem_map.2 ⟨_,w,rfl⟩
   rw [C,D];refine ⟨rfl,fun g=>?_⟩;rcases i with i|i
   ·have:=congrArg List.length i;simp at this
   ·rw [C,D,g] at i;exact i rfl
 ·intro e
  cases e3:lN (c.map Prod.fst++[l]) [] [] with
  | none=>exact (B e3).1
  | some c3=>
   obtain ⟨q,f⟩:=(A c3 e3).2.1.pos;exact absurd ⟨q,E q fun m hm=>f m (List.mem_reverse.2 hm)⟩ (H e)
theorem uh:∀{t:Tr} {M:List L3} {c:List Sd} {ls:List L3},CanC M c->(∀m∈M,okL m=true)->t.All (fun l=>okL l=true)->(ls=[]\/refC ls ls []≠[])->refC ls ls []=c.map Prod.fst->cellsR t ls=(partsC t c).map fun p=>(p.1.map Prod.fst,p.2)
 | .leaf b,M,c,ls,_,_,_,h0,e=>by
  unfold cellsR partsC;rw [if_pos h0,e];rfl
 | .node l x y,M,c,ls,h,hk,ht,h0,e=>by
  obtain ⟨hl,hx,hy⟩:=ht;unfold cellsR partsC;rw [if_pos h0,e,List.map_append]
  have half:∀{m:L3} {z:Tr},okL m=true->(∀{M:List L3} {c:List Sd} {ls:List L3},CanC M c->(∀m∈M,okL m=true)->(ls=[]\/refC ls ls []≠[])->refC ls ls []=c.map Prod.fst->cellsR z ls=(partsC z c).map fun p=>(p.1.map Prod.fst,p.2))->cellsR z (c.map Prod.fst++[m])=(match clipC c m with|some d=>partsC z d|none=>[]).map (fun p:List Sd×Bool=>(p.1.map Prod.fst,p.2)):=fun {m z} hm j=>by
   obtain ⟨o,q⟩:=H0 h hk hm
   cases ec:clipC c m with
   | some d=>
    obtain ⟨i,r⟩:=o d ec;exact j ((clip_ok h hk hm).1 d ec) (fun n f=>(List.mem_cons.1 f).elim (fun g=>g▸hm) (hk n)) (.inr (by rw [i];exact r)) i
   | none=>
    have k:=q ec;have f:¬(c.map Prod.fst++[m]=[]\/refC (c.map Prod.fst++[m]) (c.map Prod.fst++[m]) []≠[]):=fun g=>g.elim (fun g=>by have:=congrArg List.length g;simp at this) fun g=>g k
    cases z with
    | leaf b=>unfold cellsR;rw [if_neg f];rfl
    | node a b d=>unfold cellsR;rw [if_neg f];rfl
  rw [half hl fun h hk h0 e=>uh h hk hx h0 e,half (ok_rev hl) fun h hk h0 e=>uh h hk hy h0 e]
theorem mM {P:L3->Prop}(hr:∀l,P l->P (revL l))(hP:∀l,P l->okL l=true):∀{t:Tr} {M:List L3} {c:List Sd},CanC M c->(∀m∈M,P m)->t.All P->∀p∈partsC t c,∃M',CanC M' p.1/\∀m∈M',P m
 | .leaf b,M,c,h,hk,_,p,hp=>by
  unfold partsC at hp;rw [List.mem_singleton.1 hp];exact ⟨M,h,hk⟩
 | .node l x y,M,c,h,hk,ht,p,hp=>by
  obtain ⟨hl,hx,hy⟩:=ht;unfold partsC at hp
  have half:∀{m:L3} {z:Tr},P m->(∀{M:List L3} {c:List Sd},CanC M c->(∀m∈M,P m)->∀p∈partsC z c,∃M',CanC M' p.1/\∀m∈M',P m)->p∈(match clipC c m with|some d=>partsC z d|none=>[])->∃M',CanC M' p.1/\∀m∈M',P m:=fun {m z} hm a hp=>by
   cases ec:clipC c m with
   | some d=>
    rw [ec] at hp;exact a ((clip_ok h (fun m hm=>hP m (hk m hm)) (hP m hm)).1 d ec) (fun n e=>(List.mem_cons.1 e).elim (fun g=>g▸hm) (hk n)) p hp
   | none=>rw [ec] at hp;cases hp
  rcases List.mem_append.1 hp with hp|hp
  ·exact half hl (fun h hk=>mM hr hP h hk hx) hp
  ·exact half (hr l hl) (fun h hk=>mM hr hP h hk hy) hp
theorem qR {P:L3->Prop}(hr:∀l,P l->P (revL l))(hP:∀l,P l->okL l=true):∀{t:Tr} {M:List L3} {c:List Sd},CanC M c->(∀m∈M,P m)->t.All P->∀p∈partsC t c,∃M',CanC M' p.1/\(∀m∈M',P m)/\∀m∈M,m∈M'
 | .leaf b,M,c,h,hk,_,p,hp=>by
  unfold partsC at hp;rw [List.mem_singleton.1 hp];exact ⟨M,h,hk,fun m hm=>hm⟩
 | .node l x y,M,c,h,hk,ht,p,hp=>by
  obtain ⟨hl,hx,hy⟩:=ht;unfold partsC at hp
  have half:∀{m:L3} {z:Tr},P m->(∀{M:List L3} {c:List Sd},CanC M c->(∀m∈M,P m)->∀p∈partsC z c,∃M',CanC M' p.1/\(∀m∈M',P m)/\∀m∈M,m∈M')->p∈(match clipC c m with|some d=>partsC z d|none=>[])->∃M',CanC M' p.1/\(∀m∈M',P m)/\∀m∈M,m∈M':=fun {m z} hm f hp=>by
   cases ec:clipC c m with
   | some d=>
    rw [ec] at hp;obtain ⟨M',a,b,i⟩:=f ((clip_ok h (fun m hm=>hP m (hk m hm)) (hP m hm)).1 d ec) (fun n e=>(List.mem_cons.1 e).elim (fun g=>g▸hm) (hk n)) p hp;exact ⟨M',a,b,fun n e=>i n (List.mem_cons_of_mem _ e)⟩
   | none=>rw [ec] at hp;cases hp
  rcases List.mem_append.1 hp with hp|hp
  ·exact half hl (fun h hk=>qR hr hP h hk hx) hp
  ·exact half (hr l hl) (fun h hk=>qR hr hP h hk hy) hp
def oX (c:List Sd)(q:Sec.V2):Prop:=∀s∈c,0<aj s.1 q.1 q.2
theorem nO:∀{t:Tr} {M:List L3} {c:List Sd},CanC M c->(∀m∈M,okL m=true)->t.All (fun l=>okL l=true)->(partsC t c).Pairwise fun p p'=>¬∃q,oX p.1 q/\oX p'.1 q
 | .leaf b,M,c,_,_,_=>by unfold partsC;exact List.pairwise_singleton ..
 | .node l x y,M,c,h,hk,ht=>by
  obtain ⟨hl,hx,hy⟩:=ht;unfold partsC;refine List.pairwise_append.2 ⟨?_,?_,?_⟩
  ·cases ec:clipC c l with
   | some d=>exact nO ((clip_ok h hk hl).1 d ec) (fun n f=>(List.mem_cons.1 f).elim (fun g=>g▸hl) (hk n)) hx
   | none=>exact List.Pairwise.nil
  ·cases ec:clipC c (revL l) with
   | some d=>exact nO ((clip_ok h hk (ok_rev hl)).1 d ec) (fun n f=>(List.mem_cons.1 f).elim (fun g=>g▸ok_rev hl) (hk n)) hy
   | none=>exact List.Pairwise.nil
  ·have side:∀{m:L3} {z:Tr},okL m=true->z.All (fun l=>okL l=true)->∀p∈(match clipC c m with|some d=>partsC z d|none=>[]),∀q,oX p.1 q->0<aj m q.1 q.2:=fun {m z} hm j p e q k=>by
    cases ec:clipC c m with
    | some d=>
     rw [ec] at e;obtain ⟨u,a,b,w⟩:=qR (P:=fun l=>okL l=true) (fun l=>ok_rev) (fun l h=>h) ((clip_ok h hk hm).1 d ec) (fun n f=>(List.mem_cons.1 f).elim (fun g=>g▸hm) (hk n)) j p e;exact a.int b k m (w m (List.mem_cons_self ..))
    | none=>rw [ec] at e;cases e
   rintro p e p' i ⟨q,o,r⟩;have v:=side hl hx p e q o;have s:=side (ok_rev hl) hy p' i q r;rw [val_rev] at s;grind
end Go.Proofs.Tryz
