import Derived.Test.YtnnbfoejafcdlaaGreatDoorA14
import Derived.Test.YtnnbfoejafcdlaaGreatDoorA5
import Derived.Shelf.RegionOpenPlain
import Derived.Lib.Walk
import Derived.Lib.SliceRun
import Derived.Laws.NewBlocks
import Derived.Test.YtnnbfoejafcdlaaGreatDoorA9
import Derived.Test.YtnnbfoejafcdlaaGreatDoorA13
import Derived.Test.YtnnbfoejafcdlaaGreatDoorA12
import Derived.Test.YtnnbfoejafcdlaaGreatDoorA7
set_option linter.unusedVariables false
open Go.IntKind (i64 u64 u32)
namespace Go.Proofs.Tryz
open Go.bo Go.RowKit Go.Lib
theorem mP:∃i z,prog.info? 211=some i/\i.zero=some z/\i.size=17/\i.bytes=128/\z.cells.size=17:=by
 have h:=Bp 211 _ rfl
 unfold iU at h
 split at h
 ·rename_i i d e1 e2
  split at h
  ·rename_i z ez
   have h:=Option.some.inj h
   injection h with h1 h2 h3 h4
   refine ⟨i,z,e1,ez,h2,h3,?_⟩
   have:=congrArg List.length h4
   rw [List.length_map,Array.length_toList] at this
   rw [this]
   rfl
  ·cases h
 ·cases h
theorem cX (b o j:Nat):(⟨b,o,none⟩:Addr).add j=⟨b,o+j,none⟩:=by
 unfold Addr.add
 split
 ·rename_i h;subst h;rfl
 ·rfl
theorem HG (w:World){t:TypeId}{i:TypeInfo}(h:prog.info? t=some i):(Go.sizeOf t).run prog w=.ok i.size w:=by
 simp [sizeOf,typeInfo,h]
set_option maxHeartbeats 4000000 in
set_option maxRecDepth 100000 in
theorem Db (b n c i vb:Nat)(cs vs:List Value)(w:World)(hi:i<n)(hroom:n+1<=c)(hn63:n<=1000000)(hvb:vb≠b)(hcl:c*17<=cs.length)(hvl:vs.length=17)
  (hb:w.heap[b]?=some (.cells cs.toArray 211 (0,0)))(hv:w.heap[vb]?=some (.cells vs.toArray 211 (0,0)))
  (h1c:∀v∈(cs.take (n*17)).drop (i*17),v.oneCell'=true)(h1v:∀v∈vs,v.oneCell'=true) :
  Calls prog 164 #[.slice (some ⟨b,0,none⟩) n c,.int .i64 i,.slice (some ⟨vb,0,none⟩) 1 1] w fun e w'=>
   e=.returned (.slice (some ⟨b,0,none⟩) (n+1) c)/\w'=(w.drew.setCells b ((i+1)*17) ((cs.take (n*17)).drop (i*17))).setCells b (i*17) vs:=by
 obtain ⟨ti,z,e1,e2,e3,e4,e5⟩:=mP
 have hz2:¬((i:Int)=(n:Int)):=by omega
 have hsz:(prog.info? 211).map (·.size)=some 17:=by rw [e1];simp [e3]
 have uT:=underlying119
 have uV:=underlying118
 have rz:∀w,(Go.sizeOf 211).run prog w=.ok 17 w:=fun w=>by rw [HG w e1,e3]
 have ru:=run_underlying uT
 have rv:=run_underlying uV
 have hov:∀lb cb,(callFunc 197 #[.slice (some ⟨vb,0,none⟩) 1 1,.slice (some ⟨b,(i+1)*17,none⟩) lb cb]).run prog w=.ok (.value (.bool false)) w:=fun lb cb=>by
  rw [run_callFunc_extern func197 (by kernel_rfl) (by kernel_rfl) (by kernel_rfl) (e:=Extern.SlicesOverlaps.overlaps #[118,118] #[4]) (by kernel_rfl),
   Lib.run_overlaps_apart w 118 4 211 uV 17 rz ⟨vb,0,none⟩ ⟨b,(i+1)*17,none⟩ 1 1 lb cb hvb _ _ _ _ (vE hv) (vE hb) (by omega) (dY hv) (dY hv)]
  rfl
 obtain ⟨mid,hmid⟩:∃mid,mid=(cs.take (n*17)).drop (i*17):=⟨_,rfl⟩
 rw [←hmid] at h1c ⊢
 have hml:mid.length=(n-i)*17:=by rw [hmid,List.length_drop,List.length_take];omega
 have hcell:∀(W:World)(o:Nat),W.heap[b]?=some (.cells cs.toArray 211 (0,0))->o<cs.length->(W.cell? ⟨b,o,none⟩).isSome=true:=fun W o hW ho=>by rw [bY hW,List.getElem?_eq_getElem ho];rfl
 have hbd:(w.drew).heap[b]?=some (.cells cs.toArray 211 (0,0)):=hb
 have hmn:∀x:Nat,Nat.min (n+1-i) (n+1-(i+1))=n-i:=fun _=>by simp only [Nat.min_def];split<;>omega
 have hcp1:∀ty dc sc,(Builtin.copy_ #[119,119] ty #[.slice (some ⟨b,(i+1)*17,none⟩) (n+1-(i+1)) dc,.slice (some ⟨b,i*17,none⟩) (n+1-i) sc]).run prog w.drew=  .ok (goInt ((n-i:Nat):Int)) (w.drew.setCells b ((i+1)*17) mid):=fun ty dc sc=>by
  have:=ij (P:=prog) w.drew 119 119 ty 211 17 b ((i+1)*17) (n+1-(i+1)) dc ⟨b,i*17,none⟩ (n+1-i) sc mid uT hsz (by rw [hmn 0,hml])
   (fun j v hj=>by
    rw [cX b,bY hbd]
    rw [hmid,List.getElem?_drop,List.getElem?_take] at hj
    split at hj
    ·exact hj
    ·cases hj)
   (fun j hj=>hcell _ _ hbd (by rw [hml] at hj;omega)) (fun j hj=>dY hbd) h1c
  rw [hmn 0] at this
  exact this
 obtain ⟨g1,g2⟩:=bZ mid ((i+1)*17) cs w.drew hbd (by rw [hml];omega)
 obtain ⟨W1,hW1⟩:∃W1,W1=w.drew.setCells b ((i+1)*17) mid:=⟨_,rfl⟩
 rw [←hW1] at hcp1 g1 g2 ⊢
 have JZ:Nat.min 1 (n+1-i)=1:=by simp only [Nat.min_def];split<;>omega
 have hvw:vb<w.heap.size:=(Array.getElem?_eq_some_iff.1 hv).1
 have hv1:W1.heap[vb]?=some (.cells vs.toArray 211 (0,0)):=by rw [g2.bm vb hvw hvb];exact hv
 have hcp2:∀ty dc,(Builtin.copy_ #[119,118] ty #[.slice (some ⟨b,i*17,none⟩) (n+1-i) dc,.slice (some ⟨vb,0,none⟩) 1 1]).run prog W1=.ok (goInt 1) (W1.setCells b (i*17) vs):=fun ty dc=>by
  have:=ij (P:=prog) W1 119 118 ty 211 17 b (i*17) (n+1-i) dc ⟨vb,0,none⟩ 1 1 vs uT hsz (by rw [JZ,hvl])
   (fun j v hj=>by rw [cX vb,Nat.zero_add,bY hv1];exact hj)
   (fun j hj=>by rw [bY g1,List.getElem?_eq_getElem (by rw [hvl] at hj;simp only [List.length_append,List.length_take,List.length_drop,hml];omega)];rfl) (fun j hj=>dY g1) h1v
  rw [JZ] at this
  exact this
 clear g1 g2 hmid h1c hW1
 have mixed:=mixed
 have hw1:i64.wrap ((i:Int)+1)=(i:Int)+1:=by rw [IntKind.wrap_i64];omega
 have hb1:(0:Int)<=(i:Int)+1:=by omega
 have hin:i<=n:=by omega
 have htn:((i:Int)+1).toNat=i+1:=by omega
 have hb2:¬(c=i+1):=by omega
 have hb3:(i:Int)<=(n:Int)+1:=by omega
 have hb4:¬(c=i):=by omega
 go_enter func164,ntmps164
 go_wp2_with (simp only [hov])
 go_region_law_o (refine kr rfl _ _ 119 119 rfl (.slice (some ⟨b,(i+1)*17,none⟩) (n+1-(i+1)) (c-(i+1))) (.slice (some ⟨b,i*17,none⟩) (n+1-i) (c-i)) (by simp [Act.eval,Act.put]) (by simp [Act.eval,Act.put]) (hcp1 3 _ _) ?_)
 go_wp2_with (at_builtin;refine jc _ rfl _ _ 119 118 rfl _ _ rfl rfl (hcp2 _ _) ?_)
 go_ret
 exact ⟨rfl,rfl⟩
set_option maxHeartbeats 4000000 in
set_option maxRecDepth 100000 in
theorem Gv (b n c vb:Nat)(cs vs:List Value)(w:World)(hroom:n+1<=c)(hn63:n<=1000000)(hcl:c*17<=cs.length)(hvl:vs.length=17)
  (hb:w.heap[b]?=some (.cells cs.toArray 211 (0,0)))(hv:w.heap[vb]?=some (.cells vs.toArray 211 (0,0)))(h1v:∀v∈vs,v.oneCell'=true) :
  Calls prog 164 #[.slice (some ⟨b,0,none⟩) n c,.int .i64 n,.slice (some ⟨vb,0,none⟩) 1 1] w fun e w'=>
   e=.returned (.slice (some ⟨b,0,none⟩) (n+1) c)/\w'=w.setCells b (0+n*17) vs:=by
 obtain ⟨ti,z,e1,e2,e3,e4,e5⟩:=mP
 have uT:=underlying119
 have uV:=underlying118
 have ru:=run_underlying uT
 have rv:=run_underlying uV
 have mixed:=mixed
 have hsrc:Src prog ti.size 118 (.slice (some ⟨vb,0,none⟩) 1 1) 1 vs w:=Src.ofSlice w uV ⟨vb,0,none⟩ 1 1 vs (by rw [e3,hvl]) (fun j u hj=>by rw [cX vb,Nat.zero_add,bY hv];exact hj) h1v
 have hc:∀j,j<vs.length->(w.cell? ⟨b,0+n*ti.size+j,none⟩).isSome=true:=fun j hj=>by rw [bY hb,e3,List.getElem?_eq_getElem (by rw [hvl] at hj;omega)];rfl
 have hf:∀j,j<vs.length->w.frozen? ⟨b,0+n*ti.size+j,none⟩=false:=fun j hj=>dY hb
 go_enter func164,ntmps164
 go_wp2_with (at_builtin;refine wpList_append_room_src _ rfl _ _ 119 118 rfl 211 ti uT e1 b 0 n c rfl _ rfl 1 vs hsrc hroom hc hf ?_)
 go_ret
 exact ⟨rfl,by rw [Nat.zero_add]⟩
set_option maxHeartbeats 4000000 in
set_option maxRecDepth 100000 in
theorem wC (b n c vb:Nat)(cs vs:List Value)(w:World)(hnc:n<=c)(hroom:c<n+1)(hn63:n<=1000000)(hcl:c*17<=cs.length)(hvl:vs.length=17)
  (hb:w.heap[b]?=some (.cells cs.toArray 211 (0,0)))(hv:w.heap[vb]?=some (.cells vs.toArray 211 (0,0)))(h1v:∀v∈vs,v.oneCell'=true) :
  ∃z:Array Value,z.size=17/\Calls prog 164 #[.slice (some ⟨b,0,none⟩) n c,.int .i64 n,.slice (some ⟨vb,0,none⟩) 1 1] w fun e w'=>
   e=.returned (.slice (some ⟨w.heap.size,0,none⟩) (n+1) (grownCap w (n+1) c 211)) /\
   w'=w.drew.alloc (.cells ((cs.take (n*17)++vs).toArray++Builtin.zeroCells z (grownCap w (n+1) c 211-(n+1))) 211):=by
 obtain ⟨ti,z,e1,e2,e3,e4,e5⟩:=mP
 refine ⟨z.cells,e5,?_⟩
 have uT:=underlying119
 have uV:=underlying118
 have ru:=run_underlying uT
 have rv:=run_underlying uV
 have mixed:=mixed
 have hsrc:Src prog ti.size 118 (.slice (some ⟨vb,0,none⟩) 1 1) 1 vs w:=Src.ofSlice w uV ⟨vb,0,none⟩ 1 1 vs (by rw [e3,hvl]) (fun j u hj=>by rw [cX vb,Nat.zero_add,bY hv];exact hj) h1v
 have hbd:(w.drew).heap[b]?=some (.cells cs.toArray 211 (0,0)):=hb
 have hold:(Builtin.firstCells ti.size n (.slice (some ⟨b,0,none⟩) n c)).run prog w.drew=.ok (cs.take (n*17)).toArray w.drew:=by
  rw [e3]
  exact run_firstCells_some w.drew 17 n ⟨b,0,none⟩ n c (cs.take (n*17)) (by rw [List.length_take];omega) (fun j v hj=>by
   rw [cX b,Nat.zero_add,bY hbd]
   rw [List.getElem?_take] at hj
   split at hj
   ·exact hj
   ·cases hj)
 have hrun:∀ty,(Builtin.append_ #[119,118] ty #[.slice (some ⟨b,0,none⟩) n c,.slice (some ⟨vb,0,none⟩) 1 1]).run prog w=_:=fun ty=>
  run_append_grow_src w 119 118 ty 211 ti z uT e1 e2 (some ⟨b,0,none⟩) n c (cs.take (n*17)) hold _ 1 vs hsrc hroom (by omega) (by rw [e4];exact growslice_fits hroom (by omega))
 obtain ⟨zc,hzc⟩:∃zc,zc=z.cells:=⟨_,rfl⟩
 rw [←hzc] at hrun ⊢
 obtain ⟨ROW,hROW⟩:∃ROW:Array Value,ROW=(cs.take (n*17)++vs).toArray++Builtin.zeroCells zc (grownCap w (n+1) c 211-(n+1)):=⟨_,rfl⟩
 rw [←hROW] at hrun ⊢
 clear hzc e5 hold hROW
 go_enter func164,ntmps164
 go_wp2_with (at_builtin;refine Lib.wpList_append_run _ rfl _ _ _ _ rfl _ _ rfl rfl _ _ (hrun _) ?_)
 all_goals (go_ret;exact ⟨rfl,rfl⟩)
set_option maxHeartbeats 4000000 in
set_option maxRecDepth 100000 in
theorem EA (b n c i vb:Nat)(cs vs:List Value)(w:World)(hi:i<n)(hnc:n<=c)(hroom:c<n+1)(hn63:n<=1000000)(hvb:vb≠b)(hcl:c*17<=cs.length)(hvl:vs.length=17)
  (hb:w.heap[b]?=some (.cells cs.toArray 211 (0,0)))(hv:w.heap[vb]?=some (.cells vs.toArray 211 (0,0)))
  (h1c:∀v∈(cs.take (n*17)).drop (i*17),v.oneCell'=true)(h1v:∀v∈vs,v.oneCell'=true) :
  ∃z:Array Value,z.size=17/\Calls prog 164 #[.slice (some ⟨b,0,none⟩) n c,.int .i64 i,.slice (some ⟨vb,0,none⟩) 1 1] w fun e w'=>
   e=.returned (.slice (some ⟨w.heap.size,0,none⟩) (n+1) (grownCap w (n+1) c 211)) /\
   w'=(((w.alloc (.cells ((cs.take (i*17)).toArray++Builtin.zeroCells z (n+1-i)++Builtin.zeroCells z (grownCap w (n+1) c 211-(n+1))) 211)).drew.setCells w.heap.size (i*17) vs).drew).setCells w.heap.size ((i+1)*17) ((cs.take (n*17)).drop (i*17)):=by
 obtain ⟨ti,z,e1,e2,e3,e4,e5⟩:=mP
 refine ⟨z.cells,e5,?_⟩
 have uT:=underlying119
 have uV:=underlying118
 have uI:=underlying3
 have ru:=run_underlying uT
 have rv:=run_underlying uV
 have rz:∀w,(Go.sizeOf 211).run prog w=.ok 17 w:=fun w=>by rw [HG w e1,e3]
 have mixed:=mixed
 have hz2:¬((i:Int)=(n:Int)):=by omega
 have hz3:(c:Int)<(n:Int)+1:=by omega
 have hsz:(prog.info? 211).map (·.size)=some 17:=by rw [e1];simp [e3]
 have hbw:b<w.heap.size:=(Array.getElem?_eq_some_iff.1 hb).1
 have hvw:vb<w.heap.size:=(Array.getElem?_eq_some_iff.1 hv).1
 have hkk:(n:Int)+1-(i:Int)=((n+1-i:Nat):Int):=by omega
 have hik:i+(n+1-i)=n+1:=by omega
 have hbd:(w.drew).heap[b]?=some (.cells cs.toArray 211 (0,0)):=hb
 have hold:(Builtin.firstCells ti.size i (.slice (some ⟨b,0,none⟩) i c)).run prog w.drew=.ok (cs.take (i*17)).toArray w.drew:=by
  rw [e3]
  exact run_firstCells_some w.drew 17 i ⟨b,0,none⟩ i c (cs.take (i*17)) (by rw [List.length_take];omega) (fun j v hj=>by
   rw [cX b,Nat.zero_add,bY hbd]
   rw [List.getElem?_take] at hj
   split at hj
   ·exact hj
   ·cases hj)
 obtain ⟨zc,hzc⟩:∃zc,zc=z.cells:=⟨_,rfl⟩
 rw [←hzc] at e5 ⊢
 have hrz:∀ty,(Builtin.append_ #[119,3] ty #[.slice (some ⟨b,0,none⟩) i c,.int .i64 ((n:Int)+1-(i:Int))]).run prog w =
   .ok (.slice (some ⟨w.heap.size,0,none⟩) (n+1) (grownCap w (n+1) c 211)) (w.drew.alloc (.cells ((cs.take (i*17)).toArray++Builtin.zeroCells zc (n+1-i)++Builtin.zeroCells zc (grownCap w (n+1) c 211-(n+1))) 211)):=fun ty=>by
  have h:=Lib.run_append_grow_zeros w 119 3 ty 211 ti z .i64 .i64 uT uI e1 e2 (some ⟨b,0,none⟩) i c (cs.take (i*17)) hold (n+1-i) (by omega) (by omega) (by omega) (by omega) (by rw [e4];omega) (by rw [e4,hik];exact growslice_fits hroom (by omega))
  rw [hik,←hzc] at h
  rw [hkk]
  exact h
 obtain ⟨G,hG⟩:∃G,G=grownCap w (n+1) c 211:=⟨_,rfl⟩
 obtain ⟨ROW,hROW⟩:∃ROW:List Value,ROW.toArray=(cs.take (i*17)).toArray++Builtin.zeroCells zc (n+1-i)++Builtin.zeroCells zc (G-(n+1)):=⟨((cs.take (i*17)).toArray++Builtin.zeroCells zc (n+1-i)++Builtin.zeroCells zc (G-(n+1))).toList,by simp⟩
 rw [←hG] at hrz ⊢
 rw [←hROW] at hrz ⊢
 have hRl:(n+1)*17<=ROW.length:=by
  have:=congrArg Array.size hROW
  simp [Builtin.zeroCells,e5] at this
  omega
 obtain ⟨mid,hmid⟩:∃mid,mid=(cs.take (n*17)).drop (i*17):=⟨_,rfl⟩
 rw [←hmid] at h1c ⊢
 have hml:mid.length=(n-i)*17:=by rw [hmid,List.length_drop,List.length_take];omega
 obtain ⟨W1,hW1⟩:∃W1,W1=w.drew.alloc (.cells ROW.toArray 211):=⟨_,rfl⟩
 rw [←hW1] at hrz
 have hN:W1.heap[w.heap.size]?=some (.cells ROW.toArray 211 (0,0)):=by rw [hW1];exact Array.getElem?_push_size
 have hB:W1.heap[b]?=some (.cells cs.toArray 211 (0,0)):=by rw [hW1];exact (bC w.drew _ hbw).trans hb
 have hV:W1.heap[vb]?=some (.cells vs.toArray 211 (0,0)):=by rw [hW1];exact (bC w.drew _ hvw).trans hv
 have Ih:Nat.min 1 (n+1-i)=1:=by simp only [Nat.min_def];split<;>omega
 have hcpA:∀(W:World),W.heap=W1.heap->∀ty dc,(Builtin.copy_ #[119,118] ty #[.slice (some ⟨w.heap.size,i*17,none⟩) (n+1-i) dc,.slice (some ⟨vb,0,none⟩) 1 1]).run prog W=.ok (goInt 1) (W.setCells w.heap.size (i*17) vs):=fun W hW ty dc=>by
  have:=ij (P:=prog) W 119 118 ty 211 17 w.heap.size (i*17) (n+1-i) dc ⟨vb,0,none⟩ 1 1 vs uT hsz (by rw [Ih,hvl])
   (fun j v hj=>by rw [cX vb,Nat.zero_add,bY (by rw [hW];exact hV)];exact hj)
   (fun j hj=>by rw [bY (by rw [hW];exact hN),List.getElem?_eq_getElem (by omega)];rfl) (fun j hj=>dY (by rw [hW];exact hN)) h1v
  rw [Ih] at this
  exact this
 have hbN:b≠w.heap.size:=by omega
 have Ii:Nat.min (n-i) (n+1-(i+1))=n-i:=by simp only [Nat.min_def];split<;>omega
 have hcpB:∀(W:World),W.heap=W1.heap->∀ty dc sc,(Builtin.copy_ #[119,119] ty #[.slice (some ⟨w.heap.size,(i+1)*17,none⟩) (n+1-(i+1)) dc,.slice (some ⟨b,i*17,none⟩) (n-i) sc]).run prog (W.setCells w.heap.size (i*17) vs).drew=.ok (goInt ((n-i:Nat):Int)) ((W.setCells w.heap.size (i*17) vs).drew.setCells w.heap.size ((i+1)*17) mid):=fun W hW ty dc sc=>by
  obtain ⟨g1,g2⟩:=bZ vs (i*17) ROW W (by rw [hW];exact hN) (by omega)
  have hb2:(W.setCells w.heap.size (i*17) vs).drew.heap[b]?=some (.cells cs.toArray 211 (0,0)):=by
   have:=g2.bm b (by rw [hW];exact (Array.getElem?_eq_some_iff.1 hB).1) hbN
   rw [hW,hB] at this
   exact this
  have hn2:(W.setCells w.heap.size (i*17) vs).drew.heap[w.heap.size]?=_:=g1
  have:=ij (P:=prog) (W.setCells w.heap.size (i*17) vs).drew 119 119 ty 211 17 w.heap.size ((i+1)*17) (n+1-(i+1)) dc ⟨b,i*17,none⟩ (n-i) sc mid uT hsz (by rw [Ii,hml])
   (fun j v hj=>by
    rw [cX b,bY hb2]
    rw [hmid,List.getElem?_drop,List.getElem?_take] at hj
    split at hj
    ·exact hj
    ·cases hj)
   (fun j hj=>by rw [bY hn2,List.getElem?_eq_getElem (by rw [hml] at hj;simp only [List.length_append,List.length_take,List.length_drop,hvl];omega)];rfl) (fun j hj=>dY hn2) h1c
  rw [Ii] at this
  exact this
 have hGn:n+1<=G:=by rw [hG];exact grownCap_ge w _ _ _
 have hG63:G<=9223372036854775807:=by
  have:=grownCap_le_maxLen w (n+1) c 211 (by unfold maxLen;omega)
  rw [←hG] at this
  unfold maxLen at this
  omega
 have hGi:¬(G=i):=by omega
 have hGim:¬(G=i+1):=by omega
 have hci:¬(c=i):=by omega
 have hA:=hcpA ((w.alloc (.cells ROW.toArray 211)).drew) (by rw [hW1];rfl)
 have hA':=hcpA W1 rfl
 have hB':=hcpB ((w.alloc (.cells ROW.toArray 211)).drew) (by rw [hW1];rfl)
 subst hW1
 have hw1:i64.wrap ((i:Int)+1)=(i:Int)+1:=by rw [IntKind.wrap_i64];omega
 have hw2:i64.wrap ((n:Int)+1)=(n:Int)+1:=by rw [IntKind.wrap_i64];omega
 have hb1:(0:Int)<=(i:Int)+1:=by omega
 have hin:i<=n:=by omega
 have htn:((i:Int)+1).toNat=i+1:=by omega
 have hb3:(i:Int)<=(n:Int):=by omega
 clear hkk hik hold hROW hG hRl hcpA hcpB hN hB hV hzc e5 hmid h1c Ih Ii hml
 go_enter func164,ntmps164
 go_wp2_with (first
  | (at_builtin;refine Lib.wpList_append_run _ rfl _ _ _ _ rfl _ _ rfl rfl _ _ (hrz _) ?_)
  | (at_builtin;refine jc _ rfl _ _ 119 118 rfl _ _ rfl rfl (hA _ _) ?_))
 go_region_law_o (refine kr rfl _ _ 119 119 rfl (.slice (some ⟨w.heap.size,(i+1)*17,none⟩) (n+1-(i+1)) (G-(i+1))) (.slice (some ⟨b,i*17,none⟩) (n-i) (c-i)) (by simp [Act.eval,Act.put]) (by simp [Act.eval,Act.put]) (hB' 3 (G-(i+1)) (c-i)) ?_)
 go_wp2
 go_ret
 exact ⟨rfl,rfl⟩
end Go.Proofs.Tryz
namespace Go.Proofs.Tryz
open Go.bo
theorem I3 {α:Type}{A B:List α}{k:Nat}(h:k<=A.length):(A.take k++B).drop k=B:=by
 rw [List.drop_append_of_le_length (by rw [List.length_take];omega),List.drop_eq_nil_of_le (by rw [List.length_take];omega),List.nil_append]
theorem K8 {α:Type}{A B:List α}{j k:Nat}(hj:j<=k)(h:k<=A.length):(A.take k++B).take j=A.take j:=by
 rw [List.take_append_of_le_length (by rw [List.length_take];omega),List.take_take,Nat.min_eq_left hj]
theorem D8 {V:View}{ob vb n c i:Nat}{vs xs:List Value}(hs:V.w.heap[ob]?=some (.cells vs.toArray 211 (0,0)))(hx:V.X ob)(hv:V.w.heap[vb]?=some (.cells xs.toArray 211 (0,0)))
  (hne:ob≠vb)(hi:i<=n)(hnc:n<=c)(hc:n<=1000000)(hcl:c*17<=vs.length)(hl:xs.length=17)(h1c:∀v∈(vs.take (n*17)).drop (i*17),v.oneCell'=true)(h1v:∀v∈xs,v.oneCell'=true) :
  ab prog 164 #[.slice (some ⟨ob,0,none⟩) n c,.int .i64 i,.slice (some ⟨vb,0,none⟩) 1 1] V fun r V'=>∃(q c':Nat)(sp:List Value),r=.slice (some ⟨q,0,none⟩) (n+1) c' /\
   V'.w.heap[q]?=some (.cells (vs.take (i*17)++(xs++(vs.take (n*17)).drop (i*17))++sp).toArray 211 (0,0))/\(V.w.heap.size<=q\/q=ob)/\n+1<=c'/\c'*17<=(n+1)*17+sp.length /\
   V'.w.heap[vb]?=some (.cells xs.toArray 211 (0,0)):=by
 refine ⟨⟨f164,func164,rfl,by kernel_rfl⟩,?_⟩
 have hbw:ob<V.w.heap.size:=(Array.getElem?_eq_some_iff.1 hs).1
 have hvw:vb<V.w.heap.size:=(Array.getElem?_eq_some_iff.1 hv).1
 have hml:((vs.take (n*17)).drop (i*17)).length=(n-i)*17:=by rw [List.length_drop,List.length_take];omega
 by_cases hr:n+1<=c
 ·by_cases hin:i<n
  ·refine (Db ob n c i vb vs xs V.w hin hr hc (fun e=>hne e.symm) hcl hl hs hv h1c h1v).mono ?_
   rintro e w' ⟨e1,rfl⟩
   obtain ⟨g1,g2⟩:=bZ ((vs.take (n*17)).drop (i*17)) ((i+1)*17) vs V.w.drew hs (by rw [hml];omega)
   have tl:(vs.take ((i+1)*17)).length=(i+1)*17:=by rw [List.length_take];omega
   obtain ⟨g3,g4⟩:=bZ xs (i*17) _ _ g1 (by simp only [List.length_append,tl,hml];omega)
   have ex:=((qT (·=ob) V.w).trans g2).trans g4
   refine ⟨_,e1,ex.mono fun b e=>e▸hx,ob,c,vs.drop ((i+1)*17+((vs.take (n*17)).drop (i*17)).length),rfl,?_,.inr rfl,hr,?_,?_⟩
   ·refine g3.trans ?_
    congr 3
    rw [List.append_assoc,hl,List.append_assoc (vs.take ((i+1)*17)),K8 (by omega) (by omega),show i*17+17=(i+1)*17 by omega,I3 (by omega)]
    simp only [List.append_assoc]
   ·rw [List.length_drop,hml];omega
   ·exact (ex.bm vb hvw fun e=>hne e.symm).trans hv
  ·obtain rfl:i=n:=by omega
   refine (Gv ob i c vb vs xs V.w hr hc hcl hl hs hv h1v).mono ?_
   rintro e w' ⟨e1,rfl⟩
   obtain ⟨g3,g4⟩:=bZ xs (0+i*17) vs V.w hs (by omega)
   refine ⟨_,e1,g4.mono fun b e=>e▸hx,ob,c,vs.drop (0+i*17+xs.length),rfl,?_,.inr rfl,hr,?_,?_⟩
   ·refine g3.trans ?_
    congr 3
    rw [show (vs.take (i*17)).drop (i*17)=[] from List.drop_eq_nil_of_le (by rw [List.length_take];omega),Nat.zero_add,List.append_nil]
   ·rw [List.length_drop];omega
   ·exact (g4.bm vb hvw fun e=>hne e.symm).trans hv
 ·by_cases hin:i<n
  ·obtain ⟨z,hz,cz⟩:=EA ob n c i vb vs xs V.w hin hnc (by omega) hc (fun e=>hne e.symm) hcl hl hs hv h1c h1v
   refine cz.mono ?_
   rintro e w' ⟨e1,rfl⟩
   have hG:=Go.grownCap_ge V.w (n+1) c 211
   generalize Go.grownCap V.w (n+1) c 211=G at *
   obtain ⟨ROW,hROW⟩:∃ROW:List Value,ROW.toArray=(vs.take (i*17)).toArray++Builtin.zeroCells z (n+1-i)++Builtin.zeroCells z (G-(n+1)):=⟨((vs.take (i*17)).toArray++Builtin.zeroCells z (n+1-i)++Builtin.zeroCells z (G-(n+1))).toList,by simp⟩
   have O8:ROW=vs.take (i*17)++((Builtin.zeroCells z (n+1-i)).toList++(Builtin.zeroCells z (G-(n+1))).toList):=by
    have:=congrArg Array.toList hROW
    simpa using this
   have hzl:∀k,(Builtin.zeroCells z k).toList.length=k*17:=fun k=>by simp [Builtin.zeroCells,hz]
   have LV:(vs.take (i*17)).length=i*17:=by rw [List.length_take];omega
   have hRl:ROW.length=i*17+(n+1-i)*17+(G-(n+1))*17:=by rw [O8];simp only [List.length_append,hzl,LV];omega
   rw [←hROW]
   have hN:(V.w.alloc (.cells ROW.toArray 211)).drew.heap[V.w.heap.size]?=some (.cells ROW.toArray 211 (0,0)):=Array.getElem?_push_size
   have x1:dI (·=ob) V.w (V.w.alloc (.cells ROW.toArray 211)).drew:=(nV _ _ _).trans (qT _ _)
   obtain ⟨g1,g2⟩:=bZ xs (i*17) ROW _ hN (by omega)
   obtain ⟨g3,g4⟩:=bZ ((vs.take (n*17)).drop (i*17)) ((i+1)*17) _ (World.drew _) g1 (by simp only [List.length_append,List.length_take,List.length_drop,hml];omega)
   have NZ:V.w.heap.size<=_:=x1.size
   have OS:∀{X:Nat->Prop},dI X V.w _:=fun {X}=>by
    refine ⟨Nat.le_trans NZ (Nat.le_trans g2.size g4.size),fun b hb _=>?_,?_,?_,?_⟩
    ·exact (g4.bm b (Nat.lt_of_lt_of_le hb (Nat.le_trans NZ g2.size)) (by omega)).trans ((g2.bm b (Nat.lt_of_lt_of_le hb NZ) (by omega)).trans ((nV (fun _=>False) V.w (.cells ROW.toArray 211)).bm b hb id))
    ·exact g4.os.trans (g2.os.trans x1.os)
    ·exact g4.tape.trans (g2.tape.trans x1.tape)
    ·exact g4.out.trans (g2.out.trans x1.out)
   refine ⟨_,e1,OS,V.w.heap.size,G,(ROW.drop ((n+1)*17)),rfl,?_,.inl (Nat.le_refl _),hG,?_,?_⟩
   ·refine g3.trans ?_
    have e2:ROW.take (i*17)=vs.take (i*17):=by rw [O8,List.take_append_of_le_length (by rw [LV];exact Nat.le_refl _),List.take_of_length_le (by rw [LV];exact Nat.le_refl _)]
    have l1:(ROW.take (i*17)++xs).length=(i+1)*17:=by rw [List.length_append,e2,LV,hl];omega
    have e3:(ROW.take (i*17)++xs++ROW.drop (i*17+xs.length)).take ((i+1)*17)=ROW.take (i*17)++xs:=by rw [←l1,List.take_left'];rfl
    have e4:(ROW.take (i*17)++xs++ROW.drop (i*17+xs.length)).drop ((i+1)*17+((vs.take (n*17)).drop (i*17)).length)=ROW.drop ((n+1)*17):=by
     rw [List.drop_append,List.drop_eq_nil_of_le (by rw [l1];omega),List.nil_append,List.drop_drop,l1,hml,hl]
     congr 1;omega
    rw [e3,e4,e2]
    simp only [List.append_assoc]
   ·rw [List.length_drop,hRl];omega
   ·exact (@OS fun _=>False).bm vb hvw id |>.trans hv
  ·obtain rfl:i=n:=by omega
   obtain ⟨z,hz,cz⟩:=wC ob i c vb vs xs V.w hnc (by omega) hc hcl hl hs hv h1v
   refine cz.mono ?_
   rintro e w' ⟨e1,rfl⟩
   have hG:=Go.grownCap_ge V.w (i+1) c 211
   generalize Go.grownCap V.w (i+1) c 211=G at *
   have hzl:∀k,(Builtin.zeroCells z k).toList.length=k*17:=fun k=>by simp [Builtin.zeroCells,hz]
   have ex:∀{X:Nat->Prop} {o:Obj},dI X V.w (V.w.drew.alloc o):=(qT _ _).trans (nV _ _ _)
   refine ⟨_,e1,ex,V.w.heap.size,G,(Builtin.zeroCells z (G-(i+1))).toList,rfl,?_,.inl (Nat.le_refl _),hG,?_,?_⟩
   ·refine (Array.getElem?_push_size (xs:=V.w.heap)).trans ?_
    congr 2
    rw [show (vs.take (i*17)).drop (i*17)=[] from List.drop_eq_nil_of_le (by rw [List.length_take];omega),List.append_nil]
    apply Array.ext'
    simp
   ·rw [hzl];omega
   ·exact ((ex (X:=fun _=>False)).bm vb hvw id).trans hv
end Go.Proofs.Tryz
namespace Go.Proofs.Tryz
open Go.bo Go.eu
theorem uH {V:View}{v:Value}{p:Rat×Rat}(h:nE V v p.1 p.2){k:Nat}(s1:Sz k p.1)(s2:Sz k p.2)(hk:k<=1099511627776) :
  ab prog 196 #[v] V fun r V'=>r=.int .i64 (aD.half p):=by
 obtain ⟨x1,x2,q,y1,y2,q',rfl,hx,hy⟩:=h
 refine sF x1 x2 q y1 y2 q' V _ fun V1 l1=>(dK (hy.le l1) s2 hk).mono ?_
 rintro r V2 l2 rfl
 have cU:=l1.trans l2
 refine ⟨_,rfl,fun h1 V3 l3=>?_,fun h1=>⟨fun h2 V4 l4=>(dK (hx.le (cU.trans l4)) s1 hk).mono ?_,fun h2=>⟨fun h3 pw Rr=>?_,fun h3 vL dW=>(dK (hx.le (cU.trans dW)) s1 hk).mono ?_⟩⟩⟩
 ·have h1:p.2.num.sign>0:=of_decide_eq_true h1
  unfold aD.half;rw [if_pos (.inl h1)]
 ·have h1:¬p.2.num.sign>0:=of_decide_eq_false h1
  have h2:p.2.num.sign=0:=by simpa using h2
  rintro r V5 l5 rfl
  refine ⟨_,rfl,fun h3 V6 l6=>?_,fun h3=>⟨fun h4 V7 l7=>?_,fun h4 V8 l8=>(dK (hx.le (cU.trans (l4.trans (l5.trans l8)))) s1 hk).mono ?_⟩⟩
  ·have h3:p.1.num.sign>0:=of_decide_eq_true h3
   unfold aD.half;rw [if_pos (.inr ⟨h2,h3⟩)]
  ·have h4:p.2.num.sign<0:=of_decide_eq_true h4
   omega
  ·have h3:¬p.1.num.sign>0:=of_decide_eq_false h3
   have hn:¬(p.2.num.sign>0\/p.2.num.sign=0/\p.1.num.sign>0):=by omega
   rintro r V9 l9 rfl
   refine ⟨_,rfl,fun h5 kV l10=>?_,fun h5 lH bS=>?_⟩
   ·have h5:p.1.num.sign<0:=of_decide_eq_true h5
    unfold aD.half;rw [if_neg hn,if_pos (.inr h5)]
   ·have h5:¬p.1.num.sign<0:=of_decide_eq_false h5
    unfold aD.half;rw [if_neg hn,if_neg (by omega)]
 ·have h1:¬p.2.num.sign>0:=of_decide_eq_false h1
  have h2:¬p.2.num.sign=0:=by simpa using h2
  have h3:p.2.num.sign<0:=of_decide_eq_true h3
  unfold aD.half;rw [if_neg (by omega),if_pos (.inl h3)]
 ·have h1:¬p.2.num.sign>0:=of_decide_eq_false h1
  have h2:¬p.2.num.sign=0:=by simpa using h2
  have h3:¬p.2.num.sign<0:=of_decide_eq_false h3
  omega
theorem G6 (q:Rat):-1<=q.num.sign/\q.num.sign<=1:=by
 rcases Int.lt_trichotomy q.num 0 with h|h|h
 ·rw [Int.sign_eq_neg_one_of_neg h];omega
 ·rw [h];decide
 ·rw [Int.sign_eq_one_of_pos h];omega
theorem xV {V:View}{v w:Value}{a b:Rat×Rat}(h:nE V v a.1 a.2)(h':nE V w b.1 b.2){k:Nat}(s1:Sz k a.1)(s2:Sz k a.2)(s3:Sz k b.1)(s4:Sz k b.2)(hk:4*k+3<274877906944) :
  ab prog 163 #[v,w] V fun r V'=>r=.int .i64 (aD.iq a b):=by
 have h0:=h
 have h0':=h'
 obtain ⟨x1,x2,q,y1,y2,q',rfl,-⟩:=h
 obtain ⟨u1,u2,t,w1,w2,t',rfl,-⟩:=h'
 refine xe x1 x2 q y1 y2 q' u1 u2 t w1 w2 t' V _ fun V1 l1=>(uH (h0.le l1) s1 s2 (by omega)).mono ?_
 rintro r V2 l2 rfl
 refine ⟨_,rfl,fun V3 l3=>(uH (h0'.le (l1.trans (l2.trans l3))) s3 s4 (by omega)).mono ?_⟩
 rintro r V4 l4 rfl
 have eX:=l1.trans (l2.trans (l3.trans l4))
 refine ⟨_,rfl,fun g V5 l5=>?_,fun g=>⟨fun g' V6 l6=>?_,fun g' V7 l7=>(eH (h0.le (eX.trans l7)) (h0'.le (eX.trans l7)) s1 s2 s3 s4 hk).mono ?_⟩⟩
 ·unfold aD.iq;rw [if_pos (of_decide_eq_true g)]
 ·unfold aD.iq;rw [if_neg (of_decide_eq_false g),if_pos (of_decide_eq_true g')]
 ·rintro r V8 l8 gc
  have QI:=gc
  obtain ⟨c0,c1,c2,rfl⟩:=gc.shape
  refine ⟨_,_,_,rfl,fun V9 l9=>(dK (QI.le l9) (je s1 s2 s3 s4) (by omega)).mono ?_⟩
  rintro r kV l10 rfl
  refine ⟨_,rfl,fun lH bS=>?_⟩
  have bd:=G6 (a.1*b.2-a.2*b.1)
  rw [ay (by omega)]
  unfold aD.iq;rw [if_neg (of_decide_eq_false g),if_neg (of_decide_eq_false g')]
  show _=Value.int .i64 (-(a.1*b.2-a.2*b.1).num.sign)
  congr 1;omega
def Jm (V:View)(v:Value)(c:Rat×Rat):Prop:=nE V v c.1 c.2/\Sz 100000 c.1/\Sz 100000 c.2
theorem Jm.le {V V':View}{v:Value}{c:Rat×Rat}(h:Jm V v c)(l:V.Le V'):Jm V' v c:=⟨h.1.le l,h.2⟩
theorem Jm.shape {V:View}{v:Value}{c:Rat×Rat}(h:Jm V v c):∃(x y:Int)(p:OA)(xb yb:Int)(pb:OA),v=.agg #[.int .i64 x,.int .i64 y,.pointer p,.int .i64 xb,.int .i64 yb,.pointer pb]:=by
 obtain ⟨⟨x1,x2,p,y1,y2,q,e,-⟩,-⟩:=h;exact ⟨_,_,_,_,_,_,e⟩
theorem B_ {V:View}{v:Value}{l:L3}(h:sU V v l)(hb:Bd l):ab prog 135 #[v] V fun r V'=>nE V' r (aD.aG l).1 (aD.aG l).2:=jk h hb.pG.1 hb.pG.2.1 hb.pG.2.2 (by omega)
theorem kt {l:L3}(hb:Bd l):Sz 1000 (aD.aG l).1/\Sz 1000 (aD.aG l).2:=⟨hb.pG.2.1,hb.pG.1.neg⟩
theorem BX {V:View}{v lv:Value}{s:Sd}{l:L3}(h:fD V v s)(hl:sU V lv l)(hb:Bd l):ab prog 162 #[v,lv] V fun r V'=>r=.int .i64 (aD.iq (aD.aG s.1) (aD.aG l)):=by
 have hl0:=hl
 obtain ⟨_,_,_,_,_,_,_,_,_,_,_,_,_,_,_,rfl⟩:=h.shape
 obtain ⟨rl,ri,-,-⟩:=h.both
 have sd:=h.2.1
 obtain ⟨_,_,_,_,_,_,_,_,_,rfl,-,-,-⟩:=hl
 refine mb _ _ _ _ _ _ _ _ _ _ _ _ _ _ _ _ _ _ _ _ _ _ _ _ _ _ V _ fun V1 l1=>(B_ (rl.le l1) sd).mono ?_
 rintro r V2 l2 g
 have g0:=g
 obtain ⟨_,_,_,_,_,_,rfl,-,-⟩:=g
 refine ⟨_,_,_,_,_,_,rfl,fun V3 l3=>(B_ (hl0.le (l1.trans (l2.trans l3))) hb).mono ?_⟩
 rintro r V4 l4 g'
 have g0':=g'
 obtain ⟨_,_,_,_,_,_,rfl,-,-⟩:=g'
 refine ⟨_,_,_,_,_,_,rfl,fun V5 l5=>(xV (g0.le (l3.trans (l4.trans l5))) (g0'.le l5) (kt sd).1 (kt sd).2 (kt hb).1 (kt hb).2 (by omega)).mono ?_⟩
 rintro r V6 l6 rfl
 exact ⟨_,rfl,fun V7 l7=>rfl⟩
theorem C6 {i j:Nat}(hi:i<=1000000)(hj:j<=1000000):i64.wrap ((u64.wrap (i64.wrap ((i:Int)+(j:Int)))).fdiv (2^1))=(((i+j) / 2:Nat):Int):=by
 have e1:i64.wrap ((i:Int)+(j:Int))=(i:Int)+(j:Int):=ay (by omega)
 have e2:u64.wrap ((i:Int)+(j:Int))=(i:Int)+(j:Int):=aM (by omega)
 have:((i:Int)+(j:Int)).fdiv (2^1)=(((i+j) / 2:Nat):Int):=by
  rw [Int.fdiv_eq_ediv_of_nonneg _ (by decide)]
  omega
 rw [e1,e2,this,ay (by omega)]
theorem CI {V:View}{lb n c:Nat}{vs:List Value}{r:List Sd}{lv:Value}{l:L3}(hw:V.w.heap[lb]?=some (.cells vs.toArray 211 (0,0)))(hx:V.X lb)(hr:Row 17 fD V vs r)(hn:n=r.length)(hs:n<=1000000)(hl:sU V lv l)(hb:Bd l)
  (p_:r.Pairwise fun s u=>aD.iq (aD.aG s.1) (aD.aG u.1)<0) :
  ab prog 161 #[.slice (some ⟨lb,0,none⟩) n c,lv,.func (.func 162) #[] #[]] V fun q V'=>∃(i:Nat)(b:Bool),q=.tuple #[.int .i64 i,.bool b]/\i<=n/\(∀v:Sp,kf (l,v) r=r.take i++(l,v)::r.drop i) /\
   V'.w.heap[lb]?=some (.cells vs.toArray 211 (0,0)):=by
 have hl0:=hl
 subst hn
 obtain ⟨_,_,_,_,_,_,_,_,_,rfl,-,-,-⟩:=hl
 refine gR lb _ c vs _ _ _ _ _ _ _ _ _ V _ hw hx ⟨fun z V'=>∃i j:Nat,z.1=(i:Int)/\z.2=(j:Int)/\Bs r l i j,fun z=>z.2.toNat-z.1.toNat,⟨(0,(r.length:Int)),by and_intros<;>rfl,0,r.length,rfl,rfl,Bs.start r l⟩,?_⟩
 rintro ⟨z1,z2⟩ V1 l1 ⟨i,j,e1,e2,bs⟩
 dsimp only at e1 e2
 subst e1 e2
 have ble:=bs.le
 have SI:=bs.len
 have hr1:=hr.le (V':=V1) fun _ _ g=>fD.le g l1
 refine ⟨rfl,fun hlt=>?_,fun hlt=>?_⟩
 ·have hlt:(i:Int)<(j:Int):=of_decide_eq_true hlt
  dsimp only
  rw [C6 (by omega) (by omega)]
  have hlj:(i+j) / 2<j:=by omega
  have Q7:i<=(i+j) / 2:=by omega
  generalize (i+j) / 2=h at *
  have MM:h<r.length:=by omega
  have w:i64.wrap ((h:Int)+1)=((h+1:Nat):Int):=by rw [ay (by omega)];rfl
  rw [Int.toNat_natCast,w,Nat.zero_add]
  obtain ⟨a1,a2,a3,a4,a5,a6,a7,a8,a9,b1,b2,b3,b4,b5,b6,eY,Mp,hs1⟩:=Cp hr1 MM
  refine ⟨by omega,⟨by omega,by omega⟩,_,_,_,_,_,_,_,_,_,_,_,_,_,_,_,_,_,⟨eY,Mp⟩,fun V2 l2=>(BX (hs1.le l2) (hl0.le (l1.trans l2)) hb).mono ?_⟩
  rintro q V3 l3 rfl
  refine ⟨_,rfl,fun hc=>⟨(((h+1:Nat):Int),(j:Int)),by dsimp only;omega,by and_intros<;>rfl,h+1,j,rfl,rfl,bs.up p_ hlj MM (of_decide_eq_true hc)⟩,fun hc=>⟨((i:Int),(h:Int)),by dsimp only;omega,by and_intros<;>rfl,i,h,rfl,rfl,bs.down Q7 MM (of_decide_eq_false hc)⟩⟩
 ·have hlt:¬(i:Int)<(j:Int):=of_decide_eq_false hlt
  obtain rfl:i=j:=by omega
  dsimp only
  refine ⟨fun hin=>?_,fun hin V7 l7 hw7=>⟨i,false,rfl,by omega,fun v=>bs.done v,hw7⟩⟩
  have hin:(i:Int)<(r.length:Int):=of_decide_eq_true hin
  have hil:i<r.length:=by omega
  rw [Int.toNat_natCast,Nat.zero_add]
  obtain ⟨a1,a2,a3,a4,a5,a6,a7,a8,a9,b1,b2,b3,b4,b5,b6,eY,Mp,hs1⟩:=Cp hr1 hil
  refine ⟨⟨by omega,by omega⟩,_,_,_,_,_,_,_,_,_,_,_,_,_,_,_,_,_,⟨eY,Mp⟩,fun V4 l4=>(BX (hs1.le l4) (hl0.le (l1.trans l4)) hb).mono ?_⟩
  rintro q V5 l5 rfl
  exact ⟨_,rfl,fun V6 l6 Rm=>⟨i,_,rfl,by omega,fun v=>bs.done v,Rm⟩⟩
theorem EM {V V':View}{P:Prop}{b:Nat}(l:V.Le V')(h:P->V.w.heap.size<=b\/V.H b):V.Le (V'.shut.oS P b):=fun x o hx=>by
 have h1:=l x o hx
 refine ⟨fun hh=>hh.elim h1.1 ?_,h1.2⟩
 rintro ⟨hp,rfl,-⟩
 rcases h hp with h|h
 ·have:=(Array.getElem?_eq_some_iff.1 hx.2).1
  omega
 ·exact hx.1 h
theorem CW {c:List Sd}{l:L3}{i:Nat}(hi:i<c.length):jU (c.take (i+1)) l=jU (c.take i) l++if eK c[i].1 c[i].2 l=true then [(c[i].1,eL c[i].1 c[i].2 l)] else []:=by
 unfold jU
 rw [List.take_add_one,List.getElem?_eq_getElem hi,List.filterMap_append]
 congr 1
 show List.filterMap _ [c[i]]=_
 by_cases h:eK c[i].1 c[i].2 l=true
 ·simp [h]
 ·simp [h]
theorem qK (c:List Sd)(l:L3):(jU c l).length<=c.length:=List.length_filterMap_le ..
theorem AJ {c:List Sd}{l:L3}{v:Sp}(h:cB c l cu=some v):fa c l=some (kf (l,v) (jU c l)):=by unfold fa;rw [h]
theorem AH {c:List Sd}{l:L3}(h:cB c l cu=none):fa c l=if 0<dF c l then some c else none:=by unfold fa;rw [h]
set_option maxHeartbeats 1000000 in
theorem xR {V:View}{cp:OA}{cn cc:Nat}{c:List Sd}{lv:Value}{l:L3}(h:cQ 17 fD V cp cn c)(hl:sU V lv l)(hb:Bd l)(hn:c.length<=100000)(p_:c.Pairwise fun s u=>aD.iq (aD.aG s.1) (aD.aG u.1)<0) :
  ab prog 102 #[.slice cp cn cc,lv] V fun r V'=>∃q m e,r=.tuple #[.slice q m e,.bool (fa c l).isSome]/\(∀c',fa c l=some c'->cQ 17 fD V' q m c'/\(cn<=cc->m<=e)):=by
 have hl0:=hl
 have h0:=h
 obtain rfl:=h.len
 obtain ⟨_,_,_,_,_,_,_,_,_,rfl,-,-,-⟩:=hl
 refine ou cp _ cc _ _ _ _ _ _ _ _ _ V _ fun V1 l1=>(oK (h.le l1 fun _ _ g=>fD.le g l1) (hl0.le l1) hb (by omega)).mono ?_
 rintro r V2 l2 ⟨w,rfl,gv,sv⟩
 have O0:=gv
 obtain ⟨_,_,_,_,_,_,rfl,-,-⟩:=gv
 have L2:=l1.trans l2
 refine ⟨_,_,_,_,_,_,_,_,_,rfl,fun hp V3 l3=>(vW (h0.le (L2.trans l3) fun _ _ g=>fD.le g (L2.trans l3)) (hl0.le (L2.trans l3)) hb (by omega)).mono ?_,fun hp=>?_⟩
 ·have hp:cB c l cu=none:=by simpa using hp
  rintro r V4 l4 rfl
  have e1:Jk c l=dF c l:=by unfold Jk;rw [hp];rfl
  have e2:=AH hp
  refine ⟨_,rfl,fun V5 l5=>⟨cp,c.length,cc,?_,fun c' e=>?_⟩⟩
  ·rw [e1,e2]
   by_cases hc:0<dF c l
   ·rw [if_pos hc,decide_eq_true hc];rfl
   ·rw [if_neg hc,decide_eq_false hc];rfl
  ·rw [e2] at e
   split at e
   ·cases e
    have L5:=L2.trans (l3.trans (l4.trans l5))
    exact ⟨h0.le L5 fun _ _ g=>fD.le g L5,id⟩
   ·cases e
 have hp:(cB c l cu).isSome=true:=by simpa using hp
 obtain ⟨v,ev⟩:=Option.isSome_iff_exists.1 hp
 rw [ev] at O0 sv ⊢
 have e2:=AJ ev
 have w1:i64.wrap ((c.length:Int)+1)=((c.length+1:Nat):Int):=by rw [ay (by omega)];rfl
 rw [w1,Int.toNat_natCast]
 refine ⟨by omega,by omega,by omega,fun z V'=>∃i:Nat,z.2.2.2=(i:Int)/\i<=c.length/\GR 17 fD V' z.1 z.2.1 z.2.2.1 (jU (c.take i) l)/\z.2.1≠0,fun z=>c.length-z.2.2.2.toNat,
  ⟨(0,c.length+1,mj (c.length+1) [.int .i64 0,.int .i64 0,.pointer none,.int .i64 0,.int .i64 0,.pointer none,.int .i64 0,.int .i64 0,.pointer none,.int .i64 0,.int .i64 0,.pointer none,.int .i64 0,.int .i64 0,.pointer none,.bool false,.bool false],0),by and_intros<;>first|rfl|omega,0,rfl,Nat.zero_le _,⟨rfl,Nat.zero_le _,?_,Row.nil⟩,by dsimp only;omega⟩,?_⟩
 ·show _<=(List.replicate (c.length+1) _).flatten.length
  rw [List.length_flatten,List.map_replicate,List.sum_replicate_nat]
  exact Nat.le_refl _
 rintro ⟨z1,z2,vs,z4⟩ V6 l6 ⟨i,e4,Pn,hg,hc0⟩
 dsimp only at e4 hg hc0
 subst e4
 have L6:=L2.trans l6
 have gl:=hg.len
 have MB:=hg.le
 have Ek:=hg.cap
 try dsimp only at gl MB Ek
 have OY:=qK (c.take i) l
 rw [List.length_take] at OY
 refine ⟨rfl,fun hlt=>?_,fun hlt=>⟨fun hv0=>?_,fun hv0 oF eX bk g1 g2=>?_⟩⟩
 ·have hlt:(i:Int)<c.length:=of_decide_eq_true hlt
  have hi':i<c.length:=by omega
  have w:i64.wrap ((i:Int)+1)=((i+1:Nat):Int):=by rw [ay (by omega)];rfl
  dsimp only
  rw [Int.toNat_natCast,w]
  obtain ⟨ps,a1,a2,a3,a4,a5,a6,a7,a8,a9,b1,b2,b3,b4,b5,b6,a,ha,k0,k1,k2,k3,k4,k5,k6,k7,k8,k9,k10,k11,k12,k13,k14,k15,k16,hr⟩:=jA (h0.le L6 fun _ _ g=>fD.le g L6) hi'
  obtain ⟨rl,ri,-,-⟩:=hr.both
  have sd:=hr.2
  have ct:=CW (l:=l) hi'
  generalize c[i]=S at *
  refine ⟨ps,⟨by omega,by omega⟩,_,_,_,_,_,_,_,_,_,_,_,_,_,_,_,_,_,a,ha,k0,k1,k2,k3,k4,k5,k6,k7,k8,k9,k10,k11,k12,k13,k14,k15,k16,fun V7 l7=>(xT (rl.le l7) (ri.le l7) (hl0.le (L6.trans l7)) (k:=100000) (sd.1.pG.up (by omega)) sd.2 (hb.pG.up (by omega)) (by omega)).mono ?_⟩
  rintro r V8 l8 ⟨w8,rfl,g⟩
  have g0:=g
  obtain ⟨_,_,_,_,_,_,rfl,-,-⟩:=g
  have Pb:=hg.mono (V':=V8) fun _ _ g=>fD.le g (l7.trans l8)
  refine ⟨_,_,_,_,_,_,_,_,_,rfl,fun hf=>⟨by omega,MB,Ek,rfl,E4,fun sp c' h1 h2=>⟨(z1+1,c',_,((i+1:Nat):Int)),by dsimp only;omega,by and_intros<;>rfl,i+1,rfl,hi',?_,by dsimp only;omega⟩⟩,fun hf=>⟨(z1,z2,vs,((i+1:Nat):Int)),by dsimp only;omega,by and_intros<;>rfl,i+1,rfl,hi',?_,hc0⟩⟩
  ·have hf:eK S.1 S.2 l=true:=hf
   dsimp only
   rw [ct,if_pos hf]
   exact Pb.snoc (a:=(S.1,eL S.1 S.2 l)) rfl ⟨⟨_,_,_,_,_,_,_,_,_,_,_,_,_,_,_,rfl,rl.le (l7.trans l8),g0⟩,sd.1,Cx sd.1.pG hb.pG sd.2 (by omega)⟩ (by decide) h1 h2
  ·have hf:¬eK S.1 S.2 l=true:=by rw [show eK S.1 S.2 l=false from hf];exact Bool.false_ne_true
   dsimp only
   rw [ct,if_neg hf,List.append_nil]
   exact Pb
 ·have hv0:vs=[]:=hv0
  rw [hv0] at Ek
  simp at Ek
  omega
 have hlt:¬(i:Int)<c.length:=of_decide_eq_false hlt
 obtain rfl:i=c.length:=by omega
 rw [List.take_length] at hg gl
 have OY:=qK c l
 have hv0:vs≠[]:=hv0
 have LL:∀b,mA b z2=some ⟨b,0,none⟩:=fun b=>by unfold mA;rw [if_neg hc0]
 dsimp only
 rw [LL]
 have DP:=L6.trans eX
 refine (CI (V:=oF.bU [vb vs oF.w.heap.size bk]) (r:=jU c l) (l:=l) (g1 hv0) ⟨by simp [HH hv0],g2 hv0⟩ (hg.row.le fun _ _ g=>fD.le g fun b o h=>eX b o h) gl (by omega) (sU.le (V:=V) (V':=oF.bU _) hl0 fun b o h=>DP b o h) hb (ym p_)).mono ?_
 rintro r oG fl ⟨at_,fb,rfl,hat,hins,e5⟩
 refine ⟨_,_,rfl,hv0,vs,hv0,e5,fun mq dS bk1 bk2 k1 k2 k3 k4 k5=>?_⟩
 rw [LL]
 have l146:oF.Le mq:=fun b o h=>dS b o (fl b o h)
 have hvw:mq.w.heap.size>bk1:=(Array.getElem?_eq_some_iff.1 (k1 hv0)).1
 have Ip:Row 17 fD mq vs (jU c l):=hg.row.le fun _ _ g=>fD.le g (eX.trans l146)
 have hone:∀u∈(vs.take (z1*17)).drop (at_*17),u.oneCell'=true:=fun u hu=>by
  obtain ⟨m,hm,e⟩:=List.mem_iff_getElem.1 (List.mem_of_mem_drop hu)
  have hm':m<(jU c l).length*17:=by rw [List.length_take,gl] at hm;omega
  have:=List.getElem?_eq_getElem hm
  rw [e,List.getElem?_take,if_pos (by rw [gl];exact hm')] at this
  exact wQ hg.row (by decide) (fun xs _=>G5 xs) hm' this
 refine (D8 (V:=mq.bU [vb vs mq.w.heap.size bk1,bk2]) (ob:=bk1) (vb:=bk2) (n:=z1) (c:=z2) (i:=at_) (vs:=vs) (xs:=[_,_,_,_,_,_,_,_,_,_,_,_,_,_,_,_,_]) (k1 hv0) ⟨by simp [HH hv0],k2 hv0⟩ k3 (k5 hv0) hat MB (by omega) Ek rfl hone E4).mono ?_
 rintro r oH dD ⟨q,c',sp,rfl,f1,f2,f3,f4,f5⟩
 have f2':mq.w.heap.size<=q\/(vs≠[]/\q=bk1):=f2.imp id fun e=>⟨hv0,e⟩
 refine ⟨q,_,fun _=>f1,fun _=>f2',some ⟨q,0,none⟩,z1+1,c',?_,_,_,_,_,_,_,_,_,_,_,_,_,_,_,_,_,_,f5,fun sX eO Qt m1=>⟨mA Qt c',z1+1,c',?_,fun c'' e=>?_⟩⟩
 ·unfold mA;rw [if_neg (by omega)]
 ·rw [e2];rfl
 ·rw [e2] at e
  obtain rfl:=Option.some.inj e
  have EF:mq.Le sX:=fun b o hx=>eO b o (EM (V:=mq.bU _) (V':=oH) (P:=_) (b:=q) dD (fun _=>f2.elim .inl fun e=>.inr (by rw [e];exact k2 hv0)) b o hx)
  have hR:=Bl (sp:=sp) (Ip.le fun _ _ g=>fD.le g EF) (k:=at_) (by omega) (xs:=[_,_,_,_,_,_,_,_,_,_,_,_,_,_,_,_,_]) (a:=(l,v)) rfl ⟨⟨_,_,_,_,_,_,_,_,_,_,_,_,_,_,_,rfl,hl0.le (DP.trans (l146.trans EF)),O0.le (l6.trans (eX.trans (l146.trans EF)))⟩,hb,sv⟩ (by decide)
  rw [hins v]
  have hlen:z1+1=((jU c l).take at_++(l,v)::(jU c l).drop at_).length:=by
   rw [List.length_append,List.length_cons,List.length_take,List.length_drop];omega
  rw [hlen]
  rw [←gl] at hR
  exact ⟨cQ.fU m1 hR (by decide) (by rw [←hlen];exact f3),fun _=>by rw [←hlen];exact f3⟩
def Ao (k:Nat)(V:View)(v:Value)(c:Rat×Rat):Prop:=nE V v c.1 c.2/\Sz k c.1/\Sz k c.2
theorem Ao.le {k:Nat}{V V':View}{v:Value}{c:Rat×Rat}(h:Ao k V v c)(l:V.Le V'):Ao k V' v c:=⟨h.1.le l,h.2⟩
theorem KI {a b:Int}{p:OA}{c d:Int}{q:OA}:∀v∈([.int .i64 a,.int .i64 b,.pointer p,.int .i64 c,.int .i64 d,.pointer q]:List Value),v.oneCell'=true:=by
 intro v hm
 simp only [List.mem_cons,List.not_mem_nil,or_false] at hm
 rcases hm with rfl|rfl|rfl|rfl|rfl|rfl<;>rfl
theorem mS {k:Nat}{V:View}{p:OA}{n:Nat}{al:List (Rat×Rat)}(h:cQ 6 (Ao k) V p n al){i:Nat}(hi:i<al.length) :
  p.isSome=true/\∃(x y:Int)(q:OA)(x' y':Int)(q':OA)(a:Addr),aj p (i*6)=some a/\V.at (a.add 0) (.int .i64 x)/\V.at (a.add 1) (.int .i64 y)/\V.at (a.add 2) (.pointer q)/\V.at (a.add 3) (.int .i64 x')/\V.at (a.add 4) (.int .i64 y')/\V.at (a.add 5) (.pointer q') /\
   Ao k V (.agg #[.int .i64 x,.int .i64 y,.pointer q,.int .i64 x',.int .i64 y',.pointer q']) al[i]:=by
 obtain ⟨ad,h0,xs,h1,h2,h3⟩:=h.at_ i hi
 have h20:=h2
 obtain ⟨⟨x,y,q,x',y',q',e,-⟩,-⟩:=h2
 have e:=congrArg Array.toList (Value.agg.inj e)
 dsimp only at e
 subst e
 refine ⟨?_,x,y,q,x',y',q',ad,h0,h3 0 _ rfl,h3 1 _ rfl,h3 2 _ rfl,h3 3 _ rfl,h3 4 _ rfl,h3 5 _ rfl,h20⟩
 cases p with
 | none=>cases h0
 | some a=>rfl
def gk (V:View)(v:Value)(l:L3):Prop:=RL V v l.1 l.2.1 l.2.2
theorem gk.le {V V':View}{v:Value}{l:L3}(h:gk V v l)(e:V.Le V'):gk V' v l:=RL.le h e
theorem dA {V:View}{v:Value}{l:L3}(h:gk V v l):∃(b1:Bool)(p1:OA)(n1 c1:Nat)(b2:Bool)(p2:OA)(n2 c2:Nat)(b3:Bool)(p3:OA)(n3 c3:Nat),v=.agg #[.bool b1,.slice p1 n1 c1,.bool b2,.slice p2 n2 c2,.bool b3,.slice p3 n3 c3]:=by
 obtain ⟨_,_,_,_,_,_,_,_,_,e,-⟩:=h;exact ⟨_,_,_,_,_,_,_,_,_,_,_,_,e⟩
theorem GN {b:Bool}{p:OA}{n c:Nat}{b':Bool}{p':OA}{n' c':Nat}{b'':Bool}{p'':OA}{n'' c'':Nat}:∀v∈([.bool b,.slice p n c,.bool b',.slice p' n' c',.bool b'',.slice p'' n'' c'']:List Value),v.oneCell'=true:=by
 intro v hm
 simp only [List.mem_cons,List.not_mem_nil,or_false] at hm
 rcases hm with rfl|rfl|rfl|rfl|rfl|rfl<;>rfl
theorem GG {V:View}{p:OA}{n:Nat}{al:List L3}(h:cQ 9 uv V p n al){i:Nat}(hi:i<al.length) :
  p.isSome=true/\∃(x1 x2:Int)(q1:OA)(y1 y2:Int)(q2:OA)(z1 z2:Int)(q3:OA)(a:Addr),aj p (i*9)=some a/\V.at (a.add 0) (.int .i64 x1)/\V.at (a.add 1) (.int .i64 x2)/\V.at (a.add 2) (.pointer q1)/\V.at (a.add 3) (.int .i64 y1)/\V.at (a.add 4) (.int .i64 y2)/\V.at (a.add 5) (.pointer q2)/\V.at (a.add 6) (.int .i64 z1)/\V.at (a.add 7) (.int .i64 z2)/\V.at (a.add 8) (.pointer q3) /\
   uv V (.agg #[.int .i64 x1,.int .i64 x2,.pointer q1,.int .i64 y1,.int .i64 y2,.pointer q2,.int .i64 z1,.int .i64 z2,.pointer q3]) al[i]:=by
 obtain ⟨ad,h0,xs,h1,h2,h3⟩:=h.at_ i hi
 have h20:=h2
 obtain ⟨_,_,_,_,_,_,_,_,_,e⟩:=h2.shape
 have e:=congrArg Array.toList (Value.agg.inj e)
 dsimp only at e
 subst e
 refine ⟨?_,_,_,_,_,_,_,_,_,_,ad,h0,h3 0 _ rfl,h3 1 _ rfl,h3 2 _ rfl,h3 3 _ rfl,h3 4 _ rfl,h3 5 _ rfl,h3 6 _ rfl,h3 7 _ rfl,h3 8 _ rfl,h20⟩
 cases p with
 | none=>cases h0
 | some a=>rfl
theorem KJ {x1 x2:Int}{q1:OA}{y1 y2:Int}{q2:OA}{z1 z2:Int}{q3:OA}:∀v∈([.int .i64 x1,.int .i64 x2,.pointer q1,.int .i64 y1,.int .i64 y2,.pointer q2,.int .i64 z1,.int .i64 z2,.pointer q3]:List Value),v.oneCell'=true:=by
 intro v hm
 simp only [List.mem_cons,List.not_mem_nil,or_false] at hm
 rcases hm with rfl|rfl|rfl|rfl|rfl|rfl|rfl|rfl|rfl<;>rfl
theorem Du {V:View}{v:Value}{l:L3}(h:nC V v l):∃(b1:Bool)(p1:OA)(n1 c1:Nat)(b2:Bool)(p2:OA)(n2 c2:Nat)(b3:Bool)(p3:OA)(n3 c3:Nat),v=.agg #[.bool b1,.slice p1 n1 c1,.bool b2,.slice p2 n2 c2,.bool b3,.slice p3 n3 c3]:=by
 rcases h with h|⟨-,b1,p,n,c,xs,b2,q,m,e',ys,b3,s,i,j,zs,hv,-⟩
 ·exact dA h
 ·exact ⟨b1,p,n,c,b2,q,m,e',b3,s,i,j,hv⟩
theorem GH {V:View}{p:OA}{n:Nat}{al:List L3}(h:cQ 6 nC V p n al){i:Nat}(hi:i<al.length) :
  p.isSome=true/\∃(b1:Bool)(p1:OA)(n1 c1:Nat)(b2:Bool)(p2:OA)(n2 c2:Nat)(b3:Bool)(p3:OA)(n3 c3:Nat)(a:Addr),aj p (i*6)=some a/\V.at (a.add 0) (.bool b1)/\V.at (a.add 1) (.slice p1 n1 c1)/\V.at (a.add 2) (.bool b2)/\V.at (a.add 3) (.slice p2 n2 c2)/\V.at (a.add 4) (.bool b3)/\V.at (a.add 5) (.slice p3 n3 c3) /\
   nC V (.agg #[.bool b1,.slice p1 n1 c1,.bool b2,.slice p2 n2 c2,.bool b3,.slice p3 n3 c3]) al[i]:=by
 obtain ⟨ad,h0,xs,h1,h2,h3⟩:=h.at_ i hi
 have h20:=h2
 obtain ⟨_,_,_,_,_,_,_,_,_,_,_,_,e⟩:=Du h2
 have e:=congrArg Array.toList (Value.agg.inj e)
 dsimp only at e
 subst e
 refine ⟨?_,_,_,_,_,_,_,_,_,_,_,_,_,ad,h0,h3 0 _ rfl,h3 1 _ rfl,h3 2 _ rfl,h3 3 _ rfl,h3 4 _ rfl,h3 5 _ rfl,h20⟩
 cases p with
 | none=>cases h0
 | some a=>rfl
def sY (ls:List L3):Bool:=decide (ls.length<=1024)&&ls.all fV
theorem nM {V:View}{p:OA}{n c:Nat}{ls:List L3}(h:cQ 6 nC V p n ls)(hb:∀l∈ls,Bd l) :
  ab prog 65 #[.agg #[.slice p n c]] V fun r V'=>∃q m e,r=.tuple #[.slice q m e,.bool (sY ls)]/\(sY ls=true->cQ 9 uv V' q m ls):=by
 obtain rfl:=h.len
 refine sB p _ c V _ ⟨fun hg V1 l1=>?_,fun hg=>⟨fun z V'=>∃i:Nat,z.2.2.2=(i:Int)/\i<=ls.length/\GR 9 uv V' z.1 z.2.1 z.2.2.1 (ls.take i)/\(ls.take i).all fV=true,fun z=>ls.length-z.2.2.2.toNat,⟨(0,0,[],0),by and_intros<;>rfl,0,rfl,Nat.zero_le _,GR.nil,rfl⟩,?_⟩⟩
 ·have hg:¬ls.length<=1024:=by have:=of_decide_eq_true hg;omega
  have e:sY ls=false:=by unfold sY;rw [decide_eq_false hg];rfl
  rw [e]
  exact ⟨_,_,_,rfl,fun h=>by cases h⟩
 have hle:ls.length<=1024:=by have:=of_decide_eq_false hg;omega
 have e0:sY ls=ls.all fV:=by unfold sY;rw [decide_eq_true hle];rfl
 rintro ⟨z1,z2,vs,z4⟩ V2 l2 ⟨i,e4,Pn,hgr,hall⟩
 dsimp only at e4 hgr
 subst e4
 have zl:=hgr.len
 rw [List.length_take] at zl
 refine ⟨rfl,fun hlt=>?_,fun hlt V6 l6 bk hbk=>?_⟩
 ·have hlt:(i:Int)<ls.length:=of_decide_eq_true hlt
  have hi:i<ls.length:=by omega
  have w:i64.wrap ((i:Int)+1)=((i+1:Nat):Int):=by rw [ay (by omega)];rfl
  dsimp only
  rw [Int.toNat_natCast,w]
  obtain ⟨is,b1,p1,n1,c1,b2,p2,n2,c2,b3,p3,n3,c3,a,had,a0,a1,a2,a3,a4,a5,hl1⟩:=GH (h.le l2 fun _ _ g=>nC.le g l2) hi
  have bd:=hb _ (List.getElem_mem hi)
  refine ⟨is,⟨by omega,by omega⟩,_,_,_,_,_,_,_,_,_,_,_,_,a,had,a0,a1,a2,a3,a4,a5,fun V3 l3=>(vZ (hl1.le l3) bd).mono ?_⟩
  rintro r V4 l4 ⟨w4,rfl,⟨_,_,_,_,_,_,_,_,_,rfl⟩,hok⟩
  have Rg:(ls.take (i+1)).all fV=fV ls[i]:=by rw [List.take_add_one,List.getElem?_eq_getElem hi,List.all_append,hall];simp
  refine ⟨_,_,_,_,_,_,_,_,_,_,rfl,fun hf V5 l5=>?_,fun hf=>⟨by omega,hgr.le,hgr.cap,rfl,KJ,fun sp c' h1 h2=>⟨(z1+1,c',_,((i+1:Nat):Int)),by dsimp only;omega,by and_intros<;>rfl,i+1,rfl,hi,?_,?_⟩⟩⟩
  ·have hf:fV ls[i]=false:=by simpa using hf
   have e:ls.all fV=false:=by
    rw [List.all_eq_false]
    exact ⟨_,List.getElem_mem hi,by rw [hf];exact Bool.false_ne_true⟩
   rw [e0,e]
   exact ⟨_,_,_,rfl,fun h=>by cases h⟩
  ·have hf:fV ls[i]=true:=by simpa using hf
   dsimp only
   rw [List.take_add_one,List.getElem?_eq_getElem hi]
   exact (hgr.mono (V':=V4) fun _ _ g=>uv.le g (l3.trans l4)).snoc rfl ⟨hok hf,bd⟩ (by decide) h1 h2
  ·rw [Rg];simpa using hf
 ·have hlt:¬(i:Int)<ls.length:=of_decide_eq_false hlt
  obtain rfl:i=ls.length:=by omega
  rw [List.take_length] at hgr hall
  rw [e0,hall]
  obtain rfl:=hgr.len
  exact ⟨_,_,_,rfl,fun _=>cQ.fU hbk (hgr.row.le fun _ _ g=>uv.le g l6) (by decide) hgr.le⟩
theorem yK (x:Sd):∀r:List Sd,(kf x r).length=r.length+1
 | []=>rfl
 | s::r=>by
  unfold kf
  split
  ·rw [List.length_cons,yK x r,List.length_cons]
  ·rfl
theorem uR {c c':List Sd}{l:L3}(e:fa c l=some c'):c'.length<=c.length+1:=by
 unfold fa at e
 split at e
 ·cases e
  rw [yK]
  have:=qK c l
  omega
 ·split at e
  ·cases e;omega
  ·cases e
theorem yh (l:L3)(r M:List L3)(c:List Sd):bE (l::r) M c=match fa c l with|some c'=>bE r (l::M) c'|none=>none:=rfl
theorem mB {V:View}{p:OA}{n c:Nat}{ls:List L3}(h:cQ 9 uv V p n ls)(ho:∀l∈ls,fV l=true)(hn:ls.length<=2000) :
  ab prog 66 #[.slice p n c] V fun r V'=>∃q m e,r=.tuple #[.slice q m e,.bool (bE ls [] []).isSome]/\(bE ls [] []=none->r=.tuple #[.slice none 0 0,.bool false])/\(∀c',bE ls [] []=some c'->cQ 17 fD V' q m c'/\m<=e):=by
 obtain rfl:=h.len
 refine xf p _ c V _ ⟨fun z V'=>∃(i:Nat)(M:List L3)(cs:List Sd),z.2.2.2.2=(i:Int)/\i<=ls.length/\z.2.2.2.1=true/\bE ls [] []=bE (ls.drop i) M cs/\iI M cs/\(∀m∈M,fV m=true)/\cs.length<=i/\cQ 17 fD V' z.1 z.2.1 cs/\z.2.1<=z.2.2.1,fun z=>ls.length-z.2.2.2.2.toNat,
  ⟨(none,0,0,true,0),by and_intros<;>rfl,0,[],[],rfl,Nat.zero_le _,rfl,rfl,iI.nil,(fun m hm=>by cases hm),Nat.le_refl _,cQ.nil,Nat.le_refl _⟩,?_⟩
 rintro ⟨zp,zn,zc,zb,zi⟩ V1 l1 ⟨i,M,cs,e1,Pn,e2,hcan,hC,hM,hcl,hL,hcap⟩
 dsimp only at e1 e2 hL hcap
 subst e1 e2
 refine ⟨rfl,fun hlt=>?_,fun hlt=>⟨(fun hf=>by cases hf),fun _ V7 l7=>?_⟩⟩
 ·have hlt:(i:Int)<ls.length:=of_decide_eq_true hlt
  have hi:i<ls.length:=by omega
  have w:i64.wrap ((i:Int)+1)=((i+1:Nat):Int):=by rw [ay (by omega)];rfl
  dsimp only
  rw [Int.toNat_natCast,w]
  obtain ⟨is,x1,x2,q1,y1,y2,q2,z1,z2,q3,a,had,a0,a1,a2,a3,a4,a5,a6,a7,a8,hl1⟩:=GG (h.le l1 fun _ _ g=>uv.le g l1) hi
  have ok:=ho _ (List.getElem_mem hi)
  have ed:ls.drop i=ls[i]::ls.drop (i+1):=List.drop_eq_getElem_cons hi
  rw [ed,yh] at hcan
  refine ⟨is,⟨by omega,by omega⟩,_,_,_,_,_,_,_,_,_,a,had,a0,a1,a2,a3,a4,a5,a6,a7,a8,fun V2 l2=>(xR (hL.le l2 fun _ _ g=>fD.le g l2) (hl1.le l2).1 hl1.2 (by omega) hC.p_).mono ?_⟩
  rintro r V3 l3 ⟨q,m,e,rfl,hr⟩
  refine ⟨_,_,_,_,rfl,fun hf=>⟨fun _ V4 l4=>?_,fun hf'=>by rw [hf] at hf';cases hf'⟩,fun hf=>?_⟩
  ·have hf:fa cs ls[i]=none:=by simpa using hf
   rw [hf] at hcan
   have hcan:bE ls [] []=none:=hcan
   rw [hcan]
   exact ⟨none,0,0,rfl,fun _=>rfl,fun c' e=>by cases e⟩
  ·have hf:(fa cs ls[i]).isSome=true:=by simpa using hf
   obtain ⟨c',e'⟩:=Option.isSome_iff_exists.1 hf
   rw [e'] at hcan
   have hcan:bE ls [] []=bE (ls.drop (i+1)) (ls[i]::M) c':=hcan
   refine ⟨(q,m,e,(fa cs ls[i]).isSome,((i+1:Nat):Int)),by dsimp only;omega,by and_intros<;>rfl,i+1,ls[i]::M,c',rfl,hi,hf,hcan,(B1 hC hM ok).1 c' e',List.forall_mem_cons.2 ⟨ok,hM⟩,?_,(hr c' e').1,(hr c' e').2 hcap⟩
   have:=uR e'
   omega
 ·have hlt:¬(i:Int)<ls.length:=of_decide_eq_false hlt
  obtain rfl:i=ls.length:=by omega
  rw [List.drop_length] at hcan
  have hcan:bE ls [] []=some cs:=hcan
  rw [hcan]
  refine ⟨zp,zn,zc,rfl,(fun h=>by cases h),fun c' e=>?_⟩
  cases e
  exact ⟨hL.le l7 fun _ _ g=>fD.le g l7,hcap⟩
theorem Av {V:View}{p:OA}{n c:Nat}{cs:List Sd}(h:cQ 17 fD V p n cs)(hn:cs.length<=100000) :
  ab prog 70 #[.slice p n c] V fun r V'=>∃q m e,r=.agg #[.slice q m e]/\cQ 6 gk V' q m (cs.map Prod.fst)/\m<=e:=by
 obtain rfl:=h.len
 refine pN p _ c V _ ⟨fun z V'=>∃j:Nat,z.1=(j:Int)/\j<=cs.length/\GR 6 gk V' z.2.1 z.2.2.1 z.2.2.2 ((cs.map Prod.fst).take j),fun z=>cs.length-z.1.toNat,⟨(0,0,0,[]),by and_intros<;>rfl,0,rfl,Nat.zero_le _,GR.nil⟩,?_⟩
 rintro ⟨z1,z2,z3,vs⟩ V1 l1 ⟨j,e4,FU,hg⟩
 dsimp only at e4 hg
 subst e4
 have zl:=hg.len
 rw [List.length_take,List.length_map] at zl
 refine ⟨rfl,fun hlt=>?_,fun hlt V4 l4 bk hb=>?_⟩
 ·have hlt:(j:Int)<cs.length:=of_decide_eq_true hlt
  have hi:j<cs.length:=by omega
  have w:i64.wrap ((j:Int)+1)=((j+1:Nat):Int):=by rw [ay (by omega)];rfl
  dsimp only
  rw [Int.toNat_natCast,w]
  obtain ⟨ps,a1,a2,a3,a4,a5,a6,a7,a8,a9,b1,b2,b3,b4,b5,b6,a,ha,k0,k1,k2,k3,k4,k5,k6,k7,k8,k9,k10,k11,k12,k13,k14,k15,k16,hr⟩:=jA (h.le l1 fun _ _ g=>fD.le g l1) hi
  obtain ⟨rl,ri,-,-⟩:=hr.both
  obtain ⟨s1,s2,s3⟩:=hr.2.1.sz
  refine ⟨ps,⟨by omega,by omega⟩,_,_,_,_,_,_,_,_,_,_,_,_,_,_,_,_,_,a,ha,k0,k1,k2,k3,k4,k5,k6,k7,k8,k9,k10,k11,k12,k13,k14,k15,k16,fun V2 l2=>(CK (rl.le l2) s1 s2 s3 (by omega)).mono ?_⟩
  rintro r V3 l3 gr
  have g0:gk V3 r cs[j].1:=sU.Qs gr
  obtain ⟨_,_,_,_,_,_,_,_,_,_,_,_,rfl⟩:=dA g0
  refine ⟨_,_,_,_,_,_,_,_,_,_,_,_,rfl,by omega,hg.le,hg.cap,rfl,GN,fun sp c' h1 h2=>⟨(((j+1:Nat):Int),z2+1,c',_),by dsimp only;omega,by and_intros<;>rfl,j+1,rfl,hi,?_⟩⟩
  dsimp only
  rw [List.take_add_one,List.getElem?_map,List.getElem?_eq_getElem hi]
  exact (hg.mono (V':=V3) fun _ _ g=>gk.le g (l2.trans l3)).snoc rfl g0 (by decide) h1 h2
 ·have hlt:¬(j:Int)<cs.length:=of_decide_eq_false hlt
  obtain rfl:j=cs.length:=by omega
  rw [List.take_of_length_le (by rw [List.length_map];exact Nat.le_refl _)] at hg
  obtain rfl:=hg.len
  exact ⟨_,_,_,rfl,cQ.fU hb (hg.row.le fun _ _ g=>gk.le g l4) (by decide) hg.le,hg.le⟩
def xN (c:List Sd):Bool:=decide (c≠[])&&c.all fun s=>!s.2.a&&!s.2.b
theorem qw {V:View}{p:OA}{n c:Nat}{cs:List Sd}(h:cQ 17 fD V p n cs)(hn:cs.length<=100000) :
  ab prog 81 #[.slice p n c] V fun r V'=>r=.bool (xN cs):=by
 obtain rfl:=h.len
 refine lj p _ c V _ ⟨fun z V'=>∃j:Nat,z=(j:Int)/\j<=cs.length/\((cs.take j).all fun s=>!s.2.a&&!s.2.b)=true,fun z=>cs.length-z.toNat,⟨0,by and_intros<;>rfl,0,rfl,Nat.zero_le _,rfl⟩,?_⟩
 rintro z1 V1 l1 ⟨j,rfl,FU,hall⟩
 refine ⟨rfl,fun hlt=>?_,fun hlt V4 l4=>?_⟩
 ·have hlt:(j:Int)<cs.length:=of_decide_eq_true hlt
  have hi:j<cs.length:=by omega
  have w:i64.wrap ((j:Int)+1)=((j+1:Nat):Int):=by rw [ay (by omega)];rfl
  rw [Int.toNat_natCast,w]
  obtain ⟨ps,a1,a2,a3,a4,a5,a6,a7,a8,a9,b1,b2,b3,b4,b5,b6,a,ha,k0,k1,k2,k3,k4,k5,k6,k7,k8,k9,k10,k11,k12,k13,k14,k15,k16,hr⟩:=jA (h.le l1 fun _ _ g=>fD.le g l1) hi
  have bad:(cs[j].2.a=true\/cs[j].2.b=true)->xN cs=false:=fun tG=>by
   unfold xN
   rw [Bool.and_eq_false_iff,List.all_eq_false]
   refine .inr ⟨_,List.getElem_mem hi,?_⟩
   rcases tG with h|h<;>simp [h]
  refine ⟨ps,⟨by omega,by omega⟩,_,_,_,_,_,_,_,_,_,_,_,_,_,_,_,_,_,a,ha,k0,k1,k2,k3,k4,k5,k6,k7,k8,k9,k10,k11,k12,k13,k14,k15,k16,fun h1 V2 l2=>by rw [bad (.inl h1)],fun h1=>⟨fun h2 V3 l3=>by rw [bad (.inr h2)],fun h2=>⟨((j+1:Nat):Int),by dsimp only;omega,by and_intros<;>rfl,j+1,rfl,hi,?_⟩⟩⟩
  rw [List.take_add_one,List.getElem?_eq_getElem hi,List.all_append,hall]
  simp [h1,h2]
 ·have hlt:¬(j:Int)<cs.length:=of_decide_eq_false hlt
  obtain rfl:j=cs.length:=by omega
  rw [List.take_length] at hall
  unfold xN
  rw [hall,Bool.and_true]
  congr 1
  cases cs with
  | nil=>rfl
  | cons s r=>simp
def Ag (S:List L3)(i:Nat):Option aD.V2:=if 0<aD.cr (aD.aG (S.getD i (0,0,0))) (aD.aG (S.getD ((i+1)%S.length) (0,0,0))) then some (Iz (S.getD i (0,0,0)) (S.getD ((i+1)%S.length) (0,0,0)),IA (S.getD i (0,0,0)) (S.getD ((i+1)%S.length) (0,0,0))) else none
theorem Hc (S:List L3):lk S=(List.range S.length).filterMap (Ag S):=rfl
theorem Ah (S:List L3)(i:Nat):(List.range (i+1)).filterMap (Ag S)=(List.range i).filterMap (Ag S)++(Ag S i).toList:=by
 rw [List.range_succ,List.filterMap_append]
 congr 1
theorem CB (S:List L3):(lk S).length<=S.length:=by
 have:=List.length_filterMap_le (Ag S) (List.range S.length)
 rw [List.length_range] at this
 exact this
theorem h_ {α:Type}{l:List α}{i:Nat}{d:α}(h:i<l.length):l.getD i d=l[i]:=by rw [List.getD_eq_getElem?_getD,List.getElem?_eq_getElem h];rfl
theorem yl (l m:L3):aD.cr (aD.aG l) (aD.aG m)=eJ l m:=by unfold aD.cr aD.aG eJ;grind
theorem jN {V:View}{p:OA}{n c:Nat}{cs:List Sd}(h:cQ 17 fD V p n cs)(hn:cs.length<=100000) :
  ab prog 79 #[.slice p n c] V fun r V'=>∃q m e,r=.slice q m e/\cQ 6 (Ao 20000) V' q m (lk (cs.map Prod.fst)):=by
 obtain rfl:=h.len
 have hml:(cs.map Prod.fst).length=cs.length:=List.length_map ..
 refine kC p _ c V _ ⟨fun z V'=>∃j:Nat,z.2.2.2=(j:Int)/\j<=cs.length/\z.1<=j/\GR 6 (Ao 20000) V' z.1 z.2.1 z.2.2.1 ((List.range j).filterMap (Ag (cs.map Prod.fst))),fun z=>cs.length-z.2.2.2.toNat,⟨(0,0,[],0),by and_intros<;>first|rfl|trivial,0,rfl,Nat.zero_le _,Nat.le_refl _,GR.nil⟩,?_⟩
 rintro ⟨z1,z2,vs,z4⟩ V1 l1 ⟨j,e4,FU,SA,hg⟩
 dsimp only at e4 hg SA
 subst e4
 refine ⟨rfl,fun hlt=>?_,fun hlt pw cU bk hb=>?_⟩
 ·have hlt:(j:Int)<cs.length:=of_decide_eq_true hlt
  have hi:j<cs.length:=by omega
  have w:i64.wrap ((j:Int)+1)=((j+1:Nat):Int):=by rw [ay (by omega)];rfl
  have hm:(((j+1:Nat):Int)).tmod (cs.length:Int)=(((j+1)%cs.length:Nat):Int):=by rw [Int.ofNat_tmod]
  have hk:(j+1)%cs.length<cs.length:=Nat.mod_lt _ (by omega)
  dsimp only
  rw [w,hm]
  simp only [Int.toNat_natCast]
  obtain ⟨ps,a1,a2,a3,a4,a5,a6,a7,a8,a9,b1,b2,b3,b4,b5,b6,a,ha,k0,k1,k2,k3,k4,k5,k6,k7,k8,k9,k10,k11,k12,k13,k14,k15,k16,hr⟩:=jA (h.le l1 fun _ _ g=>fD.le g l1) hi
  obtain ⟨rl,-,-,-⟩:=hr.both
  obtain ⟨-,c1,c2,c3,c4,c5,c6,c7,c8,c9,d1,d2,d3,d4,d5,d6,aa,QY,m0,m1,m2,m3,m4,m5,m6,m7,m8,m9,m10,m11,m12,m13,m14,m15,m16,hr'⟩:=jA (h.le l1 fun _ _ g=>fD.le g l1) hk
  obtain ⟨rl',-,-,-⟩:=hr'.both
  have sl:=hr.2.1
  have sl':=hr'.2.1
  have ev:Ag (cs.map Prod.fst) j=if 0<eJ cs[j].1 cs[(j+1)%cs.length].1 then some (Iz cs[j].1 cs[(j+1)%cs.length].1,IA cs[j].1 cs[(j+1)%cs.length].1) else none:=by
   unfold Ag
   rw [hml,h_ (by omega:j<(cs.map Prod.fst).length),h_ (by omega:(j+1)%cs.length<(cs.map Prod.fst).length),List.getElem_map,List.getElem_map,yl]
  generalize cs[j]=S at *
  generalize cs[(j+1)%cs.length]=T at *
  refine ⟨ps,⟨by omega,by omega⟩,_,_,_,_,_,_,_,_,_,_,_,_,_,_,_,_,_,a,ha,k0,k1,k2,k3,k4,k5,k6,k7,k8,k9,k10,k11,k12,k13,k14,k15,k16,by omega,ps,⟨by omega,by omega⟩,_,_,_,_,_,_,_,_,_,_,_,_,_,_,_,_,_,aa,QY,m0,m1,m2,m3,m4,m5,m6,m7,m8,m9,m10,m11,m12,m13,m14,m15,m16,fun V2 l2=>(B_ (rl.le l2) sl).mono ?_⟩
  rintro r V3 l3 g1
  have g10:=g1
  obtain ⟨_,_,_,_,_,_,rfl,-,-⟩:=g1
  refine ⟨_,_,_,_,_,_,rfl,fun V4 l4=>(B_ (rl'.le (l2.trans (l3.trans l4))) sl').mono ?_⟩
  rintro r V5 l5 g2
  have g20:=g2
  obtain ⟨_,_,_,_,_,_,rfl,-,-⟩:=g2
  refine ⟨_,_,_,_,_,_,rfl,fun V6 l6=>(eH (g10.le (l4.trans (l5.trans l6))) (g20.le l6) (kt sl).1 (kt sl).2 (kt sl').1 (kt sl').2 (by omega)).mono ?_⟩
  rintro r V7 l7 g3
  have mK:RR V7 r (eJ S.1 T.1):=by rw [←yl];exact g3
  obtain ⟨_,_,_,rfl⟩:=mK.shape
  refine ⟨_,_,_,rfl,fun V8 l8=>(dK (mK.le l8) (k:=5000) ((ni sl.pG sl'.pG).mono (by omega)) (by omega)).mono ?_⟩
  rintro r V9 l9 rfl
  have eW:V1.Le V9:=l2.trans (l3.trans (l4.trans (l5.trans (l6.trans (l7.trans (l8.trans l9))))))
  refine ⟨_,rfl,fun hc kV l10=>(CJ (rl.le (eW.trans l10)) (rl'.le (eW.trans l10)) sl.pG sl'.pG (by omega)).mono ?_,fun hc=>⟨(z1,z2,vs,((j+1:Nat):Int)),by dsimp only;omega,by and_intros<;>first|rfl|trivial,j+1,rfl,hi,by dsimp only;omega,?_⟩⟩
  ·have hc:0<eJ S.1 T.1:=aD.pg.1 (of_decide_eq_true hc)
   rintro r lH bS ⟨PE,rfl,⟨_,_,_,_,_,_,rfl⟩,hme⟩
   have gm:=hme (by grind)
   obtain ⟨sx,sy⟩:=K6 sl.pG sl'.pG
   refine ⟨_,_,_,_,_,_,_,rfl,by omega,hg.le,hg.cap,rfl,KI,fun sp c' h1 h2=>⟨(z1+1,c',_,((j+1:Nat):Int)),by dsimp only;omega,by and_intros<;>first|rfl|trivial,j+1,rfl,hi,by dsimp only;omega,?_⟩⟩
   dsimp only
   rw [Ah,ev,if_pos hc]
   exact (hg.mono (V':=lH) fun _ _ g=>Ao.le g (eW.trans (l10.trans bS))).snoc (a:=(Iz S.1 T.1,IA S.1 T.1)) rfl ⟨gm,sx.mono (by omega),sy.mono (by omega)⟩ (by decide) h1 h2
  ·have hc:¬0<eJ S.1 T.1:=fun h=>of_decide_eq_false hc (aD.pg.2 h)
   dsimp only
   rw [Ah,ev,if_neg hc,Option.toList_none,List.append_nil]
   exact hg.mono fun _ _ g=>Ao.le g eW
 ·have hlt:¬(j:Int)<cs.length:=of_decide_eq_false hlt
  obtain rfl:j=cs.length:=by omega
  rw [←hml,←Hc] at hg
  obtain rfl:=hg.len
  exact ⟨_,_,_,rfl,cQ.fU hb (hg.row.le fun _ _ g=>Ao.le g cU) (by decide) hg.le⟩
def K_ (l:List aD.V2)(k:Nat):Rat:=((List.range k).map fun i=>aD.cr (l.getD i (0,0)) (l.getD ((i+1)%l.length) (0,0))).sum
theorem zD (l:List aD.V2)(k:Nat):K_ l (k+1)=K_ l k+aD.cr (l.getD k (0,0)) (l.getD ((k+1)%l.length) (0,0)):=by
 unfold K_
 rw [List.range_succ,List.map_append,List.sum_append]
 simp [Rat.add_zero]
theorem Az {V:View}{p:OA}{n c:Nat}{l:List aD.V2}(h:cQ 6 (Ao 20000) V p n l)(hn:l.length<=100000) :
  ab prog 139 #[.slice p n c] V fun r V'=>RR V' r (tw l*((2:Int):Rat)⁻¹)/\Sz (100000*l.length+10) (tw l*((2:Int):Rat)⁻¹):=by
 obtain rfl:=h.len
 have step:∀k,k<=l.length->(∀i,i<l.length->Sz 20000 (l.getD i (0,0)).1/\Sz 20000 (l.getD i (0,0)).2)->Sz (100000*k+4) (K_ l k):=by
  intro k
  induction k with
  | zero=>exact fun _ _=>I2 _ (by omega)
  | succ k ih=>
   intro hk hs
   rw [zD]
   obtain ⟨s1,s2⟩:=hs k (by omega)
   obtain ⟨s3,s4⟩:=hs _ (Nat.mod_lt (k+1) (show l.length>0 by omega))
   exact ((ih (by omega) hs).add ((s1.mul s4).sub (s2.mul s3))).mono (by omega)
 have hsz:∀i,i<l.length->Sz 20000 (l.getD i (0,0)).1/\Sz 20000 (l.getD i (0,0)).2:=fun i hi=>by
  obtain ⟨-,_,_,_,_,_,_,_,-,-,-,-,-,-,-,g⟩:=mS h hi
  rw [h_ hi]
  exact g.2
 refine zM p _ c V _ ⟨fun z V'=>∃j:Nat,z.1=(j:Int)/\j<=l.length/\RR V' (.agg #[.int .i64 z.2.1,.int .i64 z.2.2.1,.pointer z.2.2.2]) (K_ l j),fun z=>l.length-z.1.toNat,⟨(0,0,0,none),by and_intros<;>first|rfl|trivial,0,rfl,Nat.zero_le _,RR.zero _⟩,?_⟩
 rintro ⟨z1,z2,z3,z4⟩ V1 l1 ⟨j,e4,FU,hg⟩
 dsimp only at e4 hg
 subst e4
 refine ⟨rfl,fun hlt=>?_,fun hlt V6 l6=>?_⟩
 ·have hlt:(j:Int)<l.length:=of_decide_eq_true hlt
  have hi:j<l.length:=by omega
  have w:i64.wrap ((j:Int)+1)=((j+1:Nat):Int):=by rw [ay (by omega)];rfl
  have hm:(((j+1:Nat):Int)).tmod (l.length:Int)=(((j+1)%l.length:Nat):Int):=by rw [Int.ofNat_tmod]
  have hk:(j+1)%l.length<l.length:=Nat.mod_lt _ (by omega)
  dsimp only
  rw [w,hm]
  simp only [Int.toNat_natCast]
  obtain ⟨ps,x,y,q,x',y',q',a,ha,a0,a1,a2,a3,a4,a5,gu⟩:=mS (h.le l1 fun _ _ g=>Ao.le g l1) hi
  obtain ⟨-,u,v,t,u',v',t',b,hb,b0,b1,b2,b3,b4,b5,gw⟩:=mS (h.le l1 fun _ _ g=>Ao.le g l1) hk
  have et:=zD l j
  rw [h_ hi,h_ hk] at et
  have sj:=step j FU hsz
  generalize l[j]=S at *
  generalize l[(j+1)%l.length]=T at *
  refine ⟨ps,⟨by omega,by omega⟩,_,_,_,_,_,_,a,ha,a0,a1,a2,a3,a4,a5,by omega,ps,⟨by omega,by omega⟩,_,_,_,_,_,_,b,hb,b0,b1,b2,b3,b4,b5,fun V2 l2=>(eH (gu.1.le l2) (gw.1.le l2) gu.2.1 gu.2.2 gw.2.1 gw.2.2 (by omega)).mono ?_⟩
  rintro r V3 l3 g3
  have mK:RR V3 r (aD.cr S T):=g3
  obtain ⟨_,_,_,rfl⟩:=mK.shape
  refine ⟨_,_,_,rfl,fun V4 l4=>(gZ (hg.le (l2.trans (l3.trans l4))) (mK.le l4) sj ((gu.2.1.mul gw.2.2).sub (gu.2.2.mul gw.2.1)) (by omega)).mono ?_⟩
  rintro r V5 l5 g5
  have Jc:=g5
  obtain ⟨_,_,_,rfl⟩:=g5.shape
  exact ⟨_,_,_,rfl,(((j+1:Nat):Int),_,_,_),by dsimp only;omega,by and_intros<;>first|rfl|trivial,j+1,rfl,hi,by rw [et];exact Jc⟩
 ·have hlt:¬(j:Int)<l.length:=of_decide_eq_false hlt
  obtain rfl:j=l.length:=by omega
  have sj:=step l.length (Nat.le_refl _) hsz
  refine (xU (hg.le l6) sj (by omega)).mono ?_
  rintro r V7 l7 g7
  have JQ:=g7
  obtain ⟨_,_,_,rfl⟩:=g7.shape
  exact ⟨_,_,_,rfl,fun V8 l8=>⟨JQ.le l8,(sj.mul (fK wW)).mono (by omega)⟩⟩
theorem xQ {V:View}{p:OA}{n c:Nat}{cs:List Sd}(h:cQ 17 fD V p n cs)(hn:cs.length<=100000) :
  ab prog 82 #[.slice p n c] V fun r V'=>RR V' r (tw (lk (cs.map Prod.fst))*((2:Int):Rat)⁻¹)/\Sz 10000000010 (tw (lk (cs.map Prod.fst))*((2:Int):Rat)⁻¹):=by
 refine ot p n c V _ fun V1 l1=>(jN (h.le l1 fun _ _ g=>fD.le g l1) hn).mono ?_
 rintro r V2 l2 ⟨q,m,e,rfl,g⟩
 have vl:=CB (cs.map Prod.fst)
 rw [List.length_map] at vl
 refine ⟨_,_,_,rfl,fun V3 l3=>(Az (g.le l3 fun _ _ g=>Ao.le g l3) (by omega)).mono ?_⟩
 rintro r V4 l4 ⟨g4,s4⟩
 have Gk:=g4
 obtain ⟨_,_,_,rfl⟩:=g4.shape
 exact ⟨_,_,_,rfl,fun V5 l5=>⟨Gk.le l5,s4.mono (by omega)⟩⟩
structure Er (V:View) (yi ye yu:Value):Prop where
 inv:CC V 0 yi
 emp:CC V 1 ye
 PC:CC V 2 yu
 si:DQ yi
 se:DQ ye
 su:DQ yu
theorem Er.le {V V':View}{yi ye yu:Value}(h:Er V yi ye yu)(l:V.Le V'):Er V' yi ye yu:=⟨h.inv.le l,h.emp.le l,h.PC.le l,h.si,h.se,h.su⟩
theorem uY {y:Value}(h:DQ y):IsIface y/\cS y=false:=by obtain ⟨a,rfl⟩:=h;exact ⟨.inr ⟨_,_,rfl⟩,rfl⟩
theorem kJ:IsIface .nilIface/\cS .nilIface=true:=⟨.inl rfl,rfl⟩
def Ap (ls:List L3)(bad Pv:Prop)(some_:List Sd->Prop):Prop:=(sY ls=false/\bad)\/(sY ls=true/\bE ls [] []=none/\Pv)\/(sY ls=true/\∃c,bE ls [] []=some c/\some_ c)
theorem Ap.bad {ls:List L3}{p q:Prop}{s:List Sd->Prop}(h:Ap ls p q s)(e:sY ls=false):p:=by
 rcases h with ⟨-,h⟩|⟨h,-⟩|⟨h,-⟩
 ·exact h
 ·rw [e] at h;cases h
 ·rw [e] at h;cases h
theorem Ap.Pv {ls:List L3}{p q:Prop}{s:List Sd->Prop}(h:Ap ls p q s)(e:sY ls=true)(e':bE ls [] []=none):q:=by
 rcases h with ⟨h,-⟩|⟨-,-,h⟩|⟨-,c,h,-⟩
 ·rw [e] at h;cases h
 ·exact h
 ·rw [e'] at h;cases h
theorem Ap.some {ls:List L3}{p q:Prop}{s:List Sd->Prop}{c:List Sd}(h:Ap ls p q s)(e:sY ls=true)(e':bE ls [] []=Option.some c):s c:=by
 rcases h with ⟨h,-⟩|⟨-,h,-⟩|⟨-,c',h,h'⟩
 ·rw [e] at h;cases h
 ·rw [e'] at h;cases h
 ·rw [e'] at h;cases h;exact h'
theorem Ap.imp {ls:List L3}{p q p' q':Prop}{s s':List Sd->Prop}(h:Ap ls p q s)(hp:p->p')(hq:q->q')(hs:∀c,bE ls [] []=Option.some c->s c->s' c):Ap ls p' q' s':=by
 rcases h with ⟨h,h'⟩|⟨h,h1,h'⟩|⟨h,c,h1,h'⟩
 ·exact .inl ⟨h,hp h'⟩
 ·exact .inr (.inl ⟨h,h1,hq h'⟩)
 ·exact .inr (.inr ⟨h,c,h1,hs c h1 h'⟩)
theorem kN {ls:List L3}(h:sY ls=true):ls.length<=1024/\∀l∈ls,fV l=true:=by
 unfold sY at h
 rw [Bool.and_eq_true,decide_eq_true_eq,List.all_eq_true] at h
 exact h
theorem uQ:∀{ls M:List L3} {c c':List Sd},bE ls M c=some c'->c'.length<=c.length+ls.length
 | [],_,_,_,e=>by cases e;simp
 | l::r,M,c,c',e=>by
  unfold bE at e
  cases h:fa c l with
  | none=>rw [h] at e;cases e
  | some c1=>
   rw [h] at e
   have:=uQ e
   have:=uR h
   rw [List.length_cons];omega
theorem AG {ls:List L3}{c:List Sd}(e:bE ls [] []=some c)(h:sY ls=true):c.length<=100000:=by
 have:=uQ e
 have:=(kN h).1
 rw [List.length_nil] at *
 omega
theorem j8 {V:View}{p:OA}{n c:Nat}{ls:List L3}(h:cQ 6 nC V p n ls)(hb:∀l∈ls,Bd l):ab prog 15 #[.agg #[.slice p n c]] V fun r V'=>r=.bool (sY ls):=by
 refine pL p n c V _ fun V1 l1=>(nM (h.le l1 fun _ _ g=>nC.le g l1) hb).mono ?_
 rintro r V2 l2 ⟨q,m,e,rfl,-⟩
 exact ⟨_,_,_,_,rfl,fun V3 l3=>rfl⟩
theorem qB {V:View}{p:OA}{n c:Nat}{ls:List L3}(h:cQ 6 nC V p n ls)(hb:∀l∈ls,Bd l){yi ye yu:Value}(E:Er V yi ye yu) :
  ab prog 16 #[.agg #[.slice p n c]] V fun r V'=>Ap ls (r=.tuple #[.bool false,yi]) (r=.tuple #[.bool true,.nilIface]) fun _=>r=.tuple #[.bool false,.nilIface]:=by
 refine pK p n c V _ fun V1 l1=>(nM (h.le l1 fun _ _ g=>nC.le g l1) hb).mono ?_
 rintro r V2 l2 ⟨q,m,e,rfl,g⟩
 have L2:=l1.trans l2
 refine ⟨_,_,_,_,rfl,fun ho=>⟨yi,⟨_,rfl,(E.le L2).inv⟩,fun V3 l3=>.inl ⟨by simpa using ho,rfl⟩⟩,fun ho V4 l4=>?_⟩
 have ho:sY ls=true:=by simpa using ho
 have hg:=g ho
 refine (mB (hg.le l4 fun _ _ g=>uv.le g l4) (kN ho).2 (by have:=(kN ho).1;omega)).mono ?_
 rintro r V5 l5 ⟨q',m',e',rfl,-,-⟩
 refine ⟨_,_,_,_,rfl,fun V6 l6=>?_⟩
 cases hc:bE ls [] [] with
 | none=>exact .inr (.inl ⟨ho,hc,rfl⟩)
 | some cs=>exact .inr (.inr ⟨ho,cs,hc,rfl⟩)
def PM (V':View)(r:Value)(ls:List L3)(yi ye:Value):Prop:=Ap ls (r=.tuple #[.slice none 0 0,yi]) (r=.tuple #[.slice none 0 0,ye]) fun cs=>(∃q m e,r=.tuple #[.slice q m e,.nilIface]/\cQ 17 fD V' q m cs/\m<=e)/\iI ls.reverse cs/\cs.length<=100000
theorem ir {V:View}{p:OA}{n c:Nat}{ls:List L3}(h:cQ 6 nC V p n ls)(hb:∀l∈ls,Bd l){yi ye yu:Value}(E:Er V yi ye yu) :
  ab prog 69 #[.agg #[.slice p n c]] V fun r V'=>PM V' r ls yi ye:=by
 refine sf p n c V _ fun V1 l1=>(nM (h.le l1 fun _ _ g=>nC.le g l1) hb).mono ?_
 rintro r V2 l2 ⟨q,m,e,rfl,g⟩
 have L2:=l1.trans l2
 refine ⟨_,_,_,_,rfl,fun ho=>⟨yi,⟨_,rfl,(E.le L2).inv⟩,fun V3 l3=>.inl ⟨by simpa using ho,rfl⟩⟩,fun ho V4 l4=>?_⟩
 have ho:sY ls=true:=by simpa using ho
 have hg:=g ho
 refine (mB (hg.le l4 fun _ _ g=>uv.le g l4) (kN ho).2 (by have:=(kN ho).1;omega)).mono ?_
 rintro r V5 l5 ⟨q',m',e',rfl,hn,hs⟩
 refine ⟨_,_,_,_,rfl,fun hf=>⟨ye,⟨_,rfl,(E.le (L2.trans (l4.trans l5))).emp⟩,fun V6 l6=>.inr (.inl ⟨ho,by simpa using hf,rfl⟩)⟩,fun hf V7 l7=>?_⟩
 have hf:(bE ls [] []).isSome=true:=by simpa using hf
 obtain ⟨cs,hc⟩:=Option.isSome_iff_exists.1 hf
 have hC:=(yj iI.nil (fun m hm=>by cases hm) (kN ho).2).1 cs hc
 rw [List.append_nil] at hC
 exact .inr (.inr ⟨ho,cs,hc,⟨_,_,_,rfl,(hs cs hc).1.le l7 fun _ _ g=>fD.le g l7,(hs cs hc).2⟩,hC,AG hc ho⟩)
theorem qA {V:View}{p:OA}{n c:Nat}{ls:List L3}(h:cQ 6 nC V p n ls)(hb:∀l∈ls,Bd l){yi ye yu:Value}(E:Er V yi ye yu) :
  ab prog 18 #[.agg #[.slice p n c]] V fun r V'=>Ap ls (r=.tuple #[.agg #[.slice none 0 0],yi]) (r=.tuple #[.agg #[.slice none 0 0],ye]) fun cs=>∃q m e,r=.tuple #[.agg #[.slice q m e],.nilIface]/\cQ 6 gk V' q m (cs.map Prod.fst)/\m<=e:=by
 refine pJ p n c V _ fun V1 l1=>(ir (h.le l1 fun _ _ g=>nC.le g l1) hb (E.le l1)).mono ?_
 rintro r V2 l2 (⟨ho,rfl⟩|⟨ho,hc,rfl⟩|⟨ho,cs,hc,⟨q,m,e,rfl,hL,-⟩,hC,hl⟩)
 ·obtain ⟨i1,i2⟩:=uY E.si
  exact ⟨_,_,_,_,rfl,i1,fun _ V3 l3=>.inl ⟨ho,rfl⟩,fun hf=>by rw [i2] at hf;cases hf⟩
 ·obtain ⟨i1,i2⟩:=uY E.se
  exact ⟨_,_,_,_,rfl,i1,fun _ V3 l3=>.inr (.inl ⟨ho,hc,rfl⟩),fun hf=>by rw [i2] at hf;cases hf⟩
 ·refine ⟨_,_,_,_,rfl,kJ.1,(fun hf=>by cases hf),fun _ V4 l4=>(Av (hL.le l4 fun _ _ g=>fD.le g l4) hl).mono ?_⟩
  rintro r V5 l5 ⟨q',m',e',rfl,g,hm⟩
  exact ⟨_,_,_,rfl,fun V6 l6=>.inr (.inr ⟨ho,cs,hc,_,_,_,rfl,g.le l6 fun _ _ g=>gk.le g l6,hm⟩)⟩
def fc (V:View)(v:Value)(c:Rat×Rat):Prop:=F0 V v c.1 c.2
theorem fc.le {V V':View}{v:Value}{c:Rat×Rat}(h:fc V v c)(l:V.Le V'):fc V' v c:=F0.le h l
theorem HC {b:Bool}{p:OA}{n c:Nat}{p':OA}{n' c':Nat}{d:Bool}{q:OA}{m e:Nat}{q':OA}{m' e':Nat}:∀v∈([.bool b,.slice p n c,.slice p' n' c',.bool d,.slice q m e,.slice q' m' e']:List Value),v.oneCell'=true:=by
 intro v hm
 simp only [List.mem_cons,List.not_mem_nil,or_false] at hm
 rcases hm with rfl|rfl|rfl|rfl|rfl|rfl<;>rfl
theorem mC {V:View}{p:OA}{n c:Nat}{ls:List L3}(h:cQ 6 nC V p n ls)(hb:∀l∈ls,Bd l){yi ye yu:Value}(E:Er V yi ye yu) :
  ab prog 23 #[.agg #[.slice p n c]] V fun r V'=>Ap ls (r=.tuple #[.slice none 0 0,yi]) (r=.tuple #[.slice none 0 0,ye]) fun cs=>∃q m e,r=.tuple #[.slice q m e,.nilIface]/\cQ 6 fc V' q m (lk (cs.map Prod.fst))/\∀x∈lk (cs.map Prod.fst),Sz 20000 x.1/\Sz 20000 x.2:=by
 refine ma p n c V _ fun V1 l1=>(ir (h.le l1 fun _ _ g=>nC.le g l1) hb (E.le l1)).mono ?_
 rintro r V2 l2 (⟨ho,rfl⟩|⟨ho,hc,rfl⟩|⟨ho,cs,hc,⟨q,m,e,rfl,hL,-⟩,hC,hl⟩)
 ·obtain ⟨i1,i2⟩:=uY E.si
  exact ⟨_,_,_,_,rfl,i1,fun _ V3 l3=>.inl ⟨ho,rfl⟩,fun hf=>by rw [i2] at hf;cases hf⟩
 ·obtain ⟨i1,i2⟩:=uY E.se
  exact ⟨_,_,_,_,rfl,i1,fun _ V3 l3=>.inr (.inl ⟨ho,hc,rfl⟩),fun hf=>by rw [i2] at hf;cases hf⟩
 ·refine ⟨_,_,_,_,rfl,kJ.1,(fun hf=>by cases hf),fun _ V4 l4=>(jN (hL.le l4 fun _ _ g=>fD.le g l4) hl).mono ?_⟩
  rintro r V5 l5 ⟨q',m',e',rfl,g⟩
  have vl:=CB (cs.map Prod.fst)
  rw [List.length_map] at vl
  have R:∀{r:Value} {V':View},(∃q m e,r=.tuple #[.slice q m e,.nilIface]/\cQ 6 fc V' q m (lk (cs.map Prod.fst))/\∀x∈lk (cs.map Prod.fst),Sz 20000 x.1/\Sz 20000 x.2)->Ap ls (r=.tuple #[.slice none 0 0,yi]) (r=.tuple #[.slice none 0 0,ye]) fun cs=>∃q m e,r=.tuple #[.slice q m e,.nilIface]/\cQ 6 fc V' q m (lk (cs.map Prod.fst))/\∀x∈lk (cs.map Prod.fst),Sz 20000 x.1/\Sz 20000 x.2:=fun h=>.inr (.inr ⟨ho,cs,hc,h⟩)
  generalize lk (cs.map Prod.fst)=A at *
  have hsz:∀x∈A,Sz 20000 x.1/\Sz 20000 x.2:=fun x hx=>by
   obtain ⟨i,hi,rfl⟩:=List.mem_iff_getElem.1 hx
   obtain ⟨-,_,_,_,_,_,_,_,-,-,-,-,-,-,-,g⟩:=mS g hi
   exact g.2
  obtain rfl:=g.len
  refine ⟨_,_,_,rfl,fun z V'=>∃j:Nat,z.2.2.2=(j:Int)/\j<=A.length/\GR 6 fc V' z.1 z.2.1 z.2.2.1 (A.take j),fun z=>A.length-z.2.2.2.toNat,⟨(0,0,[],0),by and_intros<;>rfl,0,rfl,Nat.zero_le _,GR.nil⟩,?_⟩
  rintro ⟨z1,z2,vs,z4⟩ V6 l6 ⟨j,e4,FU,hg⟩
  dsimp only at e4 hg
  subst e4
  have zl:=hg.len
  rw [List.length_take] at zl
  refine ⟨rfl,fun hlt=>?_,fun hlt V9 l9 bk hbk=>?_⟩
  ·have hlt:(j:Int)<A.length:=of_decide_eq_true hlt
   have hi:j<A.length:=by omega
   have w:i64.wrap ((j:Int)+1)=((j+1:Nat):Int):=by rw [ay (by omega)];rfl
   dsimp only
   rw [Int.toNat_natCast,w]
   obtain ⟨ps,x,y,t,x',y',t',a,ha,a0,a1,a2,a3,a4,a5,gu⟩:=mS (g.le l6 fun _ _ g=>Ao.le g l6) hi
   refine ⟨ps,⟨by omega,by omega⟩,_,_,_,_,_,_,a,ha,a0,a1,a2,a3,a4,a5,fun V7 l7=>(v_ (gu.1.le l7) gu.2.1 gu.2.2 (by omega)).mono ?_⟩
   rintro r V8 l8 gr
   have g0:fc V8 r A[j]:=gr
   obtain ⟨_,_,_,_,_,_,_,_,_,_,_,_,_,_,rfl,-⟩:=gr
   refine ⟨_,_,_,_,_,_,_,_,_,_,_,_,_,_,rfl,by omega,hg.le,hg.cap,rfl,HC,fun sp c' h1 h2=>⟨(z1+1,c',_,((j+1:Nat):Int)),by dsimp only;omega,by and_intros<;>rfl,j+1,rfl,hi,?_⟩⟩
   dsimp only
   rw [List.take_add_one,List.getElem?_eq_getElem hi]
   exact (hg.mono (V':=V8) fun _ _ g=>fc.le g (l7.trans l8)).snoc rfl g0 (by decide) h1 h2
  ·have hlt:¬(j:Int)<A.length:=of_decide_eq_false hlt
   obtain rfl:j=A.length:=by omega
   rw [List.take_length] at hg
   have e1:=hg.len
   refine R ⟨mA bk z2,z1,z2,rfl,?_,hsz⟩
   rw [e1]
   exact cQ.fU hbk (hg.row.le fun _ _ g=>fc.le g l9) (by decide) (by have:=hg.le;omega)
theorem th {V:View}{p:OA}{n c:Nat}{ls:List L3}(h:cQ 6 nC V p n ls)(hb:∀l∈ls,Bd l){yi ye yu:Value}(E:Er V yi ye yu) :
  ab prog 25 #[.agg #[.slice p n c]] V fun r V'=>Ap ls (r=.tuple #[.agg #[.bool false,.slice none 0 0,.slice none 0 0],yi]) (r=.tuple #[.agg #[.bool false,.slice none 0 0,.slice none 0 0],ye])
   fun cs=>(xN cs=false->r=.tuple #[.agg #[.bool false,.slice none 0 0,.slice none 0 0],yu])/\(xN cs=true->∃w,r=.tuple #[w,.nilIface]/\RA V' w (tw (lk (cs.map Prod.fst))*((2:Int):Rat)⁻¹)/\Sz 10000000010 (tw (lk (cs.map Prod.fst))*((2:Int):Rat)⁻¹)):=by
 refine r_ p n c V _ fun V1 l1=>(ir (h.le l1 fun _ _ g=>nC.le g l1) hb (E.le l1)).mono ?_
 rintro r V2 l2 (⟨ho,rfl⟩|⟨ho,hc,rfl⟩|⟨ho,cs,hc,⟨q,m,e,rfl,hL,-⟩,hC,hl⟩)
 ·obtain ⟨i1,i2⟩:=uY E.si
  exact ⟨_,_,_,_,rfl,i1,fun _ V3 l3=>.inl ⟨ho,rfl⟩,fun hf=>by rw [i2] at hf;cases hf⟩
 ·obtain ⟨i1,i2⟩:=uY E.se
  exact ⟨_,_,_,_,rfl,i1,fun _ V3 l3=>.inr (.inl ⟨ho,hc,rfl⟩),fun hf=>by rw [i2] at hf;cases hf⟩
 ·have L2:=l1.trans l2
  refine ⟨_,_,_,_,rfl,kJ.1,(fun hf=>by cases hf),fun _ V4 l4=>(qw (hL.le l4 fun _ _ g=>fD.le g l4) hl).mono ?_⟩
  rintro r V5 l5 rfl
  refine ⟨_,rfl,fun hf=>⟨yu,⟨_,rfl,(E.le (L2.trans (l4.trans l5))).PC⟩,fun V6 l6=>.inr (.inr ⟨ho,cs,hc,fun _=>rfl,fun ht=>by rw [ht] at hf;cases hf⟩)⟩,fun hf V7 l7=>?_⟩
  have hf:xN cs=true:=by simpa using hf
  have oV:=l4.trans (l5.trans l7)
  refine (xQ (hL.le oV fun _ _ g=>fD.le g oV) hl).mono ?_
  rintro r V8 l8 ⟨g,sg⟩
  have g0:=g
  obtain ⟨_,_,_,rfl⟩:=g.shape
  refine ⟨_,_,_,rfl,fun V9 l9=>(vY (g0.le l9) sg (by omega)).mono ?_⟩
  rintro r kV l10 ga
  have QH:=ga
  obtain ⟨_,_,_,_,_,_,_,rfl⟩:=ga.shape
  exact ⟨_,_,_,_,_,_,_,rfl,fun lH bS=>.inr (.inr ⟨ho,cs,hc,(fun ht=>by rw [hf] at ht;cases ht),fun _=>⟨_,rfl,QH.le bS,sg⟩⟩)⟩
theorem HZ {V:View}{v:Value}{q:Rat}(h:RA V v q){k:Nat}(hs:Sz k q)(hk:k<=274877906944):ab prog 43 #[v] V fun r V'=>RQ V' r q:=by
 obtain ⟨b,xs,ys,hr,-,e,hl⟩:=RE.raw (no:=false) ⟨(fun h=>nomatch h),fun _=>h⟩ (fun h=>nomatch h)
 obtain ⟨m1,m2⟩:=hl k hs
 have e:Ds b xs ys=q:=e
 rw [←e]
 exact CT hr (by omega) (by omega)
theorem we {V:View}{p:OA}{n c:Nat}{ls:List L3}(h:cQ 6 gk V p n ls)(hn:ls.length<=1000000)(hs:∀l∈ls,Bd l) :
  ab prog 71 #[.slice p n c] V fun r V'=>∃q m e,r=.slice q m e/\cQ 6 gk V' q m ls:=by
 obtain rfl:=h.len
 refine uh p _ c V _ ⟨fun z V'=>∃j:Nat,z.2.2.2=(j:Int)/\j<=ls.length/\GR 6 gk V' z.1 z.2.1 z.2.2.1 (ls.take j),fun z=>ls.length-z.2.2.2.toNat,⟨(0,0,[],0),by and_intros<;>rfl,0,rfl,Nat.zero_le _,GR.nil⟩,?_⟩
 rintro ⟨z1,z2,vs,z4⟩ V1 l1 ⟨j,e4,FU,hg⟩
 dsimp only at e4 hg
 subst e4
 have zl:=hg.len
 rw [List.length_take] at zl
 refine ⟨rfl,fun hlt=>?_,fun hlt V4 l4 bk hb=>?_⟩
 ·have hlt:(j:Int)<ls.length:=of_decide_eq_true hlt
  have hi:j<ls.length:=by omega
  obtain ⟨ad,ha,xs,-,hf,hat⟩:=(h.le l1 fun _ _ g=>gk.le g l1).at_ j hi
  have hf0:=hf
  obtain ⟨_,_,_,_,_,_,_,_,_,_,_,_,ex⟩:=dA hf
  have ex:=congrArg Array.toList (Value.agg.inj ex)
  dsimp only at ex
  subst ex
  have w:i64.wrap ((j:Int)+1)=((j+1:Nat):Int):=by rw [ay (by omega)];rfl
  dsimp only
  rw [Int.toNat_natCast,w]
  obtain ⟨d1,d2,d3⟩:=(hs _ (List.getElem_mem hi)).af
  refine ⟨ki ha,⟨by omega,by omega⟩,_,_,_,_,_,_,_,_,_,_,_,_,ad,ha,hat 0 _ rfl,hat 1 _ rfl,hat 2 _ rfl,hat 3 _ rfl,hat 4 _ rfl,hat 5 _ rfl,fun V2 l2=>(oN (hf0.le l2) (by omega) (by omega) (by omega)).mono ?_⟩
  rintro r V3 l3 g
  have g0:gk V3 r ls[j]:=g
  obtain ⟨_,_,_,_,_,_,_,_,_,_,_,_,rfl⟩:=dA g0
  refine ⟨_,_,_,_,_,_,_,_,_,_,_,_,rfl,by omega,hg.le,hg.cap,rfl,GN,fun sp c' h1 h2=>⟨(z1+1,c',_,((j+1:Nat):Int)),by dsimp only;omega,by and_intros<;>rfl,j+1,rfl,hi,?_⟩⟩
  dsimp only
  rw [List.take_add_one,List.getElem?_eq_getElem hi]
  exact (hg.mono (V':=V3) fun _ _ g=>gk.le g (l2.trans l3)).snoc rfl g0 (by decide) h1 h2
 ·have hlt:¬(j:Int)<ls.length:=of_decide_eq_false hlt
  obtain rfl:j=ls.length:=by omega
  rw [List.take_length] at hg
  obtain rfl:=hg.len
  exact ⟨_,_,_,rfl,cQ.fU hb (hg.row.le fun _ _ g=>gk.le g l4) (by decide) hg.le⟩
theorem qF {V:View}{p:OA}{n c:Nat}{q:OA}{m d:Nat}{A:List L3}(hA:cQ 6 gk V p n A)(hB:cQ 6 gk V q m A)(hn:A.length<=1000000)(hs:∀l∈A,Bd l) :
  ab prog 111 #[.slice p n c,.slice q m d] V fun r V'=>r=.bool true:=by
 obtain rfl:=hA.len
 obtain rfl:=hB.len
 refine pX p _ c q _ d V _ ⟨fun h=>by simp at h,fun _=>⟨fun z V'=>∃j:Nat,z=(j:Int)/\j<=A.length,fun z=>A.length-z.toNat,⟨0,by and_intros<;>rfl,0,rfl,Nat.zero_le _⟩,?_⟩⟩
 rintro z V2 l2 ⟨j,rfl,FU⟩
 refine ⟨rfl,fun hlt=>?_,fun hlt V6 l6=>rfl⟩
 have hlt:(j:Int)<A.length:=of_decide_eq_true hlt
 have hi:j<A.length:=by omega
 obtain ⟨ad,ha,xs,-,hf,hat⟩:=(hA.le l2 fun _ _ g=>gk.le g l2).at_ j hi
 obtain ⟨Mk,ha',ys,-,hf',hat'⟩:=(hB.le l2 fun _ _ g=>gk.le g l2).at_ j hi
 have hf0:=hf
 have MK:=hf'
 obtain ⟨_,_,_,_,_,_,_,_,_,_,_,_,ex⟩:=dA hf
 obtain ⟨_,_,_,_,_,_,_,_,_,_,_,_,ey⟩:=dA hf'
 have ex:=congrArg Array.toList (Value.agg.inj ex)
 have ey:=congrArg Array.toList (Value.agg.inj ey)
 dsimp only at ex ey
 subst ex ey
 have w:i64.wrap ((j:Int)+1)=((j+1:Nat):Int):=by rw [ay (by omega)];rfl
 rw [Int.toNat_natCast,w]
 obtain ⟨d1,d2,d3⟩:=(hs _ (List.getElem_mem hi)).af
 refine ⟨ki ha,⟨by omega,by omega⟩,_,_,_,_,_,_,_,_,_,_,_,_,ad,ha,hat 0 _ rfl,hat 1 _ rfl,hat 2 _ rfl,hat 3 _ rfl,hat 4 _ rfl,hat 5 _ rfl,ki ha',⟨by omega,by omega⟩,_,_,_,_,_,_,_,_,_,_,_,_,Mk,ha',hat' 0 _ rfl,hat' 1 _ rfl,hat' 2 _ rfl,hat' 3 _ rfl,hat' 4 _ rfl,hat' 5 _ rfl,fun V3 l3=>(tv (hf0.le l3) (MK.le l3) (by omega) (by omega) (by omega)).mono ?_⟩
 rintro r V4 l4 rfl
 rw [decide_eq_true ⟨rfl,rfl,rfl⟩]
 exact ⟨_,rfl,(fun h=>nomatch h),fun _=>⟨((j+1:Nat):Int),by dsimp only;omega,by and_intros<;>rfl,j+1,rfl,hi⟩⟩
end Go.Proofs.Tryz
