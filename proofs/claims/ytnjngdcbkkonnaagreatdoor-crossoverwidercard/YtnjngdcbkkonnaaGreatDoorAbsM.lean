/- A strings.Builder's methods. -/
import Derived.Shelf.Strings.Builder1
import Derived.Test.YtnjngdcbkkonnaaGreatDoorAbsH
set_option linter.unusedVariables false
set_option linter.unusedSimpArgs false
namespace Go.Abs
open Go Go.Proofs Go.Shelf Go.RowKit
section
variable {P:Program}{ρ:Ren}
theorem q5l (w:World)(t u ty e:TypeId)(i:TypeInfo)(ht:P.underlying t=some (.slice e))(hu:P.underlying u=some .string)(hi:P.info? e=some i)(hz:i.zero=some (.int .u8 0))(hsize:i.size=1)(hby:i.bytes=1)
  (v:Value) (n:Nat) (xs:List Value) (hown:w.ownsRow 0 e 1 v n xs) (s:ByteArray) (h63:n+s.size≤maxLen) (hbytes:n+s.size≤140737488355328):
  ∃v' w',(Builtin.append_ #[t,u] ty #[v,.string s]).run P w=.ok v' w'∧w'.ownsRow 0 e 1 v' (n+s.size) (xs++Lib.strCells s)∧w.grownBy w' v.ownBlock∧(v'.ownBlock=v.ownBlock∨∃g,v'.ownBlock=some g∧w.heap.size≤g):=by
 obtain⟨v',w',hr,h2,h3,h4⟩:=Lib.run_append_own_string (P:=P) w 0 t u ty e i ht hu hi hz hsize hby v n xs hown s h63 hbytes (Nat.zero_le _)
 refine⟨v',w',hr,h2,h3,?_⟩
 rcases hown.2 with⟨rfl,rfl⟩|⟨g,cap,cur,rfl,hbg,hg,hnc,hcm,hcs,htake⟩
 ·have hown':w.ownsRow w.heap.size e 1 (.slice none 0 0) 0 xs:=⟨hown.1,.inl ⟨rfl,rfl⟩⟩
  obtain⟨v'',w'',hr',k2,_,_⟩:=Lib.run_append_own_string (P:=P) w w.heap.size t u ty e i ht hu hi hz hsize hby _ _ xs hown' s h63 hbytes (Nat.le_refl _)
  rw[hr]at hr'
  cases hr'
  rcases k2.2 with⟨rfl,_⟩|⟨g,cap,cur,rfl,hbg,_⟩
  ·exact .inl rfl
  ·exact .inr ⟨g,rfl,hbg⟩
 ·have hxl:xs.length=n:=by simpa using hown.1
  by_cases hroom:n+s.size≤cap
  ·have hcs':cur.size=cap:=by simpa using hcs
   have hr':=Lib.run_append_room_string (P:=P) w t u ty e i ht hu hi hsize g n cap cur hg s hroom (by omega)
   rw[hr]at hr'
   cases hr'
   exact .inl rfl
  ·have holds:∀j u,xs[j]?=some u→w.cell? ((⟨g,0,none⟩:Addr).add j)=some u:=hown.cells (g:=g) rfl
   have hr':=Lib.run_append_grow_string (P:=P) w t u ty e i (.int .u8 0) ht hu hi hz ⟨g,0,none⟩ n cap xs (by rw[hsize];simpa using hxl) holds s (by omega) (by simp only[maxLen]at h63;omega) (by rw[hby];exact growslice_fits (by omega) (by omega))
   rw[hr]at hr'
   cases hr'
   exact .inr ⟨w.heap.size,rfl,Nat.le_refl _⟩
theorem q1j {w:World}{ops:Array Oper}{rest:List Oper}{o:Oper}{a:Act}{Q:Exit→Act→World→Prop}(hgd:o.guard=none)(sl x:Operand)(t u:TypeId)
  (ho:o.op=.call { callee:=.builtin .append,args:=#[sl,x],argTypes:=#[t,u] })
  (e:TypeId) (i:TypeInfo) (ht:P.underlying t=some (.slice e)) (hu:P.underlying u=some .string) (hi:P.info? e=some i) (hz:i.zero=some (.int .u8 0)) (hsize:i.size=1) (hby:i.bytes=1)
  (v:Value) (n:Nat) (xs:List Value) (hs:a.eval sl=v) (hown:w.ownsRow 0 e 1 v n xs) (s:ByteArray) (hx:a.eval x=.string s) (h63:n+s.size≤maxLen) (hbytes:n+s.size≤140737488355328)
  (h:∀v' w',w'.ownsRow 0 e 1 v' (n+s.size) (xs++Lib.strCells s)→w.grownBy w' v.ownBlock→(v'.ownBlock=v.ownBlock∨∃g,v'.ownBlock=some g∧w.heap.size≤g)→wpList P ops Q rest (a.put o.dst v') w'):wpList P ops Q (o::rest) a w:=by
 refine wpList_plain hgd fun K hK=>?_
 obtain⟨v',w',hr,h2,h3,h4⟩:=q5l (P:=P) w t u o.type e i ht hu hi hz hsize hby v n xs hown s h63 hbytes
 unfold Oper.wp execOp
 simp only[ho,resolve,invoke,builtin,Sem.run_bind,Sem.run_pure,Result.andThen_ok,List.map_toArray,List.map_cons,List.map_nil,hs,hx,hr]
 exact hK _ _ (h v' w' h2 h3 h4)
structure jw (b:Nat)(T e:TypeId)(v:Value)(bs:List Value)(w w1:World):Prop where
 block:w1.heap[b]?=some (.cells #[.pointer (some ⟨b,0,none⟩),v] T (0,0))
 own:w1.ownsRow 0 e 1 v bs.length bs
 other:∀k,k≠b→w1.heap[k]?=w.heap[k]?
 size:w1.heap.size=w.heap.size
 os:w1.os=w.os
 output:w1.output=w.output
theorem q5r (L:Lays.n240 P ρ)(X:Builder.X72 P ρ)(b:Nat)(p v:Value)(bs:List Value)(w:World)(hb:w.heap[b]?=some (.cells #[p,v] (ρ.t 72) (0,0)))(hp:p=.pointer none∨p=.pointer (some ⟨b,0,none⟩))(hown:w.ownsRow 0 (ρ.t 5) 1 v bs.length bs)(hne:v.ownBlock≠some b):
  Calls P (ρ.f 240) #[.pointer (some ⟨b,0,none⟩)] w fun e w1=>e=.returned (.tuple #[])∧jw b (ρ.t 72) (ρ.t 5) v bs w w1:=by
 rcases hp with rfl|rfl
 ·have hB:Lib.BuilderAt (ρ.t 72) (ρ.t 5) 0 b (.pointer none) bs w:=⟨Nat.zero_le _,v,hb,hown,hne⟩
  refine(Any.Builder_copyCheck_fresh L X b w hB.cell0 hB.shape hB.frozen0).mono ?_
  rintro e w' ⟨rfl,rfl⟩
  refine⟨rfl,?_,?_,?_,?_,rfl,rfl⟩
  ·simp[World.setCell,Array.getElem?_modify,hb]
  ·exact hown.kept (row:=some b) ⟨rfl,rfl,rfl,by simp[World.setCell],fun k _ hk=>Below.heap_setCell _ _ _ _ (fun e=>hk (by simp[e]))⟩ (Or.inr hne)
  ·intro k hk
   simp[World.setCell,Array.getElem?_modify,Ne.symm hk]
  ·simp[World.setCell]
 ·have hB:Lib.BuilderAt (ρ.t 72) (ρ.t 5) 0 b (.pointer (some ⟨b,0,none⟩)) bs w:=⟨Nat.zero_le _,v,hb,hown,hne⟩
  refine(Any.Builder_copyCheck_used L X b w hB.cell0).mono ?_
  rintro e w' ⟨rfl,rfl⟩
  exact⟨rfl,hb,hown,fun _ _=>rfl,rfl,rfl,rfl⟩
structure js0 (b:Nat)(T e:TypeId)(v:Value)(bs:List Value)(w w':World):Prop where
 block:∃v',w'.heap[b]?=some (.cells #[.pointer (some ⟨b,0,none⟩),v'] T (0,0))∧w'.ownsRow 0 e 1 v' bs.length bs∧(v'.ownBlock=v.ownBlock∨∃g,v'.ownBlock=some g∧w.heap.size≤g)
 other:∀k,k<w.heap.size→k≠b→v.ownBlock≠some k→w'.heap[k]?=w.heap[k]?
 size:w.heap.size≤w'.heap.size
 os:w'.os=w.os
 output:w'.output=w.output
set_option maxHeartbeats 2000000 in
set_option maxRecDepth 100000 in
theorem q1g (L:Lays.n166 P ρ)(X:Builder.Extra P ρ)(b:Nat)(p v:Value)(bs:List Value)(s:ByteArray)(w:World)(hb:w.heap[b]?=some (.cells #[p,v] (ρ.t 72) (0,0)))(hp:p=.pointer none∨p=.pointer (some ⟨b,0,none⟩))(hown:w.ownsRow 0 (ρ.t 5) 1 v bs.length bs)(hne:v.ownBlock≠some b)(hlen:bs.length+s.size≤140737488355328):
  Calls P (ρ.f 166) #[.pointer (some ⟨b,0,none⟩),.string s] w fun e w'=>e=.returned (.tuple #[.int .i64 s.size,.nilIface])∧js0 b (ρ.t 72) (ρ.t 5) v (bs++Lib.strCells s) w w':=by
 obtain⟨i0,hi,hz0,hz1,hz2⟩:=info_parts X.infoByte
 have mixed:=L.mixed
 have t72:=L.t72;have a72:=L.a72;have z72:=L.z72;have v72:=L.v72;have u72:=run_underlying L.t72
 have t70:=L.t70;have a70:=L.a70;have z70:=L.z70;have v70:=L.v70;have u70:=run_underlying L.t70
 have t37:=L.t37;have a37:=L.a37;have z37:=L.z37;have v37:=L.v37;have u37:=run_underlying L.t37
 have t3:=L.t3;have a3:=L.a3;have z3:=L.z3;have v3:=L.v3;have u3:=run_underlying L.t3
 have t9:=L.t9;have a9:=L.a9;have z9:=L.z9;have v9:=L.v9;have u9:=run_underlying L.t9
 have t4:=L.t4;have a4:=L.a4;have z4:=L.z4;have v4:=L.v4;have u4:=run_underlying L.t4
 have t164:=L.t164;have a164:=L.a164;have z164:=L.z164;have v164:=L.v164;have u164:=run_underlying L.t164
 have t5:=X.t5;have a5:=X.a5;have z5:=X.z5;have v5:=X.v5;have u5:=run_underlying X.t5
 have e240:∀args w,(callFunc (ρ.f 240) args).run P w=.ok (.enter (ρ.f 240) args) w:=enters_of L.f240 (by kernel_rfl) rfl
 go_enter L.f166,Body.n166_ntmps ρ
 go_wp2_with (go_at_fn (ρ.f 240);refine(q5r { L with } X.toX72 b p v bs _ hb hp hown hne).mono ?_)
 rintro e w1 ⟨rfl,h1⟩
 obtain⟨hbk,hown1,hoth1,hsz1,hos1,hout1⟩:=h1
 have c0:w1.cell? ⟨b,0,none⟩=some (.pointer (some ⟨b,0,none⟩)):=by rw[Lib.cell_of_heap hbk];rfl
 have c1:w1.cell? ⟨b,1,none⟩=some v:=by rw[Lib.cell_of_heap hbk];rfl
 go_wp2_with (at_builtin;refine q1j rfl _ _ (ρ.t 37) (ρ.t 9) rfl (ρ.t 5) i0 L.t37 L.t9 hi hz0 hz1 hz2 _ _ _ rfl hown1 s rfl ?c3 ?c4 ?_)
 case c3=>unfold maxLen;omega
 case c4=>omega
 intro v' w2 hown' hgrow hnew
 have hlt:b<w1.heap.size:=(Array.getElem?_eq_some_iff.1 hbk).1
 have hb2:w2.heap[b]?=some (.cells #[.pointer (some ⟨b,0,none⟩),v] (ρ.t 72) (0,0)):=by
  rw[hgrow.block b hlt (fun e=>hne e.symm)]
  exact hbk
 have d0:w2.cell? ⟨b,0,none⟩=some (.pointer (some ⟨b,0,none⟩)):=by rw[Lib.cell_of_heap hb2];rfl
 have d1:w2.cell? ⟨b,1,none⟩=some v:=by rw[Lib.cell_of_heap hb2];rfl
 have f1:w2.frozen? ⟨b,1,none⟩=false:=Lib.frozen_of_heap hb2 1
 have hne':v'.ownBlock≠some b:=Lib.ownBlock_ne hown' hb2 X.neB5
 obtain⟨ao,n',cap,rfl⟩:∃ao n' cap,v'=.slice ao n' cap:=by
  rcases hown'.2 with⟨hv,_⟩|⟨g,cap,cur,hv,_⟩
  ·exact⟨_,_,_,hv⟩
  ·exact⟨_,_,_,hv⟩
 go_wp2
 go_ret2
 refine⟨rfl,⟨.slice ao n' cap,?_,?_,?_⟩,?_,?_,?_,?_⟩
 ·simp[World.setCell,Array.getElem?_modify,hb2]
 ·rw[List.length_append,Lib.strCells_length]
  exact hown'.kept (row:=some b) ⟨rfl,rfl,rfl,by simp[World.setCell],fun k _ hk=>Below.heap_setCell _ _ _ _ (fun e=>hk (by simp[e]))⟩ (Or.inr hne')
 ·rcases hnew with h|⟨g,h,hg⟩
  ·exact .inl h
  ·exact .inr ⟨g,h,by omega⟩
 ·intro k hk hkb hkv
  have:(w2.setCell ⟨b,1,none⟩ (.slice ao n' cap)).heap[k]?=w2.heap[k]?:=by
   simp[World.setCell,Array.getElem?_modify,Ne.symm hkb]
  rw[this,hgrow.block k (by omega) (fun e=>hkv e.symm),hoth1 k hkb]
 ·have:=hgrow.size
  simp only[World.setCell,Array.size_modify]
  omega
 ·exact hgrow.os.trans hos1
 ·exact hgrow.output.trans hout1
structure jx (v:Value)(w w':World):Prop where
 other:∀k,k<w.heap.size→v.ownBlock≠some k→w'.heap[k]?=w.heap[k]?
 size:w.heap.size≤w'.heap.size
 os:w'.os=w.os
 output:w'.output=w.output
theorem q2v (w:World)(a:Addr)(n k:Nat)(h:k≠a.block):(w.freeze a n).heap[k]?=w.heap[k]?:=by
 unfold World.freeze
 split
 ·rfl
 ·simp only[Array.getElem?_modify]
  rw[if_neg (Ne.symm h)]
theorem qnk (w:World)(a:Addr)(n:Nat):(w.freeze a n).heap.size=w.heap.size∧(w.freeze a n).os=w.os∧(w.freeze a n).output=w.output:=by
 unfold World.freeze
 split
 ·exact⟨rfl,rfl,rfl⟩
 ·exact⟨by simp,rfl,rfl⟩
set_option maxHeartbeats 2000000 in
set_option maxRecDepth 100000 in
theorem qkm (L:Lays.n169 P ρ)(X:Builder.Extra P ρ)(b n cap:Nat)(ao q:Option Addr)(s:ByteArray)(w w1 w2:World){R:World→Prop}(c0:w.cell? ⟨b,1,none⟩=some (.slice ao n cap))(c2:w1.cell? ⟨b,1,none⟩=some (.slice ao n cap))
  (hSD:(Builtin.unsafeSliceData_ #[(ρ.t 37)] (ρ.t 127) #[.slice ao n cap]).run P w.drew=.ok (.pointer q) w1) (hUS:(Builtin.unsafeString_ #[(ρ.t 127),(ρ.t 3)] (ρ.t 9) #[.pointer q,.int .i64 n]).run P w1=.ok (.string s) w2) (hR:R w2):
  Calls P (ρ.f 169) #[.pointer (some ⟨b,0,none⟩)] w fun e w'=>e=.returned (.string s)∧R w':=by
 have c1:w.drew.cell? ⟨b,1,none⟩=some (.slice ao n cap):=c0
 have mixed:=L.mixed
 have t72:=L.t72;have a72:=L.a72;have z72:=L.z72;have v72:=L.v72;have u72:=run_underlying L.t72
 have t70:=L.t70;have a70:=L.a70;have z70:=L.z70;have v70:=L.v70;have u70:=run_underlying L.t70
 have t37:=L.t37;have a37:=L.a37;have z37:=L.z37;have v37:=L.v37;have u37:=run_underlying L.t37
 have t127:=L.t127;have a127:=L.a127;have z127:=L.z127;have v127:=L.v127;have u127:=run_underlying L.t127
 have t3:=L.t3;have a3:=L.a3;have z3:=L.z3;have v3:=L.v3;have u3:=run_underlying L.t3
 have t9:=L.t9;have a9:=L.a9;have z9:=L.z9;have v9:=L.v9;have u9:=run_underlying L.t9
 have t5:=X.t5;have a5:=X.a5;have z5:=X.z5;have v5:=X.v5;have u5:=run_underlying X.t5
 go_enter L.f169,Body.n169_ntmps ρ
 go_wp2
 go_region_o
 all_goals (go_wp2;go_ret;exact⟨rfl,hR⟩)
theorem jdz (L:Lays.n169 P ρ)(X:Builder.Extra P ρ)(b:Nat)(p v:Value)(l:List UInt8)(w:World)(hb:w.heap[b]?=some (.cells #[p,v] (ρ.t 72) (0,0)))(hown:w.ownsRow 0 (ρ.t 5) 1 v l.length (Lib.byteCells l)):
  Calls P (ρ.f 169) #[.pointer (some ⟨b,0,none⟩)] w fun e w'=>e=.returned (.string ⟨l.toArray⟩)∧jx v w w':=by
 have hlt:b<w.heap.size:=(Array.getElem?_eq_some_iff.1 hb).1
 have c0:w.cell? ⟨b,1,none⟩=some v:=by rw[Lib.cell_of_heap hb];rfl
 have hnone:=Any.unsafeString_none L X
 rcases hown.2 with⟨rfl,h0⟩|⟨g,cap,cur,rfl,hbg,hg,hnc,hcm,hcs,htake⟩
 ·obtain rfl:l=[]:=List.eq_nil_of_length_eq_zero h0
  exact qkm (q:=none) L X b 0 0 none _ w w.drew w.drew c0 c0 rfl (hnone _ _) ⟨fun _ _ _=>rfl,Nat.le_refl _,rfl,rfl⟩
 ·have hg':w.drew.heap[g]?=some (.cells cur (ρ.t 5) (0,0)):=hg
  by_cases h0:l=[]
  ·subst h0
   by_cases hc0:cap=0
   ·subst hc0
    refine qkm (q:=some ⟨w.drew.heap.size,0,none⟩) L X b 0 0 _ _ w (w.drew.alloc (.view ⟨g,0,none⟩ (ρ.t 5))) _ c0 ?_ (Lib.run_unsafeSliceData_zero w.drew _ _ (ρ.t 5) L.t127 ⟨g,0,none⟩ 0 ((ρ.t 5),cur.size) (by simp[World.shape?,hg'])) (hnone _ _) ⟨fun k hk _=>Lib.alloc_old w.drew _ k hk,by rw[World.size_alloc];exact Nat.le_succ _,rfl,rfl⟩
    rw[Lib.cell_of_heap ((Lib.alloc_old w.drew _ b hlt).trans hb)];rfl
   ·exact qkm (q:=some ⟨g,0,none⟩) L X b 0 cap _ _ w w.drew w.drew c0 c0 (Lib.run_unsafeSliceData_row _ _ _ _ _ _ hc0) (hnone _ _) ⟨fun _ _ _=>rfl,Nat.le_refl _,rfl,rfl⟩
  ·have hl0:l.length≠0:=by simpa using h0
   have hcs':cur.size=cap:=by simpa using hcs
   refine qkm (q:=some ⟨g,0,none⟩) L X b l.length cap _ _ w w.drew _ c0 c0 (Lib.run_unsafeSliceData_row _ _ _ _ _ _ (by omega)) (Lib.run_unsafeString_row w.drew (ρ.t 127) (ρ.t 3) (ρ.t 9) (ρ.t 5) L.t127 X.cellsByte g cur.size (by simp[World.shape?,hg']) l h0 (by omega) (by unfold maxLen at hcm;omega) fun j x hx=>?_)
    ⟨fun k _ hk=>q2v w.drew _ _ k (fun e=>hk (by rw[e];rfl)),Nat.le_of_eq (qnk w.drew _ _).1.symm,(qnk w.drew _ _).2.1,(qnk w.drew _ _).2.2⟩
   exact hown.cells (g:=g) rfl j (.int .u8 x.toNat) (by simp[Lib.byteCells,hx])
end
open Go Go.Proofs Go.Shelf Go.RowKit
section
variable {P:Program}{C:Ctx}{ω:Nat→Option Loc}{w w':World}{hp:ze}
theorem q68 {b r B:Nat}{t e:Nat}{l:List UInt8}{v:Value}(hv:(v=.slice none 0 0∧l=[])∨∃a len cap,v=.slice (some a) len cap)(ho:OwnV C ω w B (.cell b 1) (.list false 0 [.int .u64 (e:Int),.str l]) v):
  w.ownsRow 0 e 1 v l.length (Lib.byteCells l)∧∀g,v.ownBlock=some g→ω g=some (.cell b 1)∧(B≤g∨C.W g)∧(∀b,C.β b≠some g)∧g<w.heap.size∧(∀o,C.K g o=none)∧∃cs t,w.heap[g]?=some (.cells cs t (0,0)):=by
 rcases hv with⟨rfl,rfl⟩|⟨a,len,cap,rfl⟩
 ·exact⟨World.ownsRow_nil _ _ _ _,fun g h=>by cases h⟩
 ·obtain⟨h1,h2,h3,h4,h5,⟨cells,elem,h6,h7,h8⟩,h9⟩:=ho
  obtain⟨rfl,rfl,k3,k4,k5,k6⟩:=h8 e l rfl rfl
  obtain⟨g,off,spot⟩:=a
  simp only at h4 h5
  subst h4
  subst h5
  refine⟨⟨by simp[Lib.byteCells],.inr ⟨g,cap,cells,rfl,Nat.zero_le _,h6,k3,k4,by simpa using k5,by simpa[Lib.byteCells]using k6⟩⟩,fun g' hg=>?_⟩
  simp only[Value.ownBlock,Option.some.injEq]at hg
  subst hg
  exact⟨h1,h2,h3,(Array.getElem?_eq_some_iff.1 h6).1,fun o=>h9 o (by simp),_,_,h6⟩
theorem MInv.bldUpd {C0:Ctx}{w0:World}(m:MInv P C ω w0 C0 hp w){b r t e:Nat}{l:List UInt8}{v:Value}(hb:hp[b]?=some (.bld t e l))(hr:C.β b=some r)
  (hg:∀g,v.ownBlock=some g→ω g=some (.cell b 1)∧(w0.heap.size≤g∨C.W g)∧(∀b,C.β b≠some g)∧(∀o,C.K g o=none)∧∃cs t,w.heap[g]?=some (.cells cs t (0,0)))
  (hsame:∀k,k<w.heap.size→k≠r→v.ownBlock≠some k→w'.heap[k]?=w.heap[k]?) (hsz:w.heap.size≤w'.heap.size) (hos:w'.os=w.os) (hout:w'.output=w.output)
  {ω':Nat→Option Loc} (hω:∀k,k<w.heap.size→v.ownBlock≠some k→ω' k=ω k) (x':qq) (hbox:BoxRel P C ω' w' w0.heap.size b r x'):MInv P C ω' w0 C0 (hp.set b x') w':=by
 have hrb:=m.lt b r hr
 obtain⟨p0,v0,hblk,_⟩:=m.box b _ r hb hr
 have hfr:=m.fresh b r hr
 refine { base:=m.base,know:=?_,kone:=m.kone,apart:=m.apart,inj:=m.inj,lt:=?_,size:=Nat.le_trans m.size hsz,frame:=?_,dfr:=?_,os:=hos.trans m.os,output:=hout.trans m.output,fresh:=m.fresh,grown:=m.grown,old:=m.old,box:=?_ }
 ·intro k o u hk
  have hc:=m.know _ _ _ hk
  have hne:k≠r:=fun h=>by rw[h,m.apart b r o hr]at hk;cases hk
  have hnv:v.ownBlock≠some k:=fun h=>by rw[(hg k h).2.2.2.1 o]at hk;cases hk
  have hlt:k<w.heap.size:=by
   rcases Nat.lt_or_ge k w.heap.size with h|h
   ·exact h
   ·simp[World.cell?,Array.getElem?_eq_none h]at hc
  simp only[World.cell?]at hc ⊢
  rw[hsame k hlt hne hnv];exact hc
 ·intro k q hk
  have:=m.lt k q hk
  rw[List.length_set]
  exact⟨by omega,this.2⟩
 ·intro k hk hn hw
  have hlt:k<w.heap.size:=Nat.lt_of_lt_of_le hk m.size
  have hne:k≠r:=fun h=>by
   subst h
   rcases hfr with h|h|h
   ·exact hn b h
   ·omega
   ·exact hw h
  have hnv:v.ownBlock≠some k:=fun h=>by
   rcases(hg k h).2.1 with h1|h1
   ·omega
   ·rw[m.grown.w]at h1;exact hw h1
  rw[hsame k hlt hne hnv];exact m.frame k hk hn hw
 ·intro k hk
  have hd:=m.dfr k hk
  have hlt:k<w.heap.size:=(Array.getElem?_eq_some_iff.1 hd).1
  have hne:k≠r:=fun h=>by rw[h]at hd;rw[hd]at hblk;cases hblk
  have hnv:v.ownBlock≠some k:=fun h=>by
   obtain⟨cs,t,h1⟩:=(hg k h).2.2.2.2
   rw[hd]at h1;cases h1
  rw[hsame k hlt hne hnv];exact hd
 ·intro k y q hy hk
  by_cases hkb:k=b
  ·subst hkb
   rw[hr]at hk
   cases hk
   rw[List.getElem?_set_self hrb.2]at hy
   cases hy
   exact hbox
  ·rw[List.getElem?_set_ne (Ne.symm hkb)]at hy
   have h0:=m.box k y q hy hk
   have hq:=m.lt k q hk
   have hne:q≠r:=fun h=>hkb (m.inj k b q hk (h▸hr))
   have hnv:v.ownBlock≠some q:=fun h=>(hg q h).2.2.1 k hk
   refine BoxRel.imp (C:=C) (C':=C) ⟨fun _ _ _ h=>h,fun _ _ h=>h⟩ (hsame q hq.1 hne hnv) (fun j z u ho=>?_) h0
   unfold OwnV at *
   split at ho
   ·rename_i n sz xs a len cap
    obtain⟨h1,h2,h3,h4,h5,⟨cells,elem,h6,h7⟩,h9⟩:=ho
    have hlt:a.block<w.heap.size:=(Array.getElem?_eq_some_iff.1 h6).1
    have hnr:a.block≠r:=fun h=>h3 b (by rw[h];exact hr)
    have hnw:v.ownBlock≠some a.block:=fun h=>by
     rw[(hg _ h).1]at h1
     injection h1 with h1
     injection h1 with h1 _
     exact hkb h1.symm
    exact⟨by rw[hω _ hlt hnw];exact h1,h2,h3,h4,h5,⟨cells,elem,by rw[hsame _ hlt hnr hnw];exact h6,h7⟩,h9⟩
   ·trivial
def q3j (ω:Nat→Option Loc)(v:Value)(b:Nat):Nat→Option Loc:=match v.ownBlock with
 |some g=>own1 ω g (.cell b 1)
 |none=>ω
variable {ρ:Ren}
theorem jcy (L:Lays.n166 P ρ)(X:Builder.Extra P ρ){h:ze}{b:Nat}{l s:List UInt8}(hb:h[b]?=some (.bld (ρ.t 72) (ρ.t 5) l))(hlen:l.length+s.length≤140737488355328):
  qqv P (ρ.f 166) [.ptr b 0,.str s] h (.tup [.int .i64 (s.length:Int),.any]) false (h.set b (.bld (ρ.t 72) (ρ.t 5) (l++s))):=by
 intro C ω w vs hr m
 cases hr with
 |cons _ _ u vs hx hr=>
  cases hr with
  |cons _ _ u2 vs hx2 hr=>
   cases hr
   obtain rfl:=Rep.str_inv hx2
   obtain⟨r,hβ,rfl⟩:=Rep.ptr_inv hx
   obtain⟨p,v,hblk,hp,hv,ho⟩:=m.box b _ r hb hβ
   obtain⟨hown,hg⟩:=q68 (r:=r) (t:=ρ.t 72) hv ho
   have hne:v.ownBlock≠some r:=fun h=>(hg r h).2.2.1 b hβ
   have hbl:(Lib.byteCells l).length=l.length:=Lib.byteCells_length l
   refine callsIn_wide.2 ((q1g L X r p v (Lib.byteCells l) ⟨⟨s⟩⟩ w hblk hp (by rw[hbl];exact hown) hne (by rw[hbl];exact hlen)).mono ?_)
   rintro e w' ⟨rfl,⟨v',hb',hown',hnew⟩,hoth,hsz,hos,hout⟩
   have hcells:Lib.byteCells l++Lib.strCells ⟨⟨s⟩⟩=Lib.byteCells (l++s):=by rw[Lib.byteCells_append,Lib.strCells_eq]
   rw[hcells]at hown'
   refine⟨_,C,q3j ω v' b,rfl,Ctx.le_refl C,?_,.tup _ [_,_] (.cons _ _ _ _ (.int _ _) (.cons _ _ _ _ (.any _) .nil)),by simp⟩
   refine m.bldUpd (v:=v) hb hβ (fun g h=>let ⟨a,b',c,_,d,e⟩:=hg g h; ⟨a,b',c,d,e⟩) hoth hsz hos hout (fun k hk hkv=>?_) _ ?_
   ·unfold q3j
    cases hg':v'.ownBlock with
    |none=>rfl
    |some g=>
     simp only[own1]
     rw[if_neg]
     rintro rfl
     rcases hnew with h1|⟨g2,h1,h2⟩
     ·rw[hg']at h1;exact hkv h1.symm
     ·rw[hg']at h1;cases h1;omega
   ·refine⟨_,v',hb',.inr rfl,?_,?_⟩
    ·rcases hown'.2 with⟨rfl,h0⟩|⟨g,cap,cur,rfl,_⟩
     ·rw[Lib.byteCells_length]at h0
      exact .inl ⟨rfl,List.eq_nil_of_length_eq_zero h0⟩
     ·exact .inr ⟨_,_,_,rfl⟩
    ·rcases hown'.2 with⟨rfl,h0⟩|⟨g,cap,cur,rfl,_,k1,k2,k3,k4,k5⟩
     ·trivial
     ·have hnr:g≠r:=fun h=>by
       subst h
       rw[hb']at k1
       simp only[Option.some.injEq,Obj.cells.injEq]at k1
       exact X.neB5 k1.2.1
      have hgw:w.heap.size≤g∨C.W g:=by
       rcases hnew with h1|⟨g2,h1,h2⟩
       ·exact(hg g h1.symm).2.1
       ·cases h1;exact .inl h2
      refine⟨by simp[q3j,Value.ownBlock,own1],hgw,fun b' h=>?_,rfl,rfl,⟨cur,_,k1,by simp,fun e' l' _ hxs=>?_⟩,fun o _=>?_⟩
      ·rcases hnew with h1|⟨g2,h1,h2⟩
       ·exact(hg g h1.symm).2.2.1 b' h
       ·cases h1
        have h2:w.heap.size≤g:=h2
        have:g<w.heap.size:=(m.lt b' _ h).1
        omega
      ·have e1:(ρ.t 5:Int)=e':=by
        have:=(List.cons.inj hxs).1
        injection this
       have e2:l++s=l':=by
        have:=(List.cons.inj (List.cons.inj hxs).2).1
        injection this
       subst e2
       refine⟨Int.ofNat_inj.1 e1,by rw[Lib.byteCells_length],k2,k3,by simpa using k4,?_⟩
       simpa[Lib.byteCells]using k5
      ·rcases hnew with h1|⟨g2,h1,h2⟩
       ·exact(hg g h1.symm).2.2.2.2.1 o
       ·cases h1;exact m.K_new _ h2 o
theorem jaa (L:Lays.n169 P ρ)(X:Builder.Extra P ρ){h:ze}{b:Nat}{l:List UInt8}(hb:h[b]?=some (.bld (ρ.t 72) (ρ.t 5) l)):
  qqv P (ρ.f 169) [.ptr b 0] h (.str l) false (h.set b .dead):=by
 intro C ω w vs hr m
 cases hr with
 |cons _ _ u vs hx hr=>
  cases hr
  obtain⟨r,hβ,rfl⟩:=Rep.ptr_inv hx
  obtain⟨p,v,hblk,hp,hv,ho⟩:=m.box b _ r hb hβ
  obtain⟨hown,hg⟩:=q68 (r:=r) (t:=ρ.t 72) hv ho
  have hne:v.ownBlock≠some r:=fun h=>(hg r h).2.2.1 b hβ
  refine callsIn_wide.2 ((jdz L X r p v l w hblk hown).mono ?_)
  rintro e w' ⟨rfl,hoth,hsz,hos,hout⟩
  refine⟨_,C,ω,rfl,Ctx.le_refl C,?_,.str l,by simp⟩
  refine m.bldUpd (v:=v) hb hβ (fun g h=>let ⟨a,b',c,_,d,e⟩:=hg g h; ⟨a,b',c,d,e⟩) (fun k hk _ hkv=>hoth k hk hkv) hsz hos hout (fun _ _ _=>rfl) _ ?_
  exact⟨_,_,(hoth r (m.lt b r hβ).1 hne).trans hblk⟩
end
end Go.Abs
