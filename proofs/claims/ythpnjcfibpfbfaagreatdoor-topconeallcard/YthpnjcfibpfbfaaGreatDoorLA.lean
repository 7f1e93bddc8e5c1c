/- The library's functions in the abstract machine. -/
import Derived.Test.YthpnjcfibpfbfaaGreatDoorZS
import Derived.Test.YthpnjcfibpfbfaaGreatDoorZP
import Derived.Lib.AppendIntMem
import Derived.Test.YthpnjcfibpfbfaaGreatDoorZM
set_option linter.unusedVariables false
set_option linter.unusedSimpArgs false
set_option maxRecDepth 100000
namespace Go.Z
open Go Go.Abs Go.Proofs Go.RowKit
theorem qmc {w w':World}(h:Below w.heap.size w w'):Ext w w':=⟨h.size,h.block,h.os,h.output⟩
theorem qvk {n:Int}(h0:-9223372036854775808≤n)(h1:n≤9223372036854775807):IsoCall Tryz.prog 78 [.int .i64 n] (.str (Lib.itoa n)) false:=by
 refine qmd fun K w vs ht hk hr=>?_
 cases hr with
 |cons _ _ v vs hx hr=>
  cases hr
  obtain rfl:=Rep.int_inv hx
  have hg:Tryz.prog.globalNamed kh=some 3:=by kernel_rfl
  refine⟨.string ⟨⟨Lib.itoa n⟩⟩,.str _,(Tryz.strconv_Itoa n h0 h1 w (ht.table hg)).mono ?_⟩
  rintro e w' ⟨rfl,k,os,rfl⟩
  exact⟨rfl,qmc (Lib.below_grow w.heap.size w (Nat.le_refl _) k os)⟩
theorem qni {C:Ctx}{r:Nat}:∀ {ss:List (List UInt8)} {o:Nat},RepRow C r 1 (ss.map AVal.str) o→∀(j:Nat) s,ss[j]?=some s→C.K r (o+j)=some (.string ⟨⟨s⟩⟩)
 | [],o,_,j,s,hj=>by simp at hj
 |x::ss,o,h,j,s,hj=>by
  cases h with
  |rcons _ _ _ _ _ hs hx hr=>
   cases j with
   |zero=>
    simp only[List.getElem?_cons_zero,Option.some.injEq]at hj
    subst hj
    cases hx with
    |ccons _ _ _ _ u hv hu _=>
     rw[Nat.add_zero,hv,Rep.str_inv hu]
   |succ j=>
    have:=qni hr j s (by simpa using hj)
    rw[show o+(j+1)=o+1+j by omega]
    exact this
theorem qv5 {ss:List (List UInt8)}{p:List UInt8}(hne:ss≠[])(hN:ss.length≤140737488355328)(hlen:(Lib.join ss p).length≤140737488355328):IsoCall Tryz.prog 76 [.list false 1 (ss.map .str),.str p] (.str (Lib.join ss p)) false:=by
 refine qmd fun K w vs ht hk hr=>?_
 cases hr with
 |cons _ _ v vs hx hr=>
  cases hr with
  |cons _ _ v2 vs hx2 hr=>
   cases hr
   obtain rfl:=Rep.str_inv hx2
   have hl:∃r o cap,v=.slice (some ⟨r,o,none⟩) (ss.map AVal.str).length cap∧(ss.map AVal.str).length≤cap∧RepRow (.iso K) r 1 (ss.map .str) o:=by
    generalize hq:ss.map AVal.str=q at hx
    cases hx with
    |list _ _ r o cap hl hrow=>exact⟨r,o,cap,rfl,hl,hrow⟩
    |lemp _ a hs=>exact absurd (List.map_eq_nil_iff.1 hq) hne
   obtain⟨r,o,cap,rfl,hcap,hrow⟩:=hl
   have hmap:(ss.map fun s=>(⟨⟨s⟩⟩:ByteArray)).map (·.data.toList)=ss:=by
    rw[List.map_map]
    exact List.map_id' _
   have hcells:∀(j:Nat) x,(ss.map fun s=>(⟨⟨s⟩⟩:ByteArray))[j]?=some x→w.cell? ⟨r,o+j,none⟩=some (.string x):=by
    intro j x hj
    rw[List.getElem?_map,Option.map_eq_some_iff]at hj
    obtain⟨s,hs,rfl⟩:=hj
    exact hk _ _ _ (qni hrow j s hs)
   have hbk:r<w.heap.size:=by
    cases hss:ss with
    |nil=>exact absurd hss hne
    |cons s l=>
     have:=hcells 0 ⟨⟨s⟩⟩ (by rw[hss];rfl)
     rcases Nat.lt_or_ge r w.heap.size with h|h
     ·exact h
     ·simp[World.cell?,Array.getElem?_eq_none h]at this
   have hj:=Tryz.strings_Join r o cap (ss.map fun s=>(⟨⟨s⟩⟩:ByteArray)) ⟨⟨p⟩⟩ w hcells hbk (by simpa using hN) (by simpa using hcap) (by rw[hmap];exact hlen)
   rw[hmap,List.length_map]at hj
   rw[List.length_map]
   refine⟨.string ⟨⟨Lib.join ss p⟩⟩,.str _,hj.mono ?_⟩
   rintro e w' ⟨rfl,hb⟩
   exact⟨rfl,qmc hb⟩
end Go.Z
namespace Go.Z
open Go Go.Abs Go.Proofs
def qov:Nat→Nat→List UInt8→List UInt8
 |0,_,acc=>acc
 |f+1,u,acc=>bif Nat.blt u 10 then UInt8.ofNat (48+u)::acc else qov f (u / 10) (UInt8.ofNat (48+u % 10)::acc)
theorem qqn:∀ (f u:Nat) (acc:List UInt8),u<10^f→0<f→qov f u acc=Lib.decDigits u++acc
 |0,_,_,_,h=>by omega
 |f+1,u,acc,hu,_=>by
  rw[qov,Lib.decDigits]
  by_cases h:u<10
  ·rw[Nat.blt_eq.mpr h];simp[h]
  ·have hb:Nat.blt u 10=false:=by
    cases hh:Nat.blt u 10 with
    |false=>rfl
    |true=>exact absurd (Nat.blt_eq.mp hh) h
   have hf:0<f:=by
    rcases Nat.eq_zero_or_pos f with rfl|h1
    ·simp at hu;omega
    ·exact h1
   rw[hb,dif_neg h]
   simp only[cond_false]
   rw[qqn f (u / 10) _ (by rw[Nat.pow_succ]at hu;omega) hf]
   simp
def qju:List AVal→Option (List (List UInt8))
 | []=>some []
 | .str s::l=>match qju l with
  |some r=>some (s::r)
  |none=>none
 |_=>none
theorem ql9:∀ {l:List AVal} {r:List (List UInt8)},qju l=some r→l=r.map .str
 | [],r,h=>by cases h;rfl
 | .str s::l,r,h=>by
  simp only[qju]at h
  split at h
  ·rename_i q hq
   cases h
   rw[ql9 hq];rfl
  ·cases h
 | .bool _::_,_,h | .int ..::_,_,h | .list ..::_,_,h | .ms ..::_,_,h | .ptr ..::_,_,h | .vptr _::_,_,h | .nilptr::_,_,h | .map _::_,_,h | .nilmap::_,_,h | .fn ..::_,_,h | .nilfn::_,_,h | .agg _::_,_,h | .tup _::_,_,h | .undef::_,_,h | .any::_,_,h | .vref ..::_,_,h | .vel ..::_,_,h | .pend _::_,_,h=>by cases h
def t76:List AVal→Option (AVal×Bool)
 | [.list false 1 l,.str p]=>match qju l with
  |some (s::ss)=>bif Nat.ble (s::ss).length 100000&&Nat.ble (p.intercalate (s::ss)).length 100000000 then some (.str (p.intercalate (s::ss)),false)else none
  |_=>none
 |_=>none
def t78:List AVal→Option (AVal×Bool)
 | [.int .i64 (.ofNat n)]=>bif Nat.blt n 1000000000000000000 then some (.str (qov 18 n []),false)else none
 |_=>none
theorem q1c {args v o}(h:t76 args=some (v,o)):IsoCall Tryz.prog 76 args v o:=by
 unfold t76 at h;split at h
 ·rename_i l p
  split at h
  ·rename_i s ss hq
   cases hk:(Nat.ble (s::ss).length 100000&&Nat.ble (p.intercalate (s::ss)).length 100000000)with
   |false=>rw[hk]at h;cases h
   |true=>
    rw[hk]at h
    cases h
    simp only[Bool.and_eq_true]at hk
    have h1:=Nat.le_of_ble_eq_true hk.1
    have h2:=Nat.le_of_ble_eq_true hk.2
    rw[ql9 hq]
    exact qv5 (ss:=s::ss) (p:=p) (by simp) (by omega) (by show(p.intercalate (s::ss)).length≤_;omega)
  ·cases h
 ·cases h
theorem q11 {args v o}(h:t78 args=some (v,o)):IsoCall Tryz.prog 78 args v o:=by
 unfold t78 at h;split at h
 ·rename_i n
  cases hk:Nat.blt n 1000000000000000000 with
  |false=>rw[hk]at h;cases h
  |true=>
   rw[hk]at h
   cases h
   have hn:=Nat.blt_eq.mp hk
   have:=qvk (n:=Int.ofNat n) (by simp<;>omega) (by simp<;>omega)
   have e:Lib.itoa (Int.ofNat n)=qov 18 n []:=by
    rw[qqn 18 n [] (by omega) (by omega),List.append_nil]
    unfold Lib.itoa
    rw[if_neg (by simp)]
    rfl
   rw[e]at this
   exact this
 ·cases h
theorem okPr:ProgOk Tryz.prog pr:=okM ok0
theorem qda {k:Nat}(h:(tree.find k).isSome=true):Abs.Enters Tryz.prog k:=by
 obtain⟨f,hf⟩:=Option.isSome_iff_exists.1 h
 exact okPr.enters (show pr.fns k=some f from hf)
def qnu:qff:=fun k=>bif Nat.beq k 76 then some t76 else bif Nat.beq k 78 then some t78 else none
def isL (k:Nat):Bool:=Nat.beq k 76||Nat.beq k 78
def prL:je:={ fns:=fun k=>bif isL k then none else pr.fns k,prims:=qnu,maps:=qs2 }
theorem quu:∀ (t:List (Nat×List Row)),(t.all fun p=>(tree.find p.1).isSome)=true→∀k l,qej t k=some l→(tree.find k).isSome=true
 |(j,m)::t,h,k,l,hk=>by
  simp only[List.all_cons,Bool.and_eq_true]at h
  simp only[qej,Bool.cond_eq_ite]at hk
  split at hk
  ·next hb=>rw[←Nat.eq_of_beq_eq_true hb];exact h.1
  ·exact quu t h.2 k l hk
theorem okLib:ProgOk Tryz.prog prL where
 fn:=by
  intro k f hf
  simp only[prL,Bool.cond_eq_ite]at hf
  split at hf
  ·cases hf
  ·exact okPr.fn k f hf
 prim:=by
  intro k f hf
  simp only[prL,qnu,Bool.cond_eq_ite]at hf
  split at hf
  ·next hb=>cases hf;obtain rfl:=Nat.eq_of_beq_eq_true hb;exact⟨qda (k:=76) (by kernel_rfl),fun args v o h _ _=>q1c h⟩
  split at hf
  ·next hb=>cases hf;obtain rfl:=Nat.eq_of_beq_eq_true hb;exact⟨qda (k:=78) (by kernel_rfl),fun args v o h _ _=>q11 h⟩
  ·cases hf
 mixed:=okPr.mixed
 maps:=okPr.maps
end Go.Z
