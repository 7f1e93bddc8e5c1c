/- Runs with ghost places. -/
import Derived.Test.YtnjngdcbkkonnaaGreatDoorG0
import Derived.Test.YtnjngdcbkkonnaaGreatDoorL1
import Derived.Test.YtnjngdcbkkonnaaGreatDoorAbsH
import Derived.Test.YtnjngdcbkkonnaaGreatDoorZS
import Derived.Test.YtnjngdcbkkonnaaGreatDoorZP
import Derived.Lib.AppendIntMem
import Derived.Test.YtnjngdcbkkonnaaGreatDoorAbsN
import Derived.Test.YtnjngdcbkkonnaaGreatDoorA1
set_option linter.unusedVariables false
set_option linter.unusedSimpArgs false
set_option maxRecDepth 100000
noncomputable section
namespace Go.Z
open Go Go.Abs
section
variable {p:qn}{xc:XC}{h0:Nat}{al:Option (List Nat)}{e:Env}{h:zd}
end
def qb9 (p:qn)(more:qil)(op:Nat→Bool):qn:={ fns:=p.fns,sprims:=p.sprims,maps:=p.maps,prims:=fun k=>bif op k then none else match more k with
 |some f=>some f
 |none=>bif (p.fns k).isSome||(p.prims k).isSome||(p.sprims k).isSome then some fun args=>j7 p (X p) k args else none }
theorem qrj {p:qn}{xc:XC}{k:Nat}{args:List qa}{r:qa×Bool}(h:j7 p xc k args=some r):((p.fns k).isSome||(p.prims k).isSome||(p.sprims k).isSome)=true:=by
 unfold j7 at h
 split at h
 ·rename_i f hf;simp[hf]
 ·split at h
  ·rename_i hc
   unfold yk at hc
   split at hc
   ·rename_i f hf;simp[hf]
   ·split at hc
    ·rename_i f hf;simp[hf]
    ·cases hc
  ·cases h
theorem qw1 {p:qn}{more:qil}{op:Nat→Bool}{k:Nat}(ho:op k=false)(hm:more k=none){xc:XC}{args:List qa}{v:qa}{o:Bool}(h:j7 p (X p) k args=some (v,o))(hv:qet v=true):j7 (qb9 p more op) xc k args=some (v,o):=by
 have hk:=qrj h
 unfold j7
 have:(qb9 p more op).prims k=some fun args=>j7 p (X p) k args:=by simp only[qb9,ho,cF,hm,hk,cT]
 rw[this]
 simp only[h,hv,cT]
theorem qrg {p:qn}{more:qil}{op:Nat→Bool}{k:Nat}{f:List qa→Option (qa×Bool)}(ho:op k=false)(hm:more k=some f){xc:XC}{args:List qa}{v:qa}{o:Bool}(h:f args=some (v,o))(hv:qet v=true):j7 (qb9 p more op) xc k args=some (v,o):=by
 unfold j7
 have:(qb9 p more op).prims k=some f:=by simp only[qb9,ho,cF,hm]
 rw[this]
 simp only[h,hv,cT]
theorem qwc {P:Program}{p:qn}{more:qil}{op:Nat→Bool}(hp:qu P p)(hm:∀k f,more k=some f→Enters P k∧∀args v o,f args=some (v,o)→qet v=true→yq 0 args=true→qa3 P k args v o):qu P (qb9 p more op) where
 fn:=hp.fn
 maps:=hp.maps
 prim:=by
  intro k f hf
  cases ho:op k with
  |true=>
   have:(qb9 p more op).prims k=none:=by simp only[qb9,ho,cT]
   rw[this]at hf;cases hf
  |false=>
  cases hmk:more k with
  |some g=>
   have:(qb9 p more op).prims k=some g:=by simp only[qb9,ho,cF,hmk]
   rw[this]at hf
   cases hf
   exact hm k _ hmk
  |none=>
   cases hk:((p.fns k).isSome||(p.prims k).isSome||(p.sprims k).isSome)with
   |false=>
    have:(qb9 p more op).prims k=none:=by simp only[qb9,ho,hmk,hk,cF]
    rw[this]at hf;cases hf
   |true=>
    have:(qb9 p more op).prims k=some fun args=>j7 p (X p) k args:=by simp only[qb9,ho,cF,hmk,hk,cT]
    rw[this]at hf
    cases hf
    refine⟨?_,fun args v o h _ hb=>qvy hp h hb⟩
    simp only[Bool.or_eq_true]at hk
    rcases hk with(h|h)|h
    ·obtain⟨af,ha⟩:=Option.isSome_iff_exists.1 h
     exact hp.enters ha
    ·obtain⟨g,hg⟩:=Option.isSome_iff_exists.1 h
     exact(hp.prim k g hg).1
    ·obtain⟨g,hg⟩:=Option.isSome_iff_exists.1 h
     exact(hp.sprim k g hg).1
 mixed:=hp.mixed
 sprim:=hp.sprim
end Go.Z
namespace Go.Z
open Go Go.Abs Go.Proofs Go.RowKit
theorem q0q {w w':World}(h:Below w.heap.size w w'):Ext w w':=⟨h.size,h.block,h.os,h.output⟩
theorem jct {n:Int}(h0:-9223372036854775808≤n)(h1:n≤9223372036854775807):qa3 Tryz.prog 148 [.int .i64 n] (.str (Lib.itoa n)) false:=by
 refine q0j fun K w vs ht hk hr=>?_
 cases hr with
 |cons _ _ v vs hx hr=>
  cases hr
  obtain rfl:=Rep.int_inv hx
  have hg:Tryz.prog.globalNamed qcn=some 3:=by kernel_rfl
  refine⟨.string ⟨⟨Lib.itoa n⟩⟩,.str _,(Tryz.strconv_Itoa n h0 h1 w (ht.table hg)).mono ?_⟩
  rintro e w' ⟨rfl,k,os,rfl⟩
  exact⟨rfl,q0q (Lib.below_grow w.heap.size w (Nat.le_refl _) k os)⟩
theorem q2n {C:Ctx}{r:Nat}:∀ {ss:List (List UInt8)} {o:Nat},RepRow C r 1 (ss.map qa.str) o→∀(j:Nat) s,ss[j]?=some s→C.K r (o+j)=some (.string ⟨⟨s⟩⟩)
 | [],o,_,j,s,hj=>by simp at hj
 |x::ss,o,h,j,s,hj=>by
  cases h with
  |rcons _ _ _ _ _ hs hx hr=>
   cases j with
   |zero=>
    simp only[List.getElem?_cons_zero,Option.some.injEq]at hj
    subst hj
    cases hx with
    |ccons _ _ _ _ u hv hu _=>
     rw[Nat.add_zero,hv,Rep.str_inv hu]
   |succ j=>
    have:=q2n hr j s (by simpa using hj)
    rw[show o+(j+1)=o+1+j by omega]
    exact this
theorem jc2 {ss:List (List UInt8)}{p:List UInt8}(hne:ss≠[])(hN:ss.length≤140737488355328)(hlen:(Lib.join ss p).length≤140737488355328):qa3 Tryz.prog 146 [.list false 1 (ss.map .str),.str p] (.str (Lib.join ss p)) false:=by
 refine q0j fun K w vs ht hk hr=>?_
 cases hr with
 |cons _ _ v vs hx hr=>
  cases hr with
  |cons _ _ v2 vs hx2 hr=>
   cases hr
   obtain rfl:=Rep.str_inv hx2
   have hl:∃r o cap,v=.slice (some ⟨r,o,none⟩) (ss.map qa.str).length cap∧(ss.map qa.str).length≤cap∧RepRow (.iso K) r 1 (ss.map .str) o:=by
    generalize hq:ss.map qa.str=q at hx
    cases hx with
    |list _ _ r o cap hl hrow=>exact⟨r,o,cap,rfl,hl,hrow⟩
    |lemp _ a hs=>exact absurd (List.map_eq_nil_iff.1 hq) hne
   obtain⟨r,o,cap,rfl,hcap,hrow⟩:=hl
   have hmap:(ss.map fun s=>(⟨⟨s⟩⟩:ByteArray)).map (·.data.toList)=ss:=by
    rw[List.map_map]
    exact List.map_id' _
   have hcells:∀(j:Nat) x,(ss.map fun s=>(⟨⟨s⟩⟩:ByteArray))[j]?=some x→w.cell? ⟨r,o+j,none⟩=some (.string x):=by
    intro j x hj
    rw[List.getElem?_map,Option.map_eq_some_iff]at hj
    obtain⟨s,hs,rfl⟩:=hj
    exact hk _ _ _ (q2n hrow j s hs)
   have hbk:r<w.heap.size:=by
    cases hss:ss with
    |nil=>exact absurd hss hne
    |cons s l=>
     have:=hcells 0 ⟨⟨s⟩⟩ (by rw[hss];rfl)
     rcases Nat.lt_or_ge r w.heap.size with h|h
     ·exact h
     ·simp[World.cell?,Array.getElem?_eq_none h]at this
   have hj:=Tryz.strings_Join r o cap (ss.map fun s=>(⟨⟨s⟩⟩:ByteArray)) ⟨⟨p⟩⟩ w hcells hbk (by simpa using hN) (by simpa using hcap) (by rw[hmap];exact hlen)
   rw[hmap,List.length_map]at hj
   rw[List.length_map]
   refine⟨.string ⟨⟨Lib.join ss p⟩⟩,.str _,hj.mono ?_⟩
   rintro e w' ⟨rfl,hb⟩
   exact⟨rfl,q0q hb⟩
end Go.Z
namespace Go.Z
open Go Go.Abs Go.Proofs
theorem okPr:qu Tryz.prog pr:=okM ok0
theorem qcw {k:Nat}(h:(tree.find k).isSome=true):Abs.Enters Tryz.prog k:=by
 obtain⟨f,hf⟩:=Option.isSome_iff_exists.1 h
 exact okPr.enters (show pr.fns k=some f from hf)
def ql6:List qa→Option (List (List UInt8))
 | []=>some []
 | .str s::xs=>(ql6 xs).map (s::·)
 |_=>none
theorem qx3:∀ ss:List (List UInt8),ql6 (ss.map qd1)=some ss
 | []=>rfl
 |s::ss=>by show(ql6 (ss.map qd1)).map (s::·)=_;rw[qx3 ss];rfl
theorem q0c:∀ {xs:List qa} {ss:List (List UInt8)},ql6 xs=some ss→xs=ss.map .str
 | [],ss,h=>by cases h;rfl
 |x::xs,ss,h=>by
  cases x with
  |str s=>
   obtain⟨l,h1,rfl⟩:=Option.map_eq_some_iff.1 (show(ql6 xs).map (s::·)=some ss from h)
   rw[q0c h1];rfl
  |_=>cases h
def q2m (n:Int):Option (List UInt8):=exO (-9223372036854775808≤n∧n≤9223372036854775807) (Lib.itoa n)
def qzo (ss:List (List UInt8))(p:List UInt8):Option (List UInt8):=exO (ss≠[]∧ss.length≤140737488355328∧(Lib.join ss p).length≤140737488355328) (Lib.join ss p)
def jd4:List qa→Option (qa×Bool)
 | [.int .i64 n]=>(q2m n).map fun r=>(.str r,false)
 |_=>none
def q72:List qa→Option (qa×Bool)
 | [.list false 1 xs,.str p]=>(ql6 xs).bind fun ss=>(qzo ss p).map fun r=>(.str r,false)
 |_=>none
def qt2:qil:=fun k=>bif Nat.beq k 148 then some jd4 else bif Nat.beq k 146 then some q72 else none
def opD:Nat→Bool:=fun k=>Nat.beq k 92||Nat.beq k 147
def prD:qn:=qb9 pr qt2 opD
theorem jg7 {args v o}(h:jd4 args=some (v,o)):qa3 Tryz.prog 148 args v o:=by
 unfold jd4 at h;split at h
 ·obtain⟨r,h1,h2⟩:=Option.map_eq_some_iff.1 h
  cases h2;obtain⟨⟨ha,hb⟩,rfl⟩:=q2x h1;exact jct ha hb
 ·cases h
theorem jiv {args v o}(h:q72 args=some (v,o)):qa3 Tryz.prog 146 args v o:=by
 unfold q72 at h;split at h
 ·obtain⟨ss,h0,h⟩:=Option.bind_eq_some_iff.1 h
  obtain⟨r,h1,h2⟩:=Option.map_eq_some_iff.1 h
  cases h2;obtain⟨⟨ha,hb,hc⟩,rfl⟩:=q2x h1
  rw[q0c h0];exact jc2 ha hb hc
 ·cases h
theorem okD:qu Tryz.prog prD:=qwc okPr (by
 intro k f hf
 simp only[qt2,Bool.cond_eq_ite]at hf
 split at hf
 ·next hb=>cases hf;obtain rfl:=Nat.eq_of_beq_eq_true hb;exact⟨qcw (k:=148) (by kernel_rfl),fun args v o h _ _=>jg7 h⟩
 split at hf
 ·next hb=>cases hf;obtain rfl:=Nat.eq_of_beq_eq_true hb;exact⟨qcw (k:=146) (by kernel_rfl),fun args v o h _ _=>jiv h⟩
 ·cases hf)
def qg8 (p:qn)(s:qs5):qn:={ fns:=fun k=>bif (s k).isSome then none else p.fns k,prims:=p.prims,maps:=p.maps,sprims:=fun k=>match s k with
 |some f=>some f
 |none=>p.sprims k }
theorem jdm {P:Program}{p:qn}{s:qs5}(hp:qu P p)(hs:∀k f,s k=some f→Abs.Enters P k∧∀args h v o h',f args h=some (v,o,h')→qri P k args h v o h'):qu P (qg8 p s) where
 fn:=by
  intro k f hf
  simp only[qg8,Bool.cond_eq_ite]at hf
  split at hf
  ·cases hf
  ·exact hp.fn k f hf
 prim:=hp.prim
 maps:=hp.maps
 mixed:=hp.mixed
 sprim:=by
  intro k f hf
  simp only[qg8]at hf
  split at hf
  ·rename_i g hg;cases hf;exact hs k _ hg
  ·exact hp.sprim k f hf
theorem qxt {p:qn}{s:qs5}{xc:XC}{k:Nat}{args:List qa}{h:zd}{f:List qa→zd→Option (qa×Bool×zd)}(hs:s k=some f):yk (qg8 p s) xc k args h=f args h:=by
 unfold yk
 have e1:(qg8 p s).fns k=none:=by simp only[qg8,hs,Option.isSome_some,cT]
 have e2:(qg8 p s).sprims k=some f:=by simp only[qg8,hs]
 rw[e1,e2]
def q77 (l s:List UInt8):Option (List UInt8):=if l.length+s.length≤140737488355328 then some (l++s)else none
def q4e:List qa→zd→Option (qa×Bool×zd)
 | [.ptr b 0,.str s],h=>match h[b]? with
  |some (.bld t e l)=>bif Nat.beq t 226&&Nat.beq e 5 then(match q77 l s with
   |some r=>some (.tup [.int .i64 (s.length:Int),.any],false,h.set b (.bld 226 5 r))
   |none=>none)else none
  |_=>none
 |_,_=>none
def q4h:List qa→zd→Option (qa×Bool×zd)
 | [.ptr b 0],h=>match h[b]? with
  |some (.bld t e l)=>bif Nat.beq t 226&&Nat.beq e 5 then some (.str l,false,h.set b .dead)else none
  |_=>none
 |_,_=>none
def sE:qs5:=fun k=>bif Nat.beq k 145 then some q4e else bif Nat.beq k 149 then some q4h else none
theorem jil {args h v o h'}(hq:q4e args h=some (v,o,h')):qri Tryz.prog 145 args h v o h':=by
 unfold q4e at hq
 split at hq
 ·split at hq
  ·rename_i t e l hb
   simp only[Bool.cond_eq_ite,Bool.and_eq_true]at hq
   split at hq
   ·rename_i hte
    obtain rfl:=Nat.eq_of_beq_eq_true hte.1
    obtain rfl:=Nat.eq_of_beq_eq_true hte.2
    split at hq
    ·rename_i r hr
     cases hq
     unfold q77 at hr
     split at hr
     ·rename_i hl
      cases hr
      exact jb7 Tryz.lays166 Tryz.Builder_Extra_156 hb hl
     ·cases hr
    ·cases hq
   ·cases hq
  ·cases hq
 ·cases hq
theorem jhp {args h v o h'}(hq:q4h args h=some (v,o,h')):qri Tryz.prog 149 args h v o h':=by
 unfold q4h at hq
 split at hq
 ·split at hq
  ·rename_i t e l hb
   simp only[Bool.cond_eq_ite,Bool.and_eq_true]at hq
   split at hq
   ·rename_i hte
    obtain rfl:=Nat.eq_of_beq_eq_true hte.1
    obtain rfl:=Nat.eq_of_beq_eq_true hte.2
    cases hq
    exact q67 Tryz.lays169 Tryz.Builder_Extra_169 hb
   ·cases hq
  ·cases hq
 ·cases hq
def prE:qn:=qg8 prD sE
theorem okE:qu Tryz.prog prE:=jdm okD (by
 intro k f hf
 simp only[sE,Bool.cond_eq_ite]at hf
 split at hf
 ·next hb=>cases hf;obtain rfl:=Nat.eq_of_beq_eq_true hb;exact⟨qcw (k:=145) (by kernel_rfl),fun args h v o h' hq=>jil hq⟩
 split at hf
 ·next hb=>cases hf;obtain rfl:=Nat.eq_of_beq_eq_true hb;exact⟨qcw (k:=149) (by kernel_rfl),fun args h v o h' hq=>jhp hq⟩
 ·cases hf)
theorem atE {k:Nat}(ho:opD k=false)(hm:qt2 k=none){args:List qa}{v:qa}{o:Bool}(h:j7 pr (X pr) k args=some (v,o))(hv:below 0 v=true):j7 prE (X prE) k args=some (v,o):=by
 have hk:=qrj h
 unfold j7
 have:prE.prims k=some fun args=>j7 pr (X pr) k args:=by
  show(qb9 pr qt2 opD).prims k=_
  simp only[qb9,ho,cF,hm,hk,cT]
 rw[this]
 simp only[h,qet,hv,cT]
theorem jfs {k:Nat}{f:List qa→Option (qa×Bool)}(ho:opD k=false)(hm:qt2 k=some f){args:List qa}{v:qa}{o:Bool}(h:f args=some (v,o))(hv:below 0 v=true):j7 prE (X prE) k args=some (v,o):=by
 unfold j7
 have:prE.prims k=some f:=by
  show(qb9 pr qt2 opD).prims k=_
  simp only[qb9,ho,cF,hm]
 rw[this]
 simp only[h,qet,hv,cT]
theorem j2p {l s r:List UInt8}{b:Nat}{h:zd}(hb:h[b]?=some (.bld 226 5 l))(hr:q77 l s=some r):yk prE (X prE) 145 [.ptr b 0,.str s] h=some (.tup [.int .i64 (s.length:Int),.any],false,h.set b (.bld 226 5 r)):=by
 show yk (qg8 _ sE) _ 145 _ _=_
 rw[qxt (f:=q4e) rfl]
 simp only[q4e,hb,hr,Nat.beq_refl,Bool.and_self,cT]
theorem jzp {l r:List UInt8}{b:Nat}{h:zd}(hb:h[b]?=some (.bld 226 5 l))(hr:some l=some r):yk prE (X prE) 149 [.ptr b 0] h=some (.str r,false,h.set b .dead):=by
 cases hr
 show yk (qg8 _ sE) _ 149 _ _=_
 rw[qxt (f:=q4h) rfl]
 simp only[q4h,hb,Nat.beq_refl,Bool.and_self,cT]
theorem jlo {n:Int}{r}(h:q2m n=some r):j7 prE (X prE) 148 [.int .i64 n]=some (.str r,false):=jfs rfl rfl (by show(q2m n).map _=_;rw[h];rfl) rfl
def q8t (o:Option (List (List UInt8)))(p:List UInt8):Option (List UInt8):=o.bind fun l=>qzo l p
theorem jzy {o:Option (List (List UInt8))}{p:List UInt8}{r}(h:q8t o p=some r):j7 prE (X prE) 146 [sl 1 qd1 o,.str p]=some (.str r,false):=by
 cases o with
 |none=>cases h
 |some l=>
  refine jfs (f:=q72) rfl rfl ?_ rfl
  show((ql6 (l.map qd1)).bind fun ss=>(qzo ss p).map fun r=>(qa.str r,false))=_
  rw[qx3]
  show(qzo l p).map (fun r=>(qa.str r,false))=_
  rw[show qzo l p=some r from h];rfl
end Go.Z
end
