/- Runs with ghost places. -/
import Derived.Test.YtnjngdcbkkonnaaGreatDoorG0
import Derived.Test.YtnjngdcbkkonnaaGreatDoorL1
import Derived.Test.YtnjngdcbkkonnaaGreatDoorAbsH
import Derived.Test.YtnjngdcbkkonnaaGreatDoorZS
import Derived.Test.YtnjngdcbkkonnaaGreatDoorZP
import Derived.Lib.AppendIntMem
import Derived.Test.YtnjngdcbkkonnaaGreatDoorAbsN
import Derived.Test.YtnjngdcbkkonnaaGreatDoorA1
set_option linter.unusedVariables false
set_option linter.unusedSimpArgs false
set_option maxRecDepth 100000
noncomputable section
namespace Go.Z
open Go Go.Abs
section
variable {p:qo}{xc:XC}{h0:Nat}{al:Option (List Nat)}{e:Env}{h:ze}
end
def qcf (p:qo)(more:qi3)(op:Nat→Bool):qo:={ fns:=p.fns,sprims:=p.sprims,maps:=p.maps,prims:=fun k=>bif op k then none else match more k with
 |some f=>some f
 |none=>bif (p.fns k).isSome||(p.prims k).isSome||(p.sprims k).isSome then some fun args=>zb p (X p) k args else none }
theorem qrd {p:qo}{xc:XC}{k:Nat}{args:List qa}{r:qa×Bool}(h:zb p xc k args=some r):((p.fns k).isSome||(p.prims k).isSome||(p.sprims k).isSome)=true:=by
 unfold zb at h
 split at h
 ·rename_i f hf;simp[hf]
 ·split at h
  ·rename_i hc
   unfold ye at hc
   split at hc
   ·rename_i f hf;simp[hf]
   ·split at hc
    ·rename_i f hf;simp[hf]
    ·cases hc
  ·cases h
theorem qws {p:qo}{more:qi3}{op:Nat→Bool}{k:Nat}(ho:op k=false)(hm:more k=none){xc:XC}{args:List qa}{v:qa}{o:Bool}(h:zb p (X p) k args=some (v,o))(hv:qdn v=true):zb (qcf p more op) xc k args=some (v,o):=by
 have hk:=qrd h
 unfold zb
 have:(qcf p more op).prims k=some fun args=>zb p (X p) k args:=by simp only[qcf,ho,cF,hm,hk,cT]
 rw[this]
 simp only[h,hv,cT]
theorem qwx {p:qo}{more:qi3}{op:Nat→Bool}{k:Nat}{f:List qa→Option (qa×Bool)}(ho:op k=false)(hm:more k=some f){xc:XC}{args:List qa}{v:qa}{o:Bool}(h:f args=some (v,o))(hv:qdn v=true):zb (qcf p more op) xc k args=some (v,o):=by
 unfold zb
 have:(qcf p more op).prims k=some f:=by simp only[qcf,ho,cF,hm]
 rw[this]
 simp only[h,hv,cT]
theorem qv6 {P:Program}{p:qo}{more:qi3}{op:Nat→Bool}(hp:qu P p)(hm:∀k f,more k=some f→Enters P k∧∀args v o,f args=some (v,o)→qdn v=true→yb 0 args=true→qa6 P k args v o):qu P (qcf p more op) where
 fn:=hp.fn
 maps:=hp.maps
 prim:=by
  intro k f hf
  cases ho:op k with
  |true=>
   have:(qcf p more op).prims k=none:=by simp only[qcf,ho,cT]
   rw[this]at hf;cases hf
  |false=>
  cases hmk:more k with
  |some g=>
   have:(qcf p more op).prims k=some g:=by simp only[qcf,ho,cF,hmk]
   rw[this]at hf
   cases hf
   exact hm k _ hmk
  |none=>
   cases hk:((p.fns k).isSome||(p.prims k).isSome||(p.sprims k).isSome)with
   |false=>
    have:(qcf p more op).prims k=none:=by simp only[qcf,ho,hmk,hk,cF]
    rw[this]at hf;cases hf
   |true=>
    have:(qcf p more op).prims k=some fun args=>zb p (X p) k args:=by simp only[qcf,ho,cF,hmk,hk,cT]
    rw[this]at hf
    cases hf
    refine⟨?_,fun args v o h _ hb=>qvh hp h hb⟩
    simp only[Bool.or_eq_true]at hk
    rcases hk with(h|h)|h
    ·obtain⟨af,ha⟩:=Option.isSome_iff_exists.1 h
     exact hp.enters ha
    ·obtain⟨g,hg⟩:=Option.isSome_iff_exists.1 h
     exact(hp.prim k g hg).1
    ·obtain⟨g,hg⟩:=Option.isSome_iff_exists.1 h
     exact(hp.sprim k g hg).1
 mixed:=hp.mixed
 sprim:=hp.sprim
end Go.Z
namespace Go.Z
open Go Go.Abs Go.Proofs Go.RowKit
theorem q0s {w w':World}(h:Below w.heap.size w w'):Ext w w':=⟨h.size,h.block,h.os,h.output⟩
theorem jd8 {n:Int}(h0:-9223372036854775808≤n)(h1:n≤9223372036854775807):qa6 Tryz.prog 148 [.int .i64 n] (.str (Lib.itoa n)) false:=by
 refine q0r fun K w vs ht hk hr=>?_
 cases hr with
 |cons _ _ v vs hx hr=>
  cases hr
  obtain rfl:=Rep.int_inv hx
  have hg:Tryz.prog.globalNamed qcz=some 3:=by kernel_rfl
  refine⟨.string ⟨⟨Lib.itoa n⟩⟩,.str _,(Tryz.strconv_Itoa n h0 h1 w (ht.table hg)).mono ?_⟩
  rintro e w' ⟨rfl,k,os,rfl⟩
  exact⟨rfl,q0s (Lib.below_grow w.heap.size w (Nat.le_refl _) k os)⟩
theorem q4s {C:Ctx}{r:Nat}:∀ {ss:List (List UInt8)} {o:Nat},RepRow C r 1 (ss.map qa.str) o→∀(j:Nat) s,ss[j]?=some s→C.K r (o+j)=some (.string ⟨⟨s⟩⟩)
 | [],o,_,j,s,hj=>by simp at hj
 |x::ss,o,h,j,s,hj=>by
  cases h with
  |rcons _ _ _ _ _ hs hx hr=>
   cases j with
   |zero=>
    simp only[List.getElem?_cons_zero,Option.some.injEq]at hj
    subst hj
    cases hx with
    |ccons _ _ _ _ u hv hu _=>
     rw[Nat.add_zero,hv,Rep.str_inv hu]
   |succ j=>
    have:=q4s hr j s (by simpa using hj)
    rw[show o+(j+1)=o+1+j by omega]
    exact this
theorem jgx {ss:List (List UInt8)}{p:List UInt8}(hne:ss≠[])(hN:ss.length≤140737488355328)(hlen:(Lib.join ss p).length≤140737488355328):qa6 Tryz.prog 146 [.list false 1 (ss.map .str),.str p] (.str (Lib.join ss p)) false:=by
 refine q0r fun K w vs ht hk hr=>?_
 cases hr with
 |cons _ _ v vs hx hr=>
  cases hr with
  |cons _ _ v2 vs hx2 hr=>
   cases hr
   obtain rfl:=Rep.str_inv hx2
   have hl:∃r o cap,v=.slice (some ⟨r,o,none⟩) (ss.map qa.str).length cap∧(ss.map qa.str).length≤cap∧RepRow (.iso K) r 1 (ss.map .str) o:=by
    generalize hq:ss.map qa.str=q at hx
    cases hx with
    |list _ _ r o cap hl hrow=>exact⟨r,o,cap,rfl,hl,hrow⟩
    |lemp _ a hs=>exact absurd (List.map_eq_nil_iff.1 hq) hne
   obtain⟨r,o,cap,rfl,hcap,hrow⟩:=hl
   have hmap:(ss.map fun s=>(⟨⟨s⟩⟩:ByteArray)).map (·.data.toList)=ss:=by
    rw[List.map_map]
    exact List.map_id' _
   have hcells:∀(j:Nat) x,(ss.map fun s=>(⟨⟨s⟩⟩:ByteArray))[j]?=some x→w.cell? ⟨r,o+j,none⟩=some (.string x):=by
    intro j x hj
    rw[List.getElem?_map,Option.map_eq_some_iff]at hj
    obtain⟨s,hs,rfl⟩:=hj
    exact hk _ _ _ (q4s hrow j s hs)
   have hbk:r<w.heap.size:=by
    cases hss:ss with
    |nil=>exact absurd hss hne
    |cons s l=>
     have:=hcells 0 ⟨⟨s⟩⟩ (by rw[hss];rfl)
     rcases Nat.lt_or_ge r w.heap.size with h|h
     ·exact h
     ·simp[World.cell?,Array.getElem?_eq_none h]at this
   have hj:=Tryz.strings_Join r o cap (ss.map fun s=>(⟨⟨s⟩⟩:ByteArray)) ⟨⟨p⟩⟩ w hcells hbk (by simpa using hN) (by simpa using hcap) (by rw[hmap];exact hlen)
   rw[hmap,List.length_map]at hj
   rw[List.length_map]
   refine⟨.string ⟨⟨Lib.join ss p⟩⟩,.str _,hj.mono ?_⟩
   rintro e w' ⟨rfl,hb⟩
   exact⟨rfl,q0s hb⟩
end Go.Z
namespace Go.Z
open Go Go.Abs Go.Proofs
theorem okPr:qu Tryz.prog pr:=okM ok0
theorem qc7 {k:Nat}(h:(tree.find k).isSome=true):Abs.Enters Tryz.prog k:=by
 obtain⟨f,hf⟩:=Option.isSome_iff_exists.1 h
 exact okPr.enters (show pr.fns k=some f from hf)
def ql0:List qa→Option (List (List UInt8))
 | []=>some []
 | .str s::xs=>(ql0 xs).map (s::·)
 |_=>none
theorem qxq:∀ ss:List (List UInt8),ql0 (ss.map qdz)=some ss
 | []=>rfl
 |s::ss=>by show(ql0 (ss.map qdz)).map (s::·)=_;rw[qxq ss];rfl
theorem q02:∀ {xs:List qa} {ss:List (List UInt8)},ql0 xs=some ss→xs=ss.map .str
 | [],ss,h=>by cases h;rfl
 |x::xs,ss,h=>by
  cases x with
  |str s=>
   obtain⟨l,h1,rfl⟩:=Option.map_eq_some_iff.1 (show(ql0 xs).map (s::·)=some ss from h)
   rw[q02 h1];rfl
  |_=>cases h
def q4u (n:Int):Option (List UInt8):=exO (-9223372036854775808≤n∧n≤9223372036854775807) (Lib.itoa n)
def qzh (ss:List (List UInt8))(p:List UInt8):Option (List UInt8):=exO (ss≠[]∧ss.length≤140737488355328∧(Lib.join ss p).length≤140737488355328) (Lib.join ss p)
def jg2:List qa→Option (qa×Bool)
 | [.int .i64 n]=>(q4u n).map fun r=>(.str r,false)
 |_=>none
def q8i:List qa→Option (qa×Bool)
 | [.list false 1 xs,.str p]=>(ql0 xs).bind fun ss=>(qzh ss p).map fun r=>(.str r,false)
 |_=>none
def qui:qi3:=fun k=>bif Nat.beq k 148 then some jg2 else bif Nat.beq k 146 then some q8i else none
def opD:Nat→Bool:=fun k=>Nat.beq k 92||Nat.beq k 147
def prD:qo:=qcf pr qui opD
theorem jja {args v o}(h:jg2 args=some (v,o)):qa6 Tryz.prog 148 args v o:=by
 unfold jg2 at h;split at h
 ·obtain⟨r,h1,h2⟩:=Option.map_eq_some_iff.1 h
  cases h2;obtain⟨⟨ha,hb⟩,rfl⟩:=q3v h1;exact jd8 ha hb
 ·cases h
theorem jjx {args v o}(h:q8i args=some (v,o)):qa6 Tryz.prog 146 args v o:=by
 unfold q8i at h;split at h
 ·obtain⟨ss,h0,h⟩:=Option.bind_eq_some_iff.1 h
  obtain⟨r,h1,h2⟩:=Option.map_eq_some_iff.1 h
  cases h2;obtain⟨⟨ha,hb,hc⟩,rfl⟩:=q3v h1
  rw[q02 h0];exact jgx ha hb hc
 ·cases h
theorem okD:qu Tryz.prog prD:=qv6 okPr (by
 intro k f hf
 simp only[qui,Bool.cond_eq_ite]at hf
 split at hf
 ·next hb=>cases hf;obtain rfl:=Nat.eq_of_beq_eq_true hb;exact⟨qc7 (k:=148) (by kernel_rfl),fun args v o h _ _=>jja h⟩
 split at hf
 ·next hb=>cases hf;obtain rfl:=Nat.eq_of_beq_eq_true hb;exact⟨qc7 (k:=146) (by kernel_rfl),fun args v o h _ _=>jjx h⟩
 ·cases hf)
def qhg (p:qo)(s:qsl):qo:={ fns:=fun k=>bif (s k).isSome then none else p.fns k,prims:=p.prims,maps:=p.maps,sprims:=fun k=>match s k with
 |some f=>some f
 |none=>p.sprims k }
theorem jfv {P:Program}{p:qo}{s:qsl}(hp:qu P p)(hs:∀k f,s k=some f→Abs.Enters P k∧∀args h v o h',f args h=some (v,o,h')→qqv P k args h v o h'):qu P (qhg p s) where
 fn:=by
  intro k f hf
  simp only[qhg,Bool.cond_eq_ite]at hf
  split at hf
  ·cases hf
  ·exact hp.fn k f hf
 prim:=hp.prim
 maps:=hp.maps
 mixed:=hp.mixed
 sprim:=by
  intro k f hf
  simp only[qhg]at hf
  split at hf
  ·rename_i g hg;cases hf;exact hs k _ hg
  ·exact hp.sprim k f hf
theorem qwo {p:qo}{s:qsl}{xc:XC}{k:Nat}{args:List qa}{h:ze}{f:List qa→ze→Option (qa×Bool×ze)}(hs:s k=some f):ye (qhg p s) xc k args h=f args h:=by
 unfold ye
 have e1:(qhg p s).fns k=none:=by simp only[qhg,hs,Option.isSome_some,cT]
 have e2:(qhg p s).sprims k=some f:=by simp only[qhg,hs]
 rw[e1,e2]
def q9b (l s:List UInt8):Option (List UInt8):=if l.length+s.length≤140737488355328 then some (l++s)else none
def q2z:List qa→ze→Option (qa×Bool×ze)
 | [.ptr b 0,.str s],h=>match h[b]? with
  |some (.bld t e l)=>bif Nat.beq t 226&&Nat.beq e 5 then(match q9b l s with
   |some r=>some (.tup [.int .i64 (s.length:Int),.any],false,h.set b (.bld 226 5 r))
   |none=>none)else none
  |_=>none
 |_,_=>none
def q2d:List qa→ze→Option (qa×Bool×ze)
 | [.ptr b 0],h=>match h[b]? with
  |some (.bld t e l)=>bif Nat.beq t 226&&Nat.beq e 5 then some (.str l,false,h.set b .dead)else none
  |_=>none
 |_,_=>none
def sE:qsl:=fun k=>bif Nat.beq k 145 then some q2z else bif Nat.beq k 149 then some q2d else none
theorem jke {args h v o h'}(hq:q2z args h=some (v,o,h')):qqv Tryz.prog 145 args h v o h':=by
 unfold q2z at hq
 split at hq
 ·split at hq
  ·rename_i t e l hb
   simp only[Bool.cond_eq_ite,Bool.and_eq_true]at hq
   split at hq
   ·rename_i hte
    obtain rfl:=Nat.eq_of_beq_eq_true hte.1
    obtain rfl:=Nat.eq_of_beq_eq_true hte.2
    split at hq
    ·rename_i r hr
     cases hq
     unfold q9b at hr
     split at hr
     ·rename_i hl
      cases hr
      exact jcy Tryz.lays166 Tryz.Builder_Extra_156 hb hl
     ·cases hr
    ·cases hq
   ·cases hq
  ·cases hq
 ·cases hq
theorem jjt {args h v o h'}(hq:q2d args h=some (v,o,h')):qqv Tryz.prog 149 args h v o h':=by
 unfold q2d at hq
 split at hq
 ·split at hq
  ·rename_i t e l hb
   simp only[Bool.cond_eq_ite,Bool.and_eq_true]at hq
   split at hq
   ·rename_i hte
    obtain rfl:=Nat.eq_of_beq_eq_true hte.1
    obtain rfl:=Nat.eq_of_beq_eq_true hte.2
    cases hq
    exact jaa Tryz.lays169 Tryz.Builder_Extra_169 hb
   ·cases hq
  ·cases hq
 ·cases hq
def prE:qo:=qhg prD sE
theorem okE:qu Tryz.prog prE:=jfv okD (by
 intro k f hf
 simp only[sE,Bool.cond_eq_ite]at hf
 split at hf
 ·next hb=>cases hf;obtain rfl:=Nat.eq_of_beq_eq_true hb;exact⟨qc7 (k:=145) (by kernel_rfl),fun args h v o h' hq=>jke hq⟩
 split at hf
 ·next hb=>cases hf;obtain rfl:=Nat.eq_of_beq_eq_true hb;exact⟨qc7 (k:=149) (by kernel_rfl),fun args h v o h' hq=>jjt hq⟩
 ·cases hf)
theorem atE {k:Nat}(ho:opD k=false)(hm:qui k=none){args:List qa}{v:qa}{o:Bool}(h:zb pr (X pr) k args=some (v,o))(hv:below 0 v=true):zb prE (X prE) k args=some (v,o):=by
 have hk:=qrd h
 unfold zb
 have:prE.prims k=some fun args=>zb pr (X pr) k args:=by
  show(qcf pr qui opD).prims k=_
  simp only[qcf,ho,cF,hm,hk,cT]
 rw[this]
 simp only[h,qdn,hv,cT]
theorem jht {k:Nat}{f:List qa→Option (qa×Bool)}(ho:opD k=false)(hm:qui k=some f){args:List qa}{v:qa}{o:Bool}(h:f args=some (v,o))(hv:below 0 v=true):zb prE (X prE) k args=some (v,o):=by
 unfold zb
 have:prE.prims k=some f:=by
  show(qcf pr qui opD).prims k=_
  simp only[qcf,ho,cF,hm]
 rw[this]
 simp only[h,qdn,hv,cT]
theorem j05 {l s r:List UInt8}{b:Nat}{h:ze}(hb:h[b]?=some (.bld 226 5 l))(hr:q9b l s=some r):ye prE (X prE) 145 [.ptr b 0,.str s] h=some (.tup [.int .i64 (s.length:Int),.any],false,h.set b (.bld 226 5 r)):=by
 show ye (qhg _ sE) _ 145 _ _=_
 rw[qwo (f:=q2z) rfl]
 simp only[q2z,hb,hr,Nat.beq_refl,Bool.and_self,cT]
theorem j4c {l r:List UInt8}{b:Nat}{h:ze}(hb:h[b]?=some (.bld 226 5 l))(hr:some l=some r):ye prE (X prE) 149 [.ptr b 0] h=some (.str r,false,h.set b .dead):=by
 cases hr
 show ye (qhg _ sE) _ 149 _ _=_
 rw[qwo (f:=q2d) rfl]
 simp only[q2d,hb,Nat.beq_refl,Bool.and_self,cT]
theorem jpf {n:Int}{r}(h:q4u n=some r):zb prE (X prE) 148 [.int .i64 n]=some (.str r,false):=jht rfl rfl (by show(q4u n).map _=_;rw[h];rfl) rfl
def q9y (o:Option (List (List UInt8)))(p:List UInt8):Option (List UInt8):=o.bind fun l=>qzh l p
theorem j0x {o:Option (List (List UInt8))}{p:List UInt8}{r}(h:q9y o p=some r):zb prE (X prE) 146 [sl 1 qdz o,.str p]=some (.str r,false):=by
 cases o with
 |none=>cases h
 |some l=>
  refine jht (f:=q8i) rfl rfl ?_ rfl
  show((ql0 (l.map qdz)).bind fun ss=>(qzh ss p).map fun r=>(qa.str r,false))=_
  rw[qxq]
  show(qzh l p).map (fun r=>(qa.str r,false))=_
  rw[show qzh l p=some r from h];rfl
end Go.Z
end
