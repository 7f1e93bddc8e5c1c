/- One operation. -/
import Derived.Test.YtfopaakmgogpiaaGreatDoorAbsA
import Derived.WalkSpells
import Derived.Laws.Cover3
set_option linter.unusedVariables false
set_option linter.unusedSimpArgs false
open Option renaming some→I,none→Ev,isSome_iff_exists→Gc,map_some→Gp
open List renaming drop_eq_nil_of_le→Eh,flatMap_cons→Gb,getElem?_toArray→Gi,replicate→Gx,map_cons→Ht
open Nat renaming le_of_ble_eq_true→El,succ_mul→En,le_refl→Eo,eq_of_beq_eq_true→Gk,ble→Gm,add_assoc→Hb
open Bool renaming false_eq_true→E5,false→Ga,true→Gl,and_eq_true→Gn,not_true→Ha,xor→Hv
open Array renaming ext'→Gh
namespace Go.Abs
def kj (P:Program)(C0:ax)(w0:World)(C:ax)(tmps:Array Value)(d:Loc)(env:Env)(res:qq)(v:Value)(w':World):Prop:=
 ∃C' ω',C.le C'∧av P C' ω' w0 C0 res.heap w'∧ai C' ω' w' w0.heap.size (gy env res.strip) tmps∧bC C' res.v v∧(res.own=Gl→aC C' ω' w' w0.heap.size d res.v v)
theorem qva (C:ax){v:Value}{x:qa}(h:Di v=I x):bC C x v:=by
 unfold Di at h
 split at h<;>first|cases h|skip
 ·exact .bool _
 ·exact .int _ _
 ·exact .str _
 ·exact .iQ _
 ·exact .bN
 ·exact .bM
 ·exact .bX
theorem Mg (C:ax):∀ {vs:List Value} {xs:List qa},vC vs=I xs→aK C xs vs
 | [],xs,h=>by simp[vC]at h;subst h;exact .nil
 |v::vs,xs,h=>by
  simp only[vC]at h
  split at h
  ·rename_i x hx
   split at h
   ·rename_i ys mF
    cases h
    exact .cons _ _ _ _ (qva C hx) (Mg C mF)
   ·cases h
  ·cases h
theorem qt2 (C:ax){v:Value}{x:qa}(h:ofValue v=I x):bC C x v:=by
 unfold ofValue at h
 split at h
 ·rename_i cs
  split at h
  ·rename_i xs hx
   cases h
   exact .agg _ _ (Mg C hx)
  ·cases h
 ·exact qva C h
section
variable {P:Program}{C C0:ax}{ω:Nat→Option Loc}{w w0:World}{hp:j8}{env:Env}{a:Act}{B:Nat}
theorem zt {x:Operand}{y:qf}{v:qa}(he:aW C env a.tmps)(hc:zr x=I y)(hv:zd env y=I v):bC C v (a.eval x):=by
 cases x with
 |tmp t=>
  simp only[zr]at hc
  cases hc
  simp only[zd]at hv
  split at hv
  ·rename_i x hx
   cases hv
   obtain⟨u,h1,h2⟩:=he t x hx
   have:a.eval (.tmp t)=u:=by simp[Act.eval,Array.getD_eq_getD_getElem?,h1]
   rw[this];exact h2
  ·cases hv
 |const u=>
  simp only[zr]at hc
  split at hc
  ·rename_i z hz
   cases hc
   simp only[zd]at hv
   cases hv
   exact qt2 C hz
  ·cases hc
 |func f=>
  simp only[zr]at hc
  cases hc
  simp only[zd]at hv
  cases hv
  exact .fn (.func f) (.func f) [] [] [] [] rfl .nil .nil
 |global g=>simp[zr]at hc
theorem Dr (he:aW C env a.tmps):∀ {xs:List Operand} {ys:List qf} {vs:List qa},oQ xs=I ys→fE env ys=I vs→aK C vs (xs.map a.eval)
 | [],ys,vs,hc,hv=>by simp[oQ]at hc;subst hc;simp[fE]at hv;subst hv;exact .nil
 |x::xs,ys,vs,hc,hv=>by
  simp only[oQ]at hc
  split at hc
  ·rename_i y hy
   split at hc
   ·rename_i zs pJ
    cases hc
    simp only[fE]at hv
    split at hv
    ·rename_i v nx
     split at hv
     ·rename_i us fT
      cases hv
      exact .cons _ _ _ _ (zt he hy nx) (Dr he pJ fT)
     ·cases hv
    ·cases hv
   ·cases hc
  ·cases hc
theorem bC.cS {b:Bool}{v:Value}(h:bC C (.bool b) v):v=.bool b:=by cases h;rfl
theorem bC.bF {k:IntKind}{n:Int}{v:Value}(h:bC C (.int k n) v):v=.int k n:=by cases h;rfl
theorem bC.bW {s:List UInt8}{v:Value}(h:bC C (.str s) v):v=.string ⟨⟨s⟩⟩:=by cases h;rfl
theorem bC.cU {b o:Nat}{v:Value}(h:bC C (.ptr b o) v):∃r,C.β b=I r∧v=.pointer (I ⟨r,o,Ev⟩):=by cases h;exact⟨_,‹_›,rfl⟩
theorem bC.ew {x:qa}{v:Value}(h:bC C (.ah x) v):∃r o,v=.pointer (I ⟨r,o,Ev⟩)∧bZ C r x.flat o:=by cases h;exact⟨_,_,rfl,‹_›⟩
theorem bC.dZ {cs:List qa}{v:Value}(h:bC C (.agg cs) v):∃vs,v=.agg ⟨vs⟩∧aK C cs vs:=by cases h;exact⟨_,rfl,‹_›⟩
theorem bC.ny {cs:List qa}{v:Value}(h:bC C (.az cs) v):∃vs,v=.tuple ⟨vs⟩∧aK C cs vs:=by cases h;exact⟨_,rfl,‹_›⟩
theorem bC.ey {b o len:Nat}{v:Value}(h:bC C (.ms b o len) v):∃r cap,C.β b=I r∧len≤cap∧v=.slice (I ⟨r,o,Ev⟩) len cap:=by cases h;exact⟨_,_,‹_›,‹_›,rfl⟩
theorem bC.cG {n:Bool}{sz:Nat}{xs:List qa}{v:Value}(h:bC C (.list n sz xs) v):
  (n=Gl∧xs=[]∧v=.slice Ev 0 0)∨(n=Ga∧∃r o cap,v=.slice (I ⟨r,o,Ev⟩) xs.length cap∧xs.length≤cap∧aX C r sz xs o)∨(n=Ga∧xs=[]∧∃a,a.spot≠Ev∧v=.slice (I a) 0 0):=by
 cases h
 ·exact .inl ⟨rfl,rfl,rfl⟩
 ·exact .inr (.inl ⟨rfl,_,_,_,rfl,‹_›,‹_›⟩)
 ·exact .inr (.inr ⟨rfl,rfl,_,‹_›,rfl⟩)
theorem bC.len {n:Bool}{sz:Nat}{xs:List qa}{v:Value}(h:bC C (.list n sz xs) v):∃b cap,v=.slice b xs.length cap:=by
 rcases h.cG with⟨rfl,rfl,rfl⟩|⟨rfl,r,o,cap,rfl,_,_⟩|⟨rfl,rfl,a,_,rfl⟩
 ·exact⟨Ev,0,rfl⟩
 ·exact⟨_,_,rfl⟩
 ·exact⟨_,_,rfl⟩
theorem add_lit (r o n:Nat):(⟨r,o,Ev⟩:Addr).add n=⟨r,o+n,Ev⟩:=by unfold Addr.add;split<;>simp_all
theorem zI (k:IntKind)(n:Int):j9 k n=k.wrap n:=by
 unfold j9
 cases h:pE k n with
 |false=>rfl
 |true=>
  simp only[cT]
  symm
  have key:∀m:Nat,IntKind.min k≤n→n≤IntKind.max k→k.wrap n=n:=by
   intro _ h1 h2
   unfold IntKind.wrap
   cases k<;>simp[IntKind.bits,IntKind.signed,IntKind.min,IntKind.max]at *<;>omega
  refine key 0 ?_ ?_
  ·cases k<;>cases n<;>simp[pE,IntKind.min,IntKind.signed,IntKind.bits]at *<;>omega
  ·cases k<;>cases n<;>simp[pE,IntKind.max,IntKind.signed,IntKind.bits]at *<;>omega
theorem Ds {t:TypeId}{b:Bool}(h:fg P t=I b)(w:World):(isAgg t).run P w=.ok b w:=by
 unfold fg at h
 unfold isAgg
 cases hu:P.underlying t with
 |none=>simp[hu]at h
 |some d=>rw[hu]at h;simp[run_underlying hu];cases d<;>simp at h<;>subst h<;>rfl
theorem iT {t:TypeId}{n:Nat}(h:yh P t=I n)(w:World):(sizeOf t).run P w=.ok n w:=by
 unfold yh at h
 cases hi:P.info? t with
 |none=>simp[hi]at h
 |some i=>simp[hi]at h;simp[sizeOf,typeInfo,hi,h]
theorem q2p {t:TypeId}{ag:Bool}{n off:Nat}{cs:List qa}{vs:List Value}{x:qa}(hg:fg P t=I ag)(hn:yh P t=I n)(hp:part ag cs off n=I x)(hr:aK C cs vs)(w:World):
  ∃v,(Go.part t ⟨vs⟩ off).run P w=.ok v w∧bC C x v:=by
 unfold part at hp
 cases ag with
 |true=>
  simp only[cT]at hp
  cases hb:Gm (off+n) cs.length with
  |false=>simp[hb]at hp
  |true=>
   simp[hb]at hp
   subst hp
   refine⟨.agg ⟨(vs.drop off).take n⟩,?_,.agg _ _ ((hr.drop off).take n)⟩
   simp[Go.part,Ds hg,iT hn]
 |false=>
  simp only[cond_false]at hp
  obtain⟨v,h1,h2⟩:=hr.get hp
  exact⟨v,by simp[Go.part,Ds hg,h1],h2⟩
theorem qrq (a:List UInt8):(⟨⟨a⟩⟩:ByteArray).toList=a:=by
 rw[ByteArray.toList_eq]
end
theorem Se:∀ {ks:List Kd} {xs ys:List qa} (E6:List Kd) (fq nz:List qa),xs.length=ks.length→ys.length=ks.length →
  gL (ks++E6) (xs++fq) (ys++nz)=match gL ks xs ys with|some Gl=>gL E6 fq nz|r=>r
 | [],[],[],E6,fq,nz,_,_=>by simp[gL]
 |k::ks,x::xs,y::ys,E6,fq,nz,h,h'=>by
  simp only[List.cons_append,gL]
  cases he:mc k x y with
  |none=>simp
  |some b=>cases b with
   |false=>simp
   |true=>simpa using Se E6 fq nz (by simpa using h) (by simpa using h')
 | [],_::_,_,_,_,_,h,_=>by simp at h
 | [],[],_::_,_,_,_,_,h=>by simp at h
 |_::_,[],_,_,_,_,h,_=>by simp at h
 |_::_,_::_,[],_,_,_,_,h=>by simp at h
def uk (ag:Bool)(us:List Value):Value:=if ag then .agg ⟨us⟩else us.headD undef
def Mh:TypeDesc→Bool
 | .struct _=>Gl
 | .array _ _=>Gl
 |_=>Ga
section
variable {P:Program}{C:ax}
theorem jbj {t:TypeId}{d:TypeDesc}(h:P.underlying t=I d):fg P t=I (Mh d):=by
 unfold fg
 rw[h]
 cases d<;>rfl
theorem Mi {t:TypeId}{ag:Bool}{n off:Nat}{us:List Value}(hg:fg P t=I ag)(hn:yh P t=I n)(h1:ag=Ga→n=1)(hl:off+n≤us.length)(w:World):
  (Go.part t ⟨us⟩ off).run P w=.ok (uk ag ((us.drop off).take n)) w:=by
 cases ag with
 |true=>simp[Go.part,Ds hg,iT hn,uk]
 |false=>
  obtain rfl:=h1 rfl
  have aY:off<us.length:=by omega
  simp only[Go.part,Sem.run_bind,Ds hg,Result.andThen_ok,uk,E5,if_false]
  have e:(⟨us⟩:Array Value)[off]?=I us[off]:=by
   show(List.toArray us)[off]?=_
   rw[Gi,List.getElem?_eq_getElem aY]
  rw[e,List.drop_eq_getElem_cons aY]
  rfl
def Sf (P:Program)(C:ax)(n:Nat)(t:TypeId)(ks:List Kd):Prop:=
 ∃ag,fg P t=I ag∧yh P t=I ks.length∧(ag=Ga→ks.length=1)∧∀d,n≤d→∀xs ys us vs b w,aK C xs us→aK C ys vs→xs.length=ks.length→ys.length=ks.length→gL ks xs ys=I b →
  (Op.equalIn d t (uk ag us) (uk ag vs)).run P w=.ok b w
theorem Mj {α:Type}(xs:List α)(off n:Nat):xs.drop off=(xs.drop off).take n++xs.drop (off+n):=by
 rw[←List.drop_drop];exact(List.take_append_drop _ _).symm
theorem qtr {n d:Nat}(hd:n≤d):∀(fs:List Field) (off:Nat) (ks:List Kd) (xs ys:List qa) (us vs:List Value) (b:Bool) (w:World),
  EY (uj P n) off fs=I ks →
  (∀f∈fs,∀ks,uj P n f.type=I ks→Sf P C n f.type ks) →
  aK C xs us→aK C ys vs→xs.length=off+ks.length→ys.length=off+ks.length→gL ks (xs.drop off) (ys.drop off)=I b →
  (Op.eqFields d ⟨us⟩ ⟨vs⟩ fs).run P w=.ok b w
 | [],off,ks,xs,ys,us,vs,b,w,hf,_,hx,hy,mG,n5,he=>by
  simp[EY]at hf
  subst hf
  rw[Eh (by simp at mG;omega),Eh (by simp at n5;omega)]at he
  simp[gL]at he
  subst he
  simp[Op.eqFields]
 |f::fs,off,ks,xs,ys,us,vs,b,w,hf,dh,hx,hy,mG,n5,he=>by
  simp only[EY]at hf
  split at hf
  ·rename_i hc
   simp at hc
   obtain⟨E7,vE⟩:=hc
   split at hf
   ·rename_i k1 fG
    split at hf
    ·rename_i k2 cV
     cases hf
     obtain⟨ag,cL,cD,h1,heq⟩:=dh f (by simp) k1 fG
     have Sg:=hx.length
     have vF:=hy.length
     simp at mG n5
     have p1:=Mi (P:=P) (us:=us) (off:=f.offset) cL cD h1 (by omega) w
     have p2:=Mi (P:=P) (us:=vs) (off:=f.offset) cL cD h1 (by omega) w
     rw[Mj xs off k1.length,Mj ys off k1.length,Se _ _ _ (by simp;omega) (by simp;omega)]at he
     simp only[Op.eqFields,ne_eq,E7,not_false_eq_true,if_true,Sem.run_bind,p1,p2,Result.andThen_ok]
     rw[vE]
     cases hb:gL k1 ((xs.drop off).take k1.length) ((ys.drop off).take k1.length)with
     |none=>rw[hb]at he;cases he
     |some b1=>
      rw[hb]at he
      rw[heq d hd _ _ _ _ b1 w ((hx.drop off).take _) ((hy.drop off).take _) (by simp;omega) (by simp;omega) hb]
      cases b1 with
      |false=>simp at he;subst he;simp
      |true=>
       simp only[Result.andThen_ok,Ha,E5,if_false]
       exact qtr hd fs (off+k1.length) k2 xs ys us vs b w cV (fun g hg=>dh g (by simp[hg])) hx hy (by omega) (by omega) he
    ·cases hf
   ·cases hf
  ·cases hf
theorem qvj {n d:Nat}(hd:n≤d){e:TypeId}{ag:Bool}{k1:List Kd}(cL:fg P e=I ag)(cD:yh P e=I k1.length)(h1:ag=Ga→k1.length=1)
  (heq:∀d,n≤d→∀xs ys us vs b w,aK C xs us→aK C ys vs→xs.length=k1.length→ys.length=k1.length→gL k1 xs ys=I b→(Op.equalIn d e (uk ag us) (uk ag vs)).run P w=.ok b w):
  ∀(len i:Nat) (xs ys:List qa) (us vs:List Value) (b:Bool) (w:World),
  aK C xs us→aK C ys vs→xs.length=i*k1.length+len*k1.length→ys.length=i*k1.length+len*k1.length→gL (Gx len k1).flatten (xs.drop (i*k1.length)) (ys.drop (i*k1.length))=I b →
  (Op.eqItems d e k1.length ⟨us⟩ ⟨vs⟩ (List.range' i len)).run P w=.ok b w
 |0,i,xs,ys,us,vs,b,w,hx,hy,mG,n5,he=>by
  rw[Eh (by simp at mG;omega),Eh (by simp at n5;omega)]at he
  simp[gL]at he
  subst he
  simp[Op.eqItems]
 |len+1,i,xs,ys,us,vs,b,w,hx,hy,mG,n5,he=>by
  have Sg:=hx.length
  have vF:=hy.length
  rw[En]at mG n5
  have p1:=Mi (P:=P) (us:=us) (off:=i*k1.length) cL cD h1 (by omega) w
  have p2:=Mi (P:=P) (us:=vs) (off:=i*k1.length) cL cD h1 (by omega) w
  rw[List.replicate_succ,List.flatten_cons,Mj xs (i*k1.length) k1.length,Mj ys (i*k1.length) k1.length,Se _ _ _ (by simp;omega) (by simp;omega)]at he
  simp only[List.range'_succ,Op.eqItems,Sem.run_bind,p1,p2,Result.andThen_ok]
  cases hb:gL k1 ((xs.drop (i*k1.length)).take k1.length) ((ys.drop (i*k1.length)).take k1.length)with
  |none=>rw[hb]at he;cases he
  |some b1=>
   rw[hb]at he
   rw[heq d hd _ _ _ _ b1 w ((hx.drop _).take _) ((hy.drop _).take _) (by simp;omega) (by simp;omega) hb]
   cases b1 with
   |false=>simp at he;subst he;simp
   |true=>
    simp only[Result.andThen_ok,Ha,E5,if_false]
    refine qvj hd cL cD h1 heq len (i+1) xs ys us vs b w hx hy (by rw[mG,En];omega) (by rw[n5,En];omega) ?_
    rw[En];exact he
theorem q0p {t:TypeId}{n:Nat}(h:yh P t=I n):P.cellsOf t=n:=by
 unfold yh at h
 unfold Program.cellsOf
 rw[h];rfl
theorem q0o {t:TypeId}{n:Nat}(h:yh P t=I n):∃i,P.info? t=I i∧i.size=n:=by
 unfold yh at h
 cases hi:P.info? t with
 |none=>simp[hi]at h
 |some i=>exact⟨i,rfl,by simpa[hi]using h⟩
theorem q5l {k:Kd}{x y:qa}{b:Bool}(h:gL [k] [x] [y]=I b):mc k x y=I b:=by
 simp only[gL]at h
 split at h<;>simp_all
theorem jcx {xs:List qa}{us:List Value}(h:aK C xs us)(hl:xs.length=1):∃x u,xs=[x]∧us=[u]∧bC C x u:=by
 obtain⟨x,rfl⟩:=List.length_eq_one_iff.1 hl
 cases h with
 |cons _ _ u vs hx h=>cases h;exact⟨x,u,rfl,rfl,hx⟩
theorem q2y {k:Kd}{x y:qa}{b:Bool}{u v:Value}(h:mc k x y=I b)(hx:bC C x u)(hy:bC C y v):
  match k with
  | .int=>∃kd a c,u=.int kd a∧v=.int kd c∧b=(a == c)
  | .str=>∃a c:List UInt8,u=.string ⟨⟨a⟩⟩∧v=.string ⟨⟨c⟩⟩∧b=(a == c)
  | .bool=>∃a c,u=.bool a∧v=.bool c∧b=(a == c):=by
 unfold mc at h
 split at h
 ·rename_i k a k' c
  cases hx;cases hy
  by_cases hk:k=k'
  ·subst hk;simp at h;exact⟨_,_,_,rfl,rfl,h.symm⟩
  ·simp[hk]at h
 ·cases hx;cases hy;cases h;exact⟨_,_,rfl,rfl,rfl⟩
 ·cases hx;cases hy;cases h;exact⟨_,_,rfl,rfl,rfl⟩
 ·cases h
theorem q1q {t:TypeId}{k:Kd}{x y:qa}{b:Bool}{u v:Value}(hk:jT P t=I k)(h:mc k x y=I b)(hx:bC C x u)(hy:bC C y v)(d:Nat)(w:World):
  (Op.equalIn (d+1) t u v).run P w=.ok b w:=by
 have hc:=q2y h hx hy
 unfold jT at hk
 cases hu:P.underlying t with
 |none=>simp[hu]at hk
 |some D=>
  rw[hu]at hk
  cases D<;>simp at hk<;>subst hk<;>simp only[]at hc
  ·obtain⟨a,c,rfl,rfl,rfl⟩:=hc;exact run_equalIn_bool w d t a c hu
  ·obtain⟨kd,a,c,rfl,rfl,rfl⟩:=hc;exact run_equalIn_int w d t kd _ a c hu
  ·obtain⟨a,c,rfl,rfl,rfl⟩:=hc
   rw[run_equalIn_string w d t _ _ hu,qrq,qrq]
theorem Sh:∀ (n:Nat) (t:TypeId) (ks:List Kd),uj P n t=I ks→Sf P C n t ks
 |0,t,ks,h=>by simp[uj]at h
 |n+1,t,ks,h=>by
  unfold uj at h
  cases hu:P.underlying t with
  |none=>simp[hu]at h
  |some D=>
   rw[hu]at h
   have cL:=jbj hu
   have scalar:∀k,ks=[k]→yh P t=I 1→jT P t=I k→Mh D=Ga→Sf P C (n+1) t ks:=by
    intro k hks hs hk ha
    subst hks
    refine⟨Ga,by rw[cL,ha],hs,fun _=>rfl,?_⟩
    intro d hd xs ys us vs b w hx hy mG n5 he
    obtain⟨d,rfl⟩:∃m,d=m+1:=⟨d-1,by omega⟩
    obtain⟨x,u,rfl,rfl,Dt⟩:=jcx hx mG
    obtain⟨y,v,rfl,rfl,Ml⟩:=jcx hy n5
    exact q1q hk (q5l he) Dt Ml d w
   cases D<;>simp only[]at h<;>first|(simp at h;done)|skip
   case int k=>
    split at h<;>first|cases h|skip
    rename_i hs
    exact scalar .int rfl (by simpa using hs) (by simp[jT,hu]) rfl
   case bool=>
    split at h<;>first|cases h|skip
    rename_i hs
    exact scalar .bool rfl (by simpa using hs) (by simp[jT,hu]) rfl
   case string=>
    split at h<;>first|cases h|skip
    rename_i hs
    exact scalar .str rfl (by simpa using hs) (by simp[jT,hu]) rfl
   case array len e=>
    split at h
    ·rename_i k1 fG
     split at h
     ·rename_i hs
      cases h
      obtain⟨ag,Si,cD,h1,heq⟩:=Sh n e k1 fG
      have hlen:(Gx len k1).flatten.length=len*k1.length:=by simp[List.length_flatten]
      refine⟨Gl,by simpa[Mh]using cL,by rw[hlen];simpa using hs,(fun h=>by cases h),?_⟩
      intro d hd xs ys us vs b w hx hy mG n5 he
      obtain⟨d,rfl⟩:∃m,d=m+1:=⟨d-1,by omega⟩
      obtain⟨i,hi,_⟩:=q0o cD
      simp only[uk,if_true]
      rw[run_equalIn_array w d _ _ hu hi,q0p cD,List.range_eq_range']
      exact qvj (by omega) Si cD h1 heq len 0 xs ys us vs b w hx hy (by rw[mG,hlen];omega) (by rw[n5,hlen];omega) (by simpa using he)
     ·cases h
    ·cases h
   case struct fs=>
    split at h
    ·rename_i k1 fG
     split at h
     ·rename_i hs
      cases h
      simp at hs
      obtain⟨hso,cD⟩:=hs
      refine⟨Gl,by simpa[Mh]using cL,cD,(fun h=>by cases h),?_⟩
      intro d hd xs ys us vs b w hx hy mG n5 he
      obtain⟨d,rfl⟩:∃m,d=m+1:=⟨d-1,by omega⟩
      simp only[uk,if_true]
      have hf:P.fieldsOf t=fs:=by simp[Program.fieldsOf,hu]
      rw[run_equalIn_struct w d t _ _ (by rw[hf];exact hu) hso,hf]
      exact qtr (n:=n) (by omega) fs.toList 0 _ xs ys us vs b w fG (fun f _ ks hp=>Sh n f.type ks hp) hx hy (by omega) (by omega) (by simpa using he)
     ·cases h
    ·cases h
end
section
variable {P:Program}{C:ax}{w:World}{env:Env}{a:Act}{o:Oper}
def Val (P:Program)(C:ax)(a:Act)(o:Oper)(w:World)(x:qa):Prop:=∃v,(execOp a.eval o).run P w=.ok (.value v) w∧bC C x v
theorem jfj {x:Operand}{y:qf}{v:qa}(he:aW C env a.tmps)(ho:o.op=.move x∨o.op=.assign x)(hc:zr x=I y)(hv:zd env y=I v):Val P C a o w v:=by
 refine⟨a.eval x,?_,zt he hc hv⟩
 rcases ho with ho|ho<;>simp[execOp,ho]
theorem jfs {c x y:Operand}{c' x' y':qf}{b:Bool}{u v:qa}(he:aW C env a.tmps)(ho:o.op=.pick c x y)(h1:zr c=I c')(h2:zr x=I x')(h3:zr y=I y')
  (e1:zd env c'=I (.bool b)) (e2:zd env x'=I u) (e3:zd env y'=I v):Val P C a o w (bif b then u else v):=by
 have r1:=(zt he h1 e1).cS
 have r2:=zt he h2 e2
 have r3:=zt he h3 e3
 refine⟨if b then a.eval x else a.eval y,by simp[execOp,ho,r1,asBool],?_⟩
 cases b<;>simpa
theorem qq2 {x:Operand}{y:qf}{v:qa}(he:aW C env a.tmps)(ho:o.op=.nilCheck x)(hc:zr x=I y)(hv:zd env y=I v)
  (hk:(∃b p,v=.ptr b p)∨(∃z,v=.ah z)):Val P C a o w v:=by
 have r:=zt he hc hv
 rcases hk with⟨b,p,rfl⟩|⟨z,rfl⟩
 ·obtain⟨q,_,hq⟩:=r.cU
  exact⟨a.eval x,by simp[execOp,ho,hq],r⟩
 ·obtain⟨q,p,hq,_⟩:=r.ew
  exact⟨a.eval x,by simp[execOp,ho,hq],r⟩
theorem Sj (op:BinOp)(k:IntKind)(x y:Int)(t:TypeId)(h1:op≠.shl)(h2:op≠.shr):binOp op t (.int k x) (.int k y)=match op with
  | .add | .sub | .mul=>Op.intArith op k x y
  | .quo | .rem=>Op.intDiv op k x y
  | .and | .or | .xor | .andNot=>Op.intBits op k x y
  |_=>Op.intCmp op x y:=by
 cases op<;>simp at h1 h2<;>simp[binOp]
theorem q6o {op:BinOp}{k:IntKind}{x y:Int}{v:qa}(h:nX op k x y=I v)(t:TypeId)(w:World):∃u,(binOp op t (.int k x) (.int k y)).run P w=.ok u w∧bC C v u:=by
 unfold nX at h
 cases op<;>simp only[]at h<;>first|(cases h;done)|skip
 case quo=>
  cases hy:(y == 0)with
  |true=>simp[hy]at h
  |false=>
   simp[hy]at h
   subst h
   have:y≠0:=by simpa using hy
   rw[zI,Sj _ _ _ _ _ (by simp) (by simp)]
   refine⟨_,?_,.int _ _⟩
   simp[Op.intDiv,this]
 case rem=>
  cases hy:(y == 0)with
  |true=>simp[hy]at h
  |false=>
   simp[hy]at h
   subst h
   have:y≠0:=by simpa using hy
   rw[Sj _ _ _ _ _ (by simp) (by simp)]
   refine⟨_,?_,.int _ _⟩
   simp[Op.intDiv,this]
 all_goals (cases h;rw[Sj _ _ _ _ _ (by simp) (by simp)];try rw[zI])
 all_goals first
  |exact⟨_,rfl,.int _ _⟩
  |exact⟨_,rfl,.bool _⟩
theorem qqc:∀ (x y:List UInt8),bytesLess x y=Op.bytesLess x y
 |x,[]=>by cases x<;>rfl
 | [],_::_=>rfl
 |a::x,b::y=>by simp only[bytesLess,Op.bytesLess,qqc x y]
theorem q6m {op:BinOp}{x y:List UInt8}{v:qa}(h:EX op x y=I v)(t:TypeId)(w:World):∃u,(binOp op t (.string ⟨⟨x⟩⟩) (.string ⟨⟨y⟩⟩)).run P w=.ok u w∧bC C v u:=by
 unfold EX at h
 cases op<;>simp only[]at h<;>first|(cases h;done)|skip
 ·cases hb:Gm (x.length+y.length) 4611686018427387904 with
  |false=>simp[hb]at h
  |true=>
   simp[hb]at h
   subst h
   have hle:x.length+y.length≤4611686018427387904:=El hb
   refine⟨.string ⟨⟨x++y⟩⟩,?_,.str _⟩
   have e1:(⟨⟨x⟩⟩:ByteArray).size=x.length:=rfl
   have e2:(⟨⟨y⟩⟩:ByteArray).size=y.length:=rfl
   have e3:(⟨⟨x⟩⟩:ByteArray)++⟨⟨y⟩⟩=⟨⟨x++y⟩⟩:=by
    apply ByteArray.ext
    simp[ByteArray.data_append]
   simp only[binOp,Op.stringOp,e1,e2,e3,IntKind.max,IntKind.signed,IntKind.bits]
   rw[if_neg (by simp;omega)]
   rfl
 all_goals (cases h;refine⟨_,?_,.bool _⟩;simp[binOp,Op.stringOp,qqc])
theorem q7a {op:BinOp}{x y v:qa}{u u':Value}(h:fo op x y=I v)(hx:bC C x u)(hy:bC C y u')(t:TypeId)(w:World):∃z,(binOp op t u u').run P w=.ok z w∧bC C v z:=by
 unfold fo at h
 split at h
 ·rename_i k a k' b
  obtain rfl:=hx.bF
  obtain rfl:=hy.bF
  have hsh:∀(op:BinOp),(op=.shl∨op=.shr)→L6 op k a b=I v→∃z,(binOp op t (.int k a) (.int k' b)).run P w=.ok z w∧bC C v z:=by
   intro op hop h
   unfold L6 at h
   cases hb:decide (b<0)with
   |true=>simp[hb]at h
   |false=>
    have eZ:¬b<0:=by simpa using hb
    rcases hop with rfl|rfl<;>simp[hb]at h<;>subst h
    ·rw[zI]; (refine⟨_,?_,.int _ _⟩;simp[binOp,Op.shift,eZ])
    ·(refine⟨_,?_,.int _ _⟩;simp[binOp,Op.shift,eZ])
  have hin:op≠.shl→op≠.shr→(bif decide (k=k')then nX op k a b else Ev)=I v→∃z,(binOp op t (.int k a) (.int k' b)).run P w=.ok z w∧bC C v z:=by
   intro _ _ h
   by_cases hk:k=k'
   ·subst hk;simp at h;exact q6o h t w
   ·simp[hk]at h
  cases op<;>simp only[]at h<;>first|exact hsh _ (.inl rfl) h|exact hsh _ (.inr rfl) h|exact hin (by simp) (by simp) h
 ·obtain rfl:=hx.bW
  obtain rfl:=hy.bW
  exact q6m h t w
 ·cases h
theorem q4z (op:BinOp)(t:TypeId)(x y:Operand)(u v:Value)(w:World)(h1:¬(u=.nilIface∧v=.nilIface))(h2:(∀cs,u≠.agg cs)∨P.eqGuardType P.depth t=Ga):(eqGuard op t x y u v).run P w=.ok () w:=by
 unfold eqGuard
 by_cases hop:(!(match op with | .eql | .neq=>Gl|_=>Ga))=Gl
 ·cases op<;>simp_all
 ·cases op<;>simp at hop ⊢
  all_goals (
   split
   ·exact absurd ⟨rfl,rfl⟩ h1
   ·rcases h2 with h2|h2
    ·rename_i cs _ ;exact absurd rfl (h2 cs)
    ·simp[h2]
   ·rfl)
theorem Mm {op:BinOp}{t u:TypeId}{x y:Operand}{p q z:Value}(ho:o.op=.binOp op t x y u)(hx:a.eval x=p)(hy:a.eval y=q)(h1:¬(p=.nilIface∧q=.nilIface))(h2:(∀cs,p≠.agg cs)∨P.eqGuardType P.depth t=Ga)
  (hz:(binOp op t p q).run P w=.ok z w):(execOp a.eval o).run P w=.ok (.value z) w:=by
 have hg:=q4z (P:=P) op t x y p q w h1 h2
 subst hx;subst hy
 simp only[execOp,ho,Sem.run_bind,hg,Result.andThen_ok,hz,Sem.run_pure]
theorem q0s {x:qa}{v:Value}(h:bC C x v)(hx:x≠.undef)(hy:x≠.any:=by simp):v≠.nilIface:=by
 cases h<;>simp at hx hy ⊢
theorem q0l {op:BinOp}{x y v:qa}(h:fo op x y=I v):(x≠.undef∧(∀cs,x≠.agg cs)∧x≠.any):=by
 unfold fo at h
 split at h<;>simp at h ⊢
theorem q4x {x:qa}{v:Value}(h:bC C x v)(hx:x≠.undef)(ha:∀cs,x≠.agg cs)(hy:x≠.any:=by simp):∀cs,v≠.agg cs:=by
 cases h<;>simp at hx ha hy ⊢
theorem jl3 {op:BinOp}{t u:TypeId}{x y:Operand}{x' y':qf}{p q v:qa}(he:aW C env a.tmps)(ho:o.op=.binOp op t x y u)(h1:zr x=I x')(h2:zr y=I y')
  (e1:zd env x'=I p) (e2:zd env y'=I q) (hv:fo op p q=I v):Val P C a o w v:=by
 have r1:=zt he h1 e1
 have r2:=zt he h2 e2
 obtain⟨hn,ha,hy⟩:=q0l hv
 obtain⟨z,hz,hr⟩:=q7a (P:=P) hv r1 r2 t w
 refine⟨z,?_,hr⟩
 exact Mm ho rfl rfl (fun h=>q0s r1 hn hy h.1) (.inl (q4x r1 hn ha hy)) hz
theorem Sk {neq:Bool}{t:TypeId}{u v:Value}{b:Bool}(w:World)(hu:(∀k n,u≠.int k n)∧(∀s,u≠.string s)∧(∀k n,u≠.float k n)∧(∀k n m,u≠.complex k n m))
  (h:(Op.equal t u v).run P w=.ok b w):(binOp (if neq then .neq else .eql) t u v).run P w=.ok (.bool (bif neq then !b else b)) w:=by
 obtain⟨h1,h2,h3,h4⟩:=hu
 cases neq<;>cases u<;>simp_all [binOp]
theorem jl5 {op:BinOp}{neq:Bool}{t u:TypeId}{x y:Operand}{x' y':qf}{p q:List qa}{ks:List Kd}{b:Bool}(he:aW C env a.tmps)(ho:o.op=.binOp op t x y u)(hop:op=if neq then .neq else .eql)
  (h1:zr x=I x') (h2:zr y=I y') (e1:zd env x'=I (.agg p)) (e2:zd env y'=I (.agg q)) (hg:P.eqGuardType P.depth t=Ga) (hk:uj P L9 t=I ks) (cL:fg P t=I Gl)
  (gO:p.length=ks.length) (n6:q.length=ks.length) (hb:gL ks p q=I b):Val P C a o w (.bool (bif neq then !b else b)):=by
 obtain⟨us,hu,ru⟩:=(zt he h1 e1).dZ
 obtain⟨vs,hv,rv⟩:=(zt he h2 e2).dZ
 obtain⟨ag,ha,_,_,heq⟩:=Sh (C:=C) L9 t ks hk
 rw[cL]at ha;cases ha
 have hq:=heq 10000 (by decide) p q us vs b w ru rv gO n6 hb
 simp only[uk,if_true]at hq
 refine⟨_,?_,.bool _⟩
 have pK:=Sk (P:=P) (neq:=neq) (t:=t) (u:=.agg ⟨us⟩) (v:=.agg ⟨vs⟩) (b:=b) w ⟨by simp,by simp,by simp,by simp⟩ hq
 exact Mm (hop▸ho) hu hv (by simp) (.inr hg) pK
theorem jmu {op:BinOp}{neq:Bool}{t u:TypeId}{x y:Operand}{x' y':qf}{p q:Bool}(he:aW C env a.tmps)(ho:o.op=.binOp op t x y u)(hop:op=if neq then .neq else .eql)
  (h1:zr x=I x') (h2:zr y=I y') (e1:zd env x'=I (.bool p)) (e2:zd env y'=I (.bool q)) (ht:P.underlying t=I .bool):Val P C a o w (.bool (bif neq then !(p == q)else p == q)):=by
 have hu:=(zt he h1 e1).cS
 have hv:=(zt he h2 e2).cS
 refine⟨_,?_,.bool _⟩
 have pK:=Sk (P:=P) (neq:=neq) (t:=t) (u:=.bool p) (v:=.bool q) (b:=p == q) w ⟨by simp,by simp,by simp,by simp⟩ (run_equalIn_bool w 9999 t p q ht)
 exact Mm (hop▸ho) hu hv (by simp) (.inl (by simp)) pK
theorem jay {op:BinOp}{neq b:Bool}{t u:TypeId}{x y:Operand}{c:Value}(ho:o.op=.binOp op t x y u)(hop:op=if neq then .neq else .eql)
  (hy:a.eval y=c) (br:(∀k n,a.eval x≠.int k n)∧(∀s,a.eval x≠.string s)∧(∀k n,a.eval x≠.float k n)∧(∀k n m,a.eval x≠.complex k n m)) (cL:∀cs,a.eval x≠.agg cs) (Sl:a.eval x≠.nilIface)
  (h:(Op.equal t (a.eval x) c).run P w=.ok b w):Val P C a o w (.bool (bif neq then !b else b)):=by
 refine⟨_,?_,.bool _⟩
 have pK:=Sk (P:=P) (neq:=neq) w br h
 exact Mm (hop▸ho) rfl hy (fun h=>Sl h.1) (.inl cL) pK
theorem jp7 {op:UnOp}{t:TypeId}{x:Operand}{x':qf}{p v:qa}(he:aW C env a.tmps)(ho:o.op=.unOp op t x)(h1:zr x=I x')(e1:zd env x'=I p)(hv:wV op p=I v):Val P C a o w v:=by
 have r1:=zt he h1 e1
 unfold wV at hv
 split at hv
 ·obtain hu:=r1.bF
  cases hv
  rw[zI]
  (refine⟨_,?_,.int _ _⟩;simp[execOp,ho,hu,Op.unary,Op.intArith])
 ·obtain hu:=r1.cS
  cases hv
  (refine⟨_,?_,.bool _⟩;simp[execOp,ho,hu,Op.unary])
 ·cases hv
theorem je9 {s d:TypeId}{k k0:IntKind}{x:Operand}{x':qf}{k1:IntKind}{n:Int}(he:aW C env a.tmps)(ho:o.op=.convert s d x)(hs:P.underlying s=I (.int k0))(hd:P.underlying d=I (.int k))
  (h1:zr x=I x') (e1:zd env x'=I (.int k1 n)):Val P C a o w (.int k (j9 k n)):=by
 have hu:=(zt he h1 e1).bF
 rw[zI]
 (refine⟨_,?_,.int _ _⟩;simp[execOp,ho,hu,convert,run_underlying hs,run_underlying hd,Conv.intToInt])
theorem q5c {s d:TypeId}{x:Operand}{x':qf}{v:qa}(he:aW C env a.tmps)(ho:o.op=.convert s d x)(hs:P.underlying s=I .string)(hd:P.underlying d=I .string)
  (h1:zr x=I x') (e1:zd env x'=I v) (hv:∃l,v=.str l):Val P C a o w v:=by
 obtain⟨l,rfl⟩:=hv
 have r:=zt he h1 e1
 have hu:=r.bW
 exact⟨_,by simp[execOp,ho,hu,convert,run_underlying hs,run_underlying hd];rfl,by rw[←hu];exact r⟩
theorem q1j {s d:TypeId}{x:Operand}{x':qf}{v:qa}{k0:IntKind}(he:aW C env a.tmps)(ho:o.op=.convert s d x)(hs:P.underlying s=I (.int k0))(hd:P.underlying d=I .string)
  (h1:zr x=I x') (e1:zd env x'=I v) (hv:∃l,v=.str l):Val P C a o w v:=by
 obtain⟨l,rfl⟩:=hv
 have r:=zt he h1 e1
 have hu:=r.bW
 exact⟨_,by simp[execOp,ho,hu,convert,run_underlying hs,run_underlying hd];rfl,by rw[←hu];exact r⟩
theorem q48 {s d:TypeId}{x:Operand}{x':qf}{k0 k1:IntKind}{n:Int}(he:aW C env a.tmps)(ho:o.op=.convert s d x)(hs:P.underlying s=I (.int k0))(hd:P.underlying d=I .string)
  (h1:zr x=I x') (e1:zd env x'=I (.int k1 n)):Val P C a o w (.str (Utf8.encode n).data.toList):=by
 have hu:=(zt he h1 e1).bF
 exact⟨.string (Utf8.encode n),by simp[execOp,ho,hu,convert,run_underlying hs,run_underlying hd,Conv.intToString],.str _⟩
theorem q3h {s d:TypeId}{x:Operand}{x':qf}{k1:IntKind}{n:Int}(he:aW C env a.tmps)(ho:o.op=.convert s d x)(hs:P.underlying s=I .string)(hd:P.underlying d=I .string)
  (h1:zr x=I x') (e1:zd env x'=I (.int k1 n)):Val P C a o w (.str (Utf8.encode n).data.toList):=by
 have hu:=(zt he h1 e1).bF
 exact⟨.string (Utf8.encode n),by simp[execOp,ho,hu,convert,run_underlying hs,run_underlying hd,Conv.intToString],.str _⟩
theorem jal {t:TypeId}{x:Operand}{x':qf}{i:Nat}{fs:Array Field}{f:Field}{ag:Bool}{n:Nat}{cs:List qa}{v:qa}(he:aW C env a.tmps)(ho:o.op=.field t x i)(ht:P.underlying t=I (.struct fs))(hf:fs[i]?=I f)
  (cL:fg P f.type=I ag) (hn:yh P f.type=I n) (h1:zr x=I x') (e1:zd env x'=I (.agg cs)) (hv:Abs.part ag cs f.offset n=I v):Val P C a o w v:=by
 obtain⟨us,hu,ru⟩:=(zt he h1 e1).dZ
 obtain⟨z,hz,hr⟩:=q2p cL hn hv ru w
 refine⟨z,?_,hr⟩
 simp[execOp,ho,hu,Instr.field,run_underlying ht,hf,asAgg,hz]
theorem E9 {n:Nat}{v:qa}{j:Nat}(h:idx n v=I j):∃k,v=.int k (j:Int)∧j<n:=by
 unfold idx at h
 split at h
 ·rename_i k i
  cases hb:Nat.blt i n with
  |false=>simp[hb]at h
  |true=>
   simp[hb]at h
   subst h
   exact⟨k,rfl,by have:=El hb;omega⟩
 ·cases h
theorem jbi {n:Nat}{v:qa}{j:Nat}(h:zo n v=I j):∃k,v=.int k (j:Int)∧j≤n:=by
 unfold zo at h
 split at h
 ·rename_i k i
  cases hb:Gm i n with
  |false=>simp[hb]at h
  |true=>
   simp[hb]at h
   subst h
   exact⟨k,rfl,El hb⟩
 ·cases h
theorem jb9 {t e:TypeId}{x i:Operand}{x' i':qf}{len n:Nat}{ag:Bool}{cs:List qa}{iv v:qa}{j:Nat}(he:aW C env a.tmps)(ho:o.op=.index t x i)(ht:P.underlying t=I (.array len e))
  (cL:fg P e=I ag) (hn:yh P e=I n) (h1:zr x=I x') (h2:zr i=I i') (e1:zd env x'=I (.agg cs)) (e2:zd env i'=I iv) (hj:idx len iv=I j) (hv:Abs.part ag cs (j*n) n=I v):Val P C a o w v:=by
 obtain⟨us,hu,ru⟩:=(zt he h1 e1).dZ
 obtain⟨k,rfl,aY⟩:=E9 hj
 have hi:=(zt he h2 e2).bF
 obtain⟨z,hz,hr⟩:=q2p cL hn hv ru w
 refine⟨z,?_,hr⟩
 simp[execOp,ho,hu,hi,Instr.index,asIntOf,run_underlying ht,aY,iT hn,hz]
theorem q4e {t:TypeId}{x i:Operand}{x' i':qf}{s:List UInt8}{iv:qa}{j:Nat}{c:UInt8}(he:aW C env a.tmps)(ho:o.op=.index t x i)(ht:P.underlying t=I .string)
  (h1:zr x=I x') (h2:zr i=I i') (e1:zd env x'=I (.str s)) (e2:zd env i'=I iv) (hj:idx s.length iv=I j) (hc:s[j]?=I c):Val P C a o w (.int .u8 c.toNat):=by
 have hu:=(zt he h1 e1).bW
 obtain⟨k,rfl,aY⟩:=E9 hj
 have hi:=(zt he h2 e2).bF
 refine⟨_,?_,.int _ _⟩
 have hb:(⟨⟨s⟩⟩:ByteArray)[j]?=I c:=by
  rw[getElem?_pos (ByteArray.mk ⟨s⟩) j aY]
  exact congrArg I (List.getElem?_eq_some_iff.1 hc).2
 simp[execOp,ho,hu,hi,Instr.index,asIntOf,run_underlying ht,hb]
end
section
variable {P:Program}{C:ax}{w:World}{env:Env}{a:Act}{o:Oper}
theorem qcl {z:qa}(h:z.isAgg=Ga):z.flat=[z]:=by cases z<;>simp[qa.isAgg,qa.flat]at *
theorem q50 {ag:Bool}{cs:List qa}{off n r q:Nat}{z:qa}(hc:bZ C r cs q)(hz:Abs.part ag cs off n=I z)(hx:Hv ag z.isAgg=Ga):bZ C r z.flat (q+off):=by
 unfold Abs.part at hz
 cases ag with
 |true=>
  simp only[cT]at hz
  cases hb:Gm (off+n) cs.length with
  |false=>simp[hb]at hz
  |true=>simp[hb]at hz;subst hz;exact bZ.take n (bZ.drop off hc)
 |false=>
  simp only[cond_false]at hz
  rw[qcl (by simpa using hx)]
  obtain⟨u,h1,h2⟩:=hc.get hz
  exact .de _ _ _ _ u h1 h2 (.gN _ _)
theorem qp4 {t:TypeId}{x:Operand}{x':qf}{i:Nat}{fs:Array Field}{f:Field}{ag:Bool}{n:Nat}{p v:qa}(he:aW C env a.tmps)(ho:o.op=.fieldAddr t x i)(ht:P.underlying t=I (.struct fs))(hf:fs[i]?=I f)
  (hn:yh P f.type=I n) (zJ:0<n) (h1:zr x=I x') (e1:zd env x'=I p)
  (hv:(∃b q,p=.ptr b q∧v=.ptr b (q+f.offset))∨(∃cs z,p=.ah (.agg cs)∧Abs.part ag cs f.offset n=I z∧Hv ag z.isAgg=Ga∧v=.ah z)):Val P C a o w v:=by
 have bn:∀r q,a.eval x=.pointer (I ⟨r,q,Ev⟩)→(execOp a.eval o).run P w=.ok (.value (.pointer (I ⟨r,q+f.offset,Ev⟩))) w:=by
  intro r q hq
  simp[execOp,ho,Instr.fieldAt,run_underlying ht,hf,hq,Instr.sureAddr,fieldPlace,iT hn,Nat.pos_iff_ne_zero.1 zJ,add_lit]
 rcases hv with⟨b,q,rfl,rfl⟩|⟨cs,z,rfl,hz,hx,rfl⟩
 ·obtain⟨r,hr,hq⟩:=(zt he h1 e1).cU
  exact⟨_,bn r q hq,.ptr _ _ _ hr⟩
 ·obtain⟨r,q,hq,hc⟩:=(zt he h1 e1).ew
  exact⟨_,bn r q hq,.ah _ _ _ (q50 hc hz hx)⟩
theorem qpz {t e:TypeId}{x i:Operand}{x' i':qf}{sz:Nat}{p iv v:qa}(he:aW C env a.tmps)(ho:o.op=.indexAddr t x i)(ht:P.underlying t=I (.slice e))
  (hn:yh P e=I sz) (h1:zr x=I x') (h2:zr i=I i') (e1:zd env x'=I p) (e2:zd env i'=I iv)
  (hv:(∃b q len j,p=.ms b q len∧idx len iv=I j∧v=.ptr b (q+j*sz))∨(∃nl xs z j,p=.list nl sz xs∧idx xs.length iv=I j∧xs[j]?=I z∧v=.ah z)):Val P C a o w v:=by
 have bn:∀r q len cap j,a.eval x=.slice (I ⟨r,q,Ev⟩) len cap→idx len iv=I j→(execOp a.eval o).run P w=.ok (.value (.pointer (I ⟨r,q+j*sz,Ev⟩))) w:=by
  intro r q len cap j hq hj
  obtain⟨k,rfl,aY⟩:=E9 hj
  have hi:=(zt he h2 e2).bF
  simp[execOp,ho,Instr.indexAt,run_underlying ht,hq,hi,asIntOf,iT hn,aY,add_lit]
 rcases hv with⟨b,q,len,j,rfl,hj,rfl⟩|⟨nl,xs,z,j,rfl,hj,hz,rfl⟩
 ·obtain⟨r,cap,hr,_,hq⟩:=(zt he h1 e1).ey
  exact⟨_,bn r q len cap j hq hj,.ptr _ _ _ hr⟩
 ·rcases(zt he h1 e1).cG with⟨rfl,rfl,hq⟩|⟨rfl,r,q,cap,hq,_,cM⟩|⟨rfl,rfl,_⟩
  ·simp at hz
  ·exact⟨_,bn r q _ cap j hq hj,.ah _ _ _ (cM.get hz)⟩
  ·simp at hz
theorem qqp {t e:TypeId}{x i:Operand}{x' i':qf}{len sz:Nat}{ag:Bool}{p iv v:qa}{j:Nat}(he:aW C env a.tmps)(ho:o.op=.indexAddr t x i)(ht:P.underlying t=I (.array len e))
  (hn:yh P e=I sz) (h1:zr x=I x') (h2:zr i=I i') (e1:zd env x'=I p) (e2:zd env i'=I iv) (hj:idx len iv=I j)
  (hv:(∃b q,p=.ptr b q∧v=.ptr b (q+j*sz))∨(∃cs z,p=.ah (.agg cs)∧Abs.part ag cs (j*sz) sz=I z∧Hv ag z.isAgg=Ga∧v=.ah z)):Val P C a o w v:=by
 have bn:∀r q,a.eval x=.pointer (I ⟨r,q,Ev⟩)→(execOp a.eval o).run P w=.ok (.value (.pointer (I ⟨r,q+j*sz,Ev⟩))) w:=by
  intro r q hq
  obtain⟨k,rfl,aY⟩:=E9 hj
  have hi:=(zt he h2 e2).bF
  simp[execOp,ho,Instr.indexAt,run_underlying ht,hq,hi,asIntOf,Instr.sureAddr,iT hn,aY,add_lit]
 rcases hv with⟨b,q,rfl,rfl⟩|⟨cs,z,rfl,hz,hx,rfl⟩
 ·obtain⟨r,hr,hq⟩:=(zt he h1 e1).cU
  exact⟨_,bn r q hq,.ptr _ _ _ hr⟩
 ·obtain⟨r,q,hq,hc⟩:=(zt he h1 e1).ew
  exact⟨_,bn r q hq,.ah _ _ _ (q50 hc hz hx)⟩
theorem Mn {x:Option Operand}{x':Option qf}{d n j:Nat}(he:aW C env a.tmps)(hc:mC x=I x')(hb:eX env d n x'=I j):
  (x=Ev∧j=d)∨(∃y k,x=I y∧a.eval y=.int k (j:Int)∧j≤n):=by
 cases x with
 |none=>simp[mC]at hc;subst hc;simp[eX]at hb;exact .inl ⟨rfl,hb.symm⟩
 |some x=>
  simp only[mC]at hc
  split at hc
  ·rename_i z hz
   cases hc
   simp only[eX]at hb
   split at hb
   ·rename_i v hv
    obtain⟨k,rfl,hle⟩:=jbi hb
    exact .inr ⟨x,k,rfl,(zt he hz hv).bF,hle⟩
   ·cases hb
  ·cases hc
theorem Mp {lo hi:Option Operand}{li fH:Option qf}{len cap i j:Nat}{isS:Bool}(he:aW C env a.tmps)(h1:mC lo=I li)(h2:mC hi=I fH)(b2:eX env len len fH=I j)(b1:eX env 0 j li=I i)(hc:len≤cap)(w:World):
  (Instr.sliceBounds isS len cap (lo.map a.eval) (hi.map a.eval) Ev).run P w=.ok (i,j,cap) w∧i≤j∧j≤len:=by
 have k2:j≤len:=by
  rcases Mn he h2 b2 with⟨_,rfl⟩|⟨_,_,_,_,h⟩
  ·exact Eo _
  ·exact h
 have k1:i≤j:=by
  rcases Mn he h1 b1 with⟨_,rfl⟩|⟨_,_,_,_,h⟩
  ·exact Nat.zero_le _
  ·exact h
 refine⟨?_,k1,k2⟩
 have hj:j≤cap:=by omega
 rcases Mn he h2 b2 with⟨rfl,rfl⟩|⟨y,k,rfl,hy,_⟩<;>rcases Mn he h1 b1 with⟨rfl,rfl⟩|⟨z,k',rfl,hz,_⟩
 ·simp[Instr.sliceBounds]
 ·simp[Instr.sliceBounds,hz,Instr.sliceBound,asIntOf,k1]
 ·simp[Instr.sliceBounds,hy,Instr.sliceBound,asIntOf,hj]
 ·simp[Instr.sliceBounds,hy,hz,Instr.sliceBound,asIntOf,hj,k1]
theorem qz3 {t e:TypeId}{x:Operand}{lo hi:Option Operand}{x':qf}{li fH:Option qf}{sz i j:Nat}{p v:qa}(he:aW C env a.tmps)(ho:o.op=.slice t x lo hi Ev)(ht:P.underlying t=I (.slice e))
  (hn:yh P e=I sz) (h1:zr x=I x') (h2:mC lo=I li) (h3:mC hi=I fH) (e1:zd env x'=I p)
  (hv:(∃b q len,p=.ms b q len∧eX env len len fH=I j∧eX env 0 j li=I i∧(i=0∨i<j)∧v=.ms b (q+i*sz) (j-i)) ∨
   (∃nl cK xs,p=.list nl cK xs∧(sz=cK∨xs=[])∧eX env xs.length xs.length fH=I j∧eX env 0 j li=I i∧v=.list nl cK ((xs.take j).drop i))):Val P C a o w v:=by
 have bn:∀b len cap,a.eval x=.slice b len cap→len≤cap→eX env len len fH=I j→eX env 0 j li=I i →
   (execOp a.eval o).run P w=.ok (.value (.slice (if cap=i then b else b.map (·.add (i*sz))) (j-i) (cap-i))) w∧i≤j∧j≤len:=by
  intro b len cap hq hle b2 b1
  obtain⟨hb,k1,k2⟩:=Mp (P:=P) (isS:=true) he h2 h3 b2 b1 hle w
  refine⟨?_,k1,k2⟩
  simp[execOp,ho,Instr.sliceAt,Instr.slice,run_underlying ht,hq,hb,iT hn]
 rcases hv with⟨b,q,len,rfl,b2,b1,vG,rfl⟩|⟨nl,cK,xs,rfl,cD,b2,b1,rfl⟩
 ·obtain⟨r,cap,hr,hle,hq⟩:=(zt he h1 e1).ey
  obtain⟨hw,k1,k2⟩:=bn _ len cap hq hle b2 b1
  refine⟨_,hw,?_⟩
  by_cases hc:cap=i
  ·rw[if_pos hc]
   obtain rfl:i=0:=by omega
   simpa using qp.ms b q (j-0) r (cap-0) hr (by omega)
  ·rw[if_neg hc]
   simp only[Gp,add_lit]
   exact .ms _ _ _ _ _ hr (by omega)
 ·rcases(zt he h1 e1).cG with⟨rfl,rfl,hq⟩|⟨rfl,r,q,cap,hq,hle,cM⟩|⟨rfl,rfl,ad,lS,hq⟩
  ·obtain⟨hw,k1,k2⟩:=bn _ 0 0 hq (Eo _) b2 b1
   simp at k2
   obtain rfl:=k2
   obtain rfl:i=0:=by omega
   exact⟨_,hw,by simpa using qp.iQ cK⟩
  ·obtain⟨hw,k1,k2⟩:=bn _ _ cap hq hle b2 b1
   refine⟨_,hw,?_⟩
   have hl:((xs.take j).drop i).length=j-i:=by simp;omega
   rw[←hl]
   by_cases hc:cap=i
   ·rw[if_pos hc]
    have jV:(xs.take j).drop i=[]:=Eh (by simp;omega)
    rw[jV]
    exact .list _ _ _ _ _ (by simp) (.fi _ _ _)
   ·rw[if_neg hc]
    simp only[Gp,add_lit]
    refine .list _ _ _ _ _ (by rw[hl];omega) ?_
    rcases cD with rfl|rfl
    ·exact aX.drop i (aX.take j cM)
    ·simpa using qp.fi _ _ _
  ·obtain⟨hw,k1,k2⟩:=bn _ 0 0 hq (Eo _) b2 b1
   simp at k2
   obtain rfl:=k2
   obtain rfl:i=0:=by omega
   exact⟨_,hw,by simpa using qp.iR cK ad lS⟩
theorem q3o {t e:TypeId}{x:Operand}{lo hi:Option Operand}{x':qf}{li fH:Option qf}{len sz i j b q:Nat}(he:aW C env a.tmps)(ho:o.op=.slice t x lo hi Ev)(ht:P.underlying t=I (.array len e))
  (hn:yh P e=I sz) (h1:zr x=I x') (h2:mC lo=I li) (h3:mC hi=I fH) (e1:zd env x'=I (.ptr b q)) (b2:eX env len len fH=I j) (b1:eX env 0 j li=I i) (vG:i=0∨i<j):Val P C a o w (.ms b (q+i*sz) (j-i)):=by
 obtain⟨r,hr,hq⟩:=(zt he h1 e1).cU
 obtain⟨hb,k1,k2⟩:=Mp (P:=P) (isS:=false) he h2 h3 b2 b1 (Eo len) w
 refine⟨_,by simp[execOp,ho,Instr.sliceAt,Instr.sureAddr,run_underlying ht,hq,hb,iT hn];rfl,?_⟩
 by_cases hc:len=i
 ·rw[if_pos hc]
  obtain rfl:i=0:=by omega
  simpa using qp.ms b q (j-0) r (len-0) hr (by omega)
 ·rw[if_neg hc]
  simp only[add_lit]
  exact .ms _ _ _ _ _ hr (by omega)
theorem q0d (s:List UInt8)(i j:Nat):(⟨⟨s⟩⟩:ByteArray).extract i j=⟨⟨(s.take j).drop i⟩⟩:=by
 apply ByteArray.ext
 rw[ByteArray.data_extract]
 apply Gh
 simp[List.extract_eq_take_drop,List.drop_take]
theorem q19 {t:TypeId}{x:Operand}{lo hi:Option Operand}{x':qf}{li fH:Option qf}{i j:Nat}{s:List UInt8}(he:aW C env a.tmps)(ho:o.op=.slice t x lo hi Ev)(ht:P.underlying t=I .string)
  (h1:zr x=I x') (h2:mC lo=I li) (h3:mC hi=I fH) (e1:zd env x'=I (.str s)) (b2:eX env s.length s.length fH=I j) (b1:eX env 0 j li=I i):Val P C a o w (.str ((s.take j).drop i)):=by
 have hq:=(zt he h1 e1).bW
 obtain⟨hb,k1,k2⟩:=Mp (P:=P) (isS:=false) he h2 h3 b2 b1 (Eo s.length) w
 have cD:(⟨⟨s⟩⟩:ByteArray).size=s.length:=rfl
 refine⟨.string ⟨⟨(s.take j).drop i⟩⟩,?_,.str _⟩
 simp[execOp,ho,Instr.sliceAt,Instr.slice,run_underlying ht,hq,cD,hb,q0d]
theorem q9w {k:Nat}{xs ys:Array Operand}{fq nz:List qf}{us vs:List qa}(he:aW C env a.tmps)(ho:o.op=.makeFunc (.func k) xs ys)(h1:oQ xs.toList=I fq)(h2:oQ ys.toList=I nz)(e1:fE env fq=I us)(e2:fE env nz=I vs):
  Val P C a o w (.fn (.func k) us vs):=by
 refine⟨.func (.func k) (xs.map a.eval) (ys.map a.eval),by simp[execOp,ho,Instr.makeFunc],?_⟩
 have r1:=Dr he h1 e1
 have r2:=Dr he h2 e2
 have q1:xs.map a.eval=⟨xs.toList.map a.eval⟩:=by apply Gh;simp
 have q2:ys.map a.eval=⟨ys.toList.map a.eval⟩:=by apply Gh;simp
 rw[q1,q2]
 exact .fn _ _ _ _ _ _ rfl r1 r2
theorem Sm {c:Call}{x:Operand}{t:TypeId}{x':qf}{p:qa}{n:Nat}(he:aW C env a.tmps)(ho:o.op=.call c)(dA:c.callee=.builtin .len)(dL:c.args.toList=[x])(ea:c.argTypes.toList=[t])
  (h1:zr x=I x') (e1:zd env x'=I p)
  (hv:(P.underlying t=I .string∧∃s,p=.str s∧n=s.length)∨((∃e,P.underlying t=I (.slice e))∧((∃nl sz xs,p=.list nl sz xs∧n=xs.length)∨(∃b q,p=.ms b q n)))):Val P C a o w (.int .i64 n):=by
 have ha:c.args=#[x]:=by apply Gh;simpa using dL
 have jW:c.argTypes=#[t]:=by apply Gh;simpa using ea
 refine⟨.int .i64 n,?_,.int _ _⟩
 simp only[execOp,ho,resolve,dA,ha,jW,Sem.run_bind,Sem.run_pure,Result.andThen_ok,invoke,builtin,Builtin.len_]
 rcases hv with⟨ht,s,rfl,rfl⟩|⟨⟨e,ht⟩,⟨nl,sz,xs,rfl,rfl⟩|⟨b,q,rfl⟩⟩
 ·have hq:=(zt he h1 e1).bW
  simp[run_underlying ht,hq,goInt]
  rfl
 ·obtain⟨b,cap,hq⟩:=(zt he h1 e1).len
  simp[run_underlying ht,hq,goInt]
 ·obtain⟨r,cap,_,_,hq⟩:=(zt he h1 e1).ey
  simp[run_underlying ht,hq,goInt]
theorem Sn {f:qa→qa→Option qa}{g:Value→Value→Sem Value}(hfg:∀x y z u v,f x y=I z→bC C x u→bC C y v→∃q,(g u v).run P w=.ok q w∧bC C z q):
  ∀(ys:List qa) (x z:qa) (u:Value) (vs:List Value),ni f x ys=I z→bC C x u→aK C ys vs→∃q,(vs.foldlM g u).run P w=.ok q w∧bC C z q
 | [],x,z,u,vs,h,hx,hy=>by
  cases hy
  simp[ni]at h;subst h
  exact⟨u,rfl,hx⟩
 |y::ys,x,z,u,vs,h,hx,hy=>by
  cases hy with
  |cons _ _ v vs hy hr=>
   simp only[ni]at h
   split at h
   ·rename_i z1 lj
    obtain⟨q,hq,rq⟩:=hfg x y z1 u v lj hx hy
    obtain⟨q2,hq2,rq2⟩:=Sn hfg ys z1 z q vs h rq hr
    exact⟨q2,by simp[List.foldlM_cons,hq,hq2],rq2⟩
   ·cases h
theorem jbl {c:Call}{fq:List qf}{p v:qa}{ps:List qa}{mx:Bool}(he:aW C env a.tmps)(ho:o.op=.call c)(dA:c.callee=.builtin (if mx then .max else .min))(h1:oQ c.args.toList=I fq)(e1:fE env fq=I (p::ps))
  (hv:ni (if mx then max2 else min2) p ps=I v):Val P C a o w v:=by
 have r1:=Dr he h1 e1
 have dS:(c.args.map a.eval).toList=c.args.toList.map a.eval:=by simp
 cases mx
 ·generalize hl:c.args.toList.map a.eval=l at r1
  cases r1 with
  |cons _ _ u us hu fT=>
   obtain⟨q,hq,rq⟩:=Sn (P:=P) (w:=w) (C:=C) (f:=min2) (g:=Builtin.min2) (fun x y z u v h hx hy=>by
    unfold min2 at h
    split at h<;>first|cases h|skip
    rename_i k n k' m
    by_cases hk:k=k'
    ·subst hk;simp at h;subst h
     obtain rfl:=hx.bF
     obtain rfl:=hy.bF
     exact⟨_,rfl,.int _ _⟩
    ·simp[hk]at h) ps p v u us (by simpa using hv) hu fT
   refine⟨q,?_,rq⟩
   simp only[E5,if_false]at dA
   simp[execOp,ho,resolve,dA,invoke,builtin,Builtin.min_,hl,hq]
 ·generalize hl:c.args.toList.map a.eval=l at r1
  cases r1 with
  |cons _ _ u us hu fT=>
   obtain⟨q,hq,rq⟩:=Sn (P:=P) (w:=w) (C:=C) (f:=max2) (g:=Builtin.max2) (fun x y z u v h hx hy=>by
    unfold max2 at h
    split at h<;>first|cases h|skip
    rename_i k n k' m
    by_cases hk:k=k'
    ·subst hk;simp at h;subst h
     obtain rfl:=hx.bF
     obtain rfl:=hy.bF
     exact⟨_,rfl,.int _ _⟩
    ·simp[hk]at h) ps p v u us (by simpa using hv) hu fT
   refine⟨q,?_,rq⟩
   simp only[if_true]at dA
   simp[execOp,ho,resolve,dA,invoke,builtin,Builtin.max_,hl,hq]
theorem q5n {x:Operand}{x':qf}{i:Nat}{vs:List qa}{v:qa}(he:aW C env a.tmps)(ho:o.op=.extract x i)(h1:zr x=I x')(e1:zd env x'=I (.az vs))(hv:vs[i]?=I v):Val P C a o w v:=by
 obtain⟨us,hu,ru⟩:=(zt he h1 e1).ny
 obtain⟨u,h1,h2⟩:=ru.get hv
 exact⟨u,by simp[execOp,ho,hu,Instr.extract,h1],h2⟩
end
section
variable {P:Program}{C:ax}{w:World}{env:Env}{a:Act}{o:Oper}
theorem zK {x:qa}{v:Value}(h:bC C x v)(hs:x.flat.all ze=Gl):aK C x.flat v.cells.toList:=by
 cases h<;>first
  |(simp only[qa.flat,Value.cells];exact .cons _ _ _ _ (by constructor<;>assumption) .nil)
  |skip
 ·simpa[qa.flat,Value.cells]
 all_goals first|done|exact absurd hs (by simp[qa.flat,ze])|skip
theorem qzj (off:Nat):∀(l:List Value) (k:Nat) (cs:Array Value),off+k+l.length≤cs.size →
  ((l.zipIdx k).foldl (fun cs (x:Value×Nat)=>cs.setIfInBounds (off+x.2) x.1) cs).toList=cs.toList.take (off+k)++l++cs.toList.drop (off+k+l.length)
 | [],k,cs,_=>by simp
 |v::l,k,cs,h=>by
  simp only[List.zipIdx_cons,List.foldl_cons]
  simp at h
  rw[qzj off l (k+1) (cs.setIfInBounds (off+k) v) (by simp;omega)]
  have aY:off+k<cs.toList.length:=by simp;omega
  rw[Array.toList_setIfInBounds]
  have e1:(cs.toList.set (off+k) v).take (off+(k+1))=cs.toList.take (off+k)++[v]:=by
   rw[←Hb,List.take_succ_eq_append_getElem (by simpa using aY),List.take_set,List.set_eq_of_length_le (by simp;omega),List.getElem_set_self]
  have e2:(cs.toList.set (off+k) v).drop (off+(k+1)+l.length)=cs.toList.drop (off+k+(v::l).length):=by
   rw[List.drop_set_of_lt (by omega)]
   congr 1
   simp;omega
  rw[e1,e2]
  simp
inductive jk (C:ax)(place:Nat→Option (Nat×Nat)):List (Nat×Value)→List (Nat×List qa)→Prop where
 |nil:jk C place [] []
 |cons (i:Nat) (v:Value) (off:Nat) (vs:List qa) (ps:List (Nat×Value)) (qs:List (Nat×List qa)) (h1:place i=I (off,vs.length)) (h2:aK C vs v.cells.toList) (h:jk C place ps qs):jk C place ((i,v)::ps) ((off,vs)::qs)
theorem Mq {place:Nat→Option (Nat×Nat)}:∀(ps:List (Nat×Value)) (qs:List (Nat×List qa)) (xs ys:List qa) (cs:Array Value),aK C xs cs.toList→jC xs qs=I ys →
  jk C place ps qs →
  ∃ds,Instr.fill place cs ps=I ds∧aK C ys ds.toList
 | [],qs,xs,ys,cs,hx,hf,hp=>by
  cases hp
  simp[jC]at hf
  subst hf
  exact⟨cs,rfl,hx⟩
 |_::ps,qs,xs,ys,cs,hx,hf,hp=>by
  cases hp with
  |cons i v off vs _ qs Fc hr htl=>
   simp only[jC]at hf
   cases hb:Gm (off+vs.length) xs.length with
   |false=>simp[hb]at hf
   |true=>
    simp only[hb,cT]at hf
    have hle:=El hb
    have gO:=hx.length
    have n6:=hr.length
    simp at gO n6
    have pL:=qzj off v.cells.toList 0 cs (by simp;omega)
    have hz:v.cells.zipIdx.foldl (fun cs (x:Value×Nat)=>cs.setIfInBounds (off+x.2) x.1) cs=(v.cells.toList.zipIdx 0).foldl (fun cs (x:Value×Nat)=>cs.setIfInBounds (off+x.2) x.1) cs:=by
     rw[←Array.foldl_toList,Array.toList_zipIdx]
    obtain⟨ds,h1,h2⟩:=Mq (place:=place) ps qs _ ys (v.cells.zipIdx.foldl (fun cs (x:Value×Nat)=>cs.setIfInBounds (off+x.2) x.1) cs) (by
     rw[hz,pL]
     simp only[Nat.add_zero,Array.length_toList,n6]
     exact aK.append (aK.append (hx.take off) hr) (hx.drop _)) hf htl
    refine⟨ds,?_,h2⟩
    simp only[Instr.fill,Fc]
    rw[if_neg (by simp;omega)]
    exact h1
theorem So {place:Nat→Option (Nat×Nat)}(he:aW C env a.tmps):∀(ps:List (Nat×Operand)) (ft:List (Nat×Nat×qf)) (qs:List (Nat×List qa)),wY P place ps=I ft→la env ft=I qs →
  jk C place (ps.map fun x=>(x.1,a.eval x.2)) qs
 | [],ft,qs,hc,hv=>by
  simp[wY]at hc;subst hc
  simp[la]at hv;subst hv
  exact .nil
 |(i,x)::ps,ft,qs,hc,hv=>by
  simp only[wY]at hc
  split at hc
  ·rename_i off n y r Fc hy hr
   cases hc
   simp only[la]at hv
   split at hv
   ·rename_i v nx
    cases hb:(Nat.beq v.flat.length n&&v.flat.all ze)with
    |false=>simp[hb]at hv
    |true=>
     simp only[hb,cT]at hv
     simp only[Gn]at hb
     split at hv
     ·rename_i r' jE
      cases hv
      have hl:=Gk hb.1
      exact .cons _ _ _ _ _ _ (by rw[Fc,hl]) (zK (zt he hy nx) hb.2) (So he ps r r' hr jE)
     ·cases hv
   ·cases hv
  ·cases hc
theorem qz2 {t:TypeId}{z:List qa}(h:ek P t=I z)(w:World):∃v,(zeroValue t).run P w=.ok v w∧aK C z v.cells.toList∧∃i,P.info? t=I i∧i.zero=I v:=by
 unfold ek at h
 split at h
 ·rename_i i hi
  split at h
  ·rename_i v hv
   exact⟨v,by simp[zeroValue,typeInfo,hi,hv],Mg C h,i,hi,hv⟩
  ·cases h
 ·cases h
theorem qtq {fs:Array Field}(w:World):∀(l:List Field),(∀f∈l,(yh P f.type).isSome)→(l.mapM fun(f:Field)=>(do pure (f.offset,←sizeOf f.type):Sem (Nat×Nat))).run P w=.ok (l.map fun f=>(f.offset,(yh P f.type).getD 0)) w
 | [],_=>rfl
 |f::l,h=>by
  obtain⟨n,hn⟩:=Gc.1 (h f (by simp))
  simp only[List.mapM_cons,Sem.run_bind,iT hn,Result.andThen_ok,Sem.run_pure,qtq (fs:=fs) w l (fun g hg=>h g (by simp[hg])),Ht,hn,Option.getD_some]
theorem qv1 {t:TypeId}{ps:Array (Nat×Operand)}{fs:Array Field}{z:List qa}{ft:List (Nat×Nat×qf)}{qs:List (Nat×List qa)}{cs:List qa}(he:aW C env a.tmps)(ho:o.op=.build t ps)(ht:P.underlying t=I (.struct fs))(hz:ek P t=I z)
  (hall:∀f∈fs.toList,(yh P f.type).isSome) (lT:wY P (fun i=>match fs[i]? with|some f=>(yh P f.type).map fun n=>(f.offset,n)|none=>Ev) ps.toList=I ft) (hq:la env ft=I qs) (hf:jC z qs=I cs):Val P C a o w (.agg cs):=by
 obtain⟨zv,kQ,cw,_⟩:=qz2 (C:=C) hz w
 have hm:=qtq (P:=P) (fs:=fs) w fs.toList hall
 have pM:=So (P:=P) he ps.toList ft qs lT hq
 have zL:(fun(i:Nat)=>match fs[i]? with|some f=>(yh P f.type).map fun n=>(f.offset,n)|none=>Ev)=fun(i:Nat)=>((fs.toList.map fun f=>(f.offset,(yh P f.type).getD 0)).toArray)[i]?:=by
  funext i
  have hm:∀f,fs[i]?=I f→f∈fs.toList:=fun f h=>by rw[Array.mem_toList_iff];exact Array.mem_of_getElem? h
  obtain⟨l⟩:=fs
  simp only[Gi,List.getElem?_map]at hm ⊢
  cases h:l[i]? with
  |none=>rfl
  |some f=>
   obtain⟨n,hn⟩:=Gc.1 (hall f (hm f h))
   simp[hn]
 rw[zL]at pM
 obtain⟨ds,hd,hr⟩:=Mq (ps.toList.map fun x=>(x.1,a.eval x.2)) qs z cs zv.cells cw hf pM
 refine⟨.agg ds,?_,.agg cs ds.toList hr⟩
 have ll:(fs.mapM fun(f:Field)=>(do pure (f.offset,←sizeOf f.type):Sem (Nat×Nat))).run P w=.ok ((fs.toList.map fun f=>(f.offset,(yh P f.type).getD 0)).toArray) w:=by
  rw[Array.mapM_eq_mapM_toList]
  simp only[Sem.run_map]
  rw[hm]
  rfl
 have ul:(ps.map fun(x:Nat×Operand)=>(x.1,a.eval x.2)).toList=ps.toList.map fun x=>(x.1,a.eval x.2):=by simp
 simp only[execOp,ho,Instr.build,Sem.run_bind,kQ,Result.andThen_ok,run_underlying ht,ll,ul,hd,Sem.run_pure]
theorem qy7 {t e:TypeId}{ps:Array (Nat×Operand)}{len n:Nat}{z:List qa}{ft:List (Nat×Nat×qf)}{qs:List (Nat×List qa)}{cs:List qa}(he:aW C env a.tmps)(ho:o.op=.build t ps)(ht:P.underlying t=I (.array len e))(hz:ek P t=I z)
  (hn:yh P e=I n) (lT:wY P (fun i=>I (i*n,n)) ps.toList=I ft) (hq:la env ft=I qs) (hf:jC z qs=I cs):Val P C a o w (.agg cs):=by
 obtain⟨zv,kQ,cw,_⟩:=qz2 (C:=C) hz w
 have pM:=So (P:=P) he ps.toList ft qs lT hq
 obtain⟨ds,hd,hr⟩:=Mq (ps.toList.map fun x=>(x.1,a.eval x.2)) qs z cs zv.cells cw hf pM
 refine⟨.agg ds,?_,.agg cs ds.toList hr⟩
 have ul:(ps.map fun(x:Nat×Operand)=>(x.1,a.eval x.2)).toList=ps.toList.map fun x=>(x.1,a.eval x.2):=by simp
 simp only[execOp,ho,Instr.build,Sem.run_bind,kQ,Result.andThen_ok,run_underlying ht,iT hn,ul,hd,Sem.run_pure]
theorem qp1 {sz:Nat}(he:aW C env a.tmps):∀(ps:List (Nat×Operand)) (ft:List (Nat×qf)) (qs:List (Nat×qa)),wZ ps=I ft→iF env sz ft=I qs →
  jk C (fun i=>I (i*sz,sz)) (ps.map fun x=>(x.1,a.eval x.2)) (qs.map fun x=>(x.1*sz,x.2.flat))∧∀q∈qs,q.2.flat.length=sz
 | [],ft,qs,hc,hv=>by
  simp[wZ]at hc;subst hc
  simp[iF]at hv;subst hv
  exact⟨.nil,by simp⟩
 |(i,x)::ps,ft,qs,hc,hv=>by
  simp only[wZ]at hc
  split at hc
  ·rename_i y r hy hr
   cases hc
   simp only[iF]at hv
   split at hv
   ·rename_i v nx
    cases hb:(Nat.beq v.flat.length sz&&v.flat.all ze)with
    |false=>simp[hb]at hv
    |true=>
     simp only[hb,cT]at hv
     simp only[Gn]at hb
     split at hv
     ·rename_i r' jE
      cases hv
      have hl:=Gk hb.1
      obtain⟨h1,h2⟩:=qp1 he ps r r' hr jE
      refine⟨.cons _ _ _ _ _ _ (by rw[hl]) (zK (zt he hy nx) hb.2) h1,?_⟩
      intro q hq
      rcases List.mem_cons.1 hq with rfl|hq
      ·exact hl
      ·exact h2 q hq
     ·cases hv
   ·cases hv
  ·cases hc
theorem qts {sz:Nat}:∀(xs:List qa) (i:Nat) (v:qa),(∀x∈xs,x.flat.length=sz)→v.flat.length=sz→i<xs.length →
  (xs.set i v).flatMap qa.flat=(xs.flatMap qa.flat).take (i*sz)++v.flat++(xs.flatMap qa.flat).drop (i*sz+sz)
 | [],i,v,_,_,h=>by simp at h
 |x::xs,0,v,hl,hv,_=>by
  simp only[List.set_cons_zero,Gb,Nat.zero_mul,List.take_zero,List.nil_append,Nat.zero_add]
  rw[List.drop_append_of_le_length (by rw[hl x (by simp)];exact Eo _),Eh (by rw[hl x (by simp)];exact Eo _)]
  simp
 |x::xs,i+1,v,hl,hv,h=>by
  simp only[List.set_cons_succ,Gb]
  rw[qts xs i v (fun y hy=>hl y (by simp[hy])) hv (by simpa using h)]
  have hx:=hl x (by simp)
  have e1:(i+1)*sz=x.flat.length+i*sz:=by rw[hx,En];omega
  have t1:List.take (x.flat.length+i*sz) (x.flat++xs.flatMap qa.flat)=x.flat++(xs.flatMap qa.flat).take (i*sz):=List.take_length_add_append _
  have t2:List.drop (x.flat.length+i*sz+sz) (x.flat++xs.flatMap qa.flat)=(xs.flatMap qa.flat).drop (i*sz+sz):=by
   rw[Hb];exact List.drop_length_add_append _
  rw[e1,t1,t2]
  simp
theorem lm {sz:Nat}:∀(xs:List qa),(∀x∈xs,x.flat.length=sz)→(xs.flatMap qa.flat).length=xs.length*sz
 | [],_=>by simp
 |x::xs,h=>by
  simp only[Gb,List.length_append,List.length_cons]
  rw[lm xs (fun y hy=>h y (by simp[hy])),h x (by simp),En];omega
theorem qxn {sz:Nat}:∀(qs:List (Nat×qa)) (xs ys:List qa),lb xs qs=I ys→(∀x∈xs,x.flat.length=sz)→(∀q∈qs,q.2.flat.length=sz) →
  jC (xs.flatMap qa.flat) (qs.map fun x=>(x.1*sz,x.2.flat))=I (ys.flatMap qa.flat)∧(∀y∈ys,y.flat.length=sz)∧ys.length=xs.length
 | [],xs,ys,h,hx,_=>by simp[lb]at h;subst h;exact⟨rfl,hx,rfl⟩
 |(i,v)::qs,xs,ys,h,hx,hq=>by
  simp only[lb]at h
  cases hb:Nat.blt i xs.length with
  |false=>simp[hb]at h
  |true=>
   simp only[hb,cT]at h
   have aY:i<xs.length:=by have:=El hb;omega
   have hv:=hq (i,v) (by simp)
   obtain⟨h1,h2,h3⟩:=qxn qs (xs.set i v) ys h (fun y hy=>by
    rcases List.mem_or_eq_of_mem_set hy with h|rfl
    ·exact hx y h
    ·exact hv) (fun q h=>hq q (by simp[h]))
   refine⟨?_,h2,by simpa using h3⟩
   have hl:=lm xs hx
   have hle:i*sz+sz≤xs.length*sz:=by rw[←En];exact Nat.mul_le_mul_right _ aY
   simp only[Ht,jC]
   rw[show Gm (i*sz+v.flat.length) (xs.flatMap qa.flat).length=Gl from by rw[Nat.ble_eq];simp only at hv;omega]
   simp only[cT]
   rw[qts xs i v hx hv aY]at h1
   simp only at hv
   rw[hv]
   exact h1
end
end Go.Abs
