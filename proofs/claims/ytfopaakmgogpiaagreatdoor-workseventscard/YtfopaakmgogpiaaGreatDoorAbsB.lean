/- One operation. -/
import Derived.Test.YtfopaakmgogpiaaGreatDoorAbsA
import Derived.Laws.StructEq
import Derived.Laws.Strings
import Derived.ChangeKeysEq
import Derived.Lib.SliceRun
import Derived.WalkSpells
import Derived.Laws.Cover3
import Derived.Laws.Pointers
set_option linter.unusedVariables false
set_option linter.unusedSimpArgs false
open Option renaming some→I,none→E4,isSome_iff_exists→Ga,map_some→Gz
open List renaming drop_eq_nil_of_le→Ef,flatMap_cons→E9,getElem?_toArray→Gc,replicate→Ha,map_cons→Hq
open Nat renaming le_of_ble_eq_true→En,succ_mul→E1,le_refl→E3,eq_of_beq_eq_true→Gd,ble→Gm,add_assoc→Hh
open Bool renaming false_eq_true→E6,false→E7,true→Ge,and_eq_true→Gy,not_true→Hb,xor→H6
open Array renaming ext'→Gb
namespace Go.Abs
def kf (P:Program)(C0:ay)(w0:World)(C:ay)(tmps:Array Value)(d:Loc)(env:Env)(res:qq)(v:Value)(w':World):Prop:=
 ∃C' ω',C.le C'∧av P C' ω' w0 C0 res.heap w'∧aj C' ω' w' w0.heap.size (kz env res.strip) tmps∧bF C' res.v v∧(res.own=Ge→aF C' ω' w' w0.heap.size d res.v v)
theorem qwj (C:ay){v:Value}{x:qa}(h:De v=I x):bF C x v:=by
 unfold De at h
 split at h<;>first|cases h|skip
 ·exact .bool _
 ·exact .int _ _
 ·exact .str _
 ·exact .iI _
 ·exact .bO
 ·exact .bN
 ·exact .bY
theorem L6 (C:ay):∀ {vs:List Value} {xs:List qa},vj vs=I xs→aM C xs vs
 | [],xs,h=>by simp[vj]at h;subst h;exact .nil
 |v::vs,xs,h=>by
  simp only[vj]at h
  split at h
  ·rename_i x hx
   split at h
   ·rename_i ys mE
    cases h
    exact .cons _ _ _ _ (qwj C hx) (L6 C mE)
   ·cases h
  ·cases h
theorem qt9 (C:ay){v:Value}{x:qa}(h:ofValue v=I x):bF C x v:=by
 unfold ofValue at h
 split at h
 ·rename_i cs
  split at h
  ·rename_i xs hx
   cases h
   exact .agg _ _ (L6 C hx)
  ·cases h
 ·exact qwj C h
section
variable {P:Program}{C C0:ay}{ω:Nat→Option Loc}{w w0:World}{hp:j8}{env:Env}{a:Act}{B:Nat}
theorem zt {x:Operand}{y:qh}{v:qa}(he:aW C env a.tmps)(hc:zq x=I y)(hv:zc env y=I v):bF C v (a.eval x):=by
 cases x with
 |tmp t=>
  simp only[zq]at hc
  cases hc
  simp only[zc]at hv
  split at hv
  ·rename_i x hx
   cases hv
   obtain⟨u,h1,h2⟩:=he t x hx
   have:a.eval (.tmp t)=u:=by simp[Act.eval,Array.getD_eq_getD_getElem?,h1]
   rw[this];exact h2
  ·cases hv
 |const u=>
  simp only[zq]at hc
  split at hc
  ·rename_i z hz
   cases hc
   simp only[zc]at hv
   cases hv
   exact qt9 C hz
  ·cases hc
 |func f=>
  simp only[zq]at hc
  cases hc
  simp only[zc]at hv
  cases hv
  exact .fn (.func f) (.func f) [] [] [] [] rfl .nil .nil
 |global g=>simp[zq]at hc
theorem Dm (he:aW C env a.tmps):∀ {xs:List Operand} {ys:List qh} {vs:List qa},oV xs=I ys→fF env ys=I vs→aM C vs (xs.map a.eval)
 | [],ys,vs,hc,hv=>by simp[oV]at hc;subst hc;simp[fF]at hv;subst hv;exact .nil
 |x::xs,ys,vs,hc,hv=>by
  simp only[oV]at hc
  split at hc
  ·rename_i y hy
   split at hc
   ·rename_i zs pJ
    cases hc
    simp only[fF]at hv
    split at hv
    ·rename_i v iK
     split at hv
     ·rename_i us gy
      cases hv
      exact .cons _ _ _ _ (zt he hy iK) (Dm he pJ gy)
     ·cases hv
    ·cases hv
   ·cases hc
  ·cases hc
theorem bF.cV {b:Bool}{v:Value}(h:bF C (.bool b) v):v=.bool b:=by cases h;rfl
theorem bF.bH {k:IntKind}{n:Int}{v:Value}(h:bF C (.int k n) v):v=.int k n:=by cases h;rfl
theorem bF.bX {s:List UInt8}{v:Value}(h:bF C (.str s) v):v=.string ⟨⟨s⟩⟩:=by cases h;rfl
theorem bF.cW {b o:Nat}{v:Value}(h:bF C (.ptr b o) v):∃r,C.β b=I r∧v=.pointer (I ⟨r,o,E4⟩):=by cases h;exact⟨_,‹_›,rfl⟩
theorem bF.ew {x:qa}{v:Value}(h:bF C (.ah x) v):∃r o,v=.pointer (I ⟨r,o,E4⟩)∧bZ C r x.flat o:=by cases h;exact⟨_,_,rfl,‹_›⟩
theorem bF.dX {cs:List qa}{v:Value}(h:bF C (.agg cs) v):∃vs,v=.agg ⟨vs⟩∧aM C cs vs:=by cases h;exact⟨_,rfl,‹_›⟩
theorem bF.nE {cs:List qa}{v:Value}(h:bF C (.aB cs) v):∃vs,v=.tuple ⟨vs⟩∧aM C cs vs:=by cases h;exact⟨_,rfl,‹_›⟩
theorem bF.ey {b o len:Nat}{v:Value}(h:bF C (.ms b o len) v):∃r cap,C.β b=I r∧len≤cap∧v=.slice (I ⟨r,o,E4⟩) len cap:=by cases h;exact⟨_,_,‹_›,‹_›,rfl⟩
theorem bF.cG {n:Bool}{sz:Nat}{xs:List qa}{v:Value}(h:bF C (.list n sz xs) v):
  (n=Ge∧xs=[]∧v=.slice E4 0 0)∨(n=E7∧∃r o cap,v=.slice (I ⟨r,o,E4⟩) xs.length cap∧xs.length≤cap∧aX C r sz xs o)∨(n=E7∧xs=[]∧∃a,a.spot≠E4∧v=.slice (I a) 0 0):=by
 cases h
 ·exact .inl ⟨rfl,rfl,rfl⟩
 ·exact .inr (.inl ⟨rfl,_,_,_,rfl,‹_›,‹_›⟩)
 ·exact .inr (.inr ⟨rfl,rfl,_,‹_›,rfl⟩)
theorem bF.len {n:Bool}{sz:Nat}{xs:List qa}{v:Value}(h:bF C (.list n sz xs) v):∃b cap,v=.slice b xs.length cap:=by
 rcases h.cG with⟨rfl,rfl,rfl⟩|⟨rfl,r,o,cap,rfl,_,_⟩|⟨rfl,rfl,a,_,rfl⟩
 ·exact⟨E4,0,rfl⟩
 ·exact⟨_,_,rfl⟩
 ·exact⟨_,_,rfl⟩
theorem add_lit (r o n:Nat):(⟨r,o,E4⟩:Addr).add n=⟨r,o+n,E4⟩:=by unfold Addr.add;split<;>simp_all
theorem zC (k:IntKind)(n:Int):j6 k n=k.wrap n:=by
 unfold j6
 cases h:pE k n with
 |false=>rfl
 |true=>
  simp only[cT]
  symm
  have key:∀m:Nat,IntKind.min k≤n→n≤IntKind.max k→k.wrap n=n:=by
   intro _ h1 h2
   unfold IntKind.wrap
   cases k<;>simp[IntKind.bits,IntKind.signed,IntKind.min,IntKind.max]at *<;>omega
  refine key 0 ?_ ?_
  ·cases k<;>cases n<;>simp[pE,IntKind.min,IntKind.signed,IntKind.bits]at *<;>omega
  ·cases k<;>cases n<;>simp[pE,IntKind.max,IntKind.signed,IntKind.bits]at *<;>omega
theorem Dn {t:TypeId}{b:Bool}(h:fc P t=I b)(w:World):(isAgg t).run P w=.ok b w:=by
 unfold fc at h
 unfold isAgg
 cases hu:P.underlying t with
 |none=>simp[hu]at h
 |some d=>rw[hu]at h;simp[run_underlying hu];cases d<;>simp at h<;>subst h<;>rfl
theorem iL {t:TypeId}{n:Nat}(h:yg P t=I n)(w:World):(sizeOf t).run P w=.ok n w:=by
 unfold yg at h
 cases hi:P.info? t with
 |none=>simp[hi]at h
 |some i=>simp[hi]at h;simp[sizeOf,typeInfo,hi,h]
theorem q2p {t:TypeId}{ag:Bool}{n off:Nat}{cs:List qa}{vs:List Value}{x:qa}(hg:fc P t=I ag)(hn:yg P t=I n)(hp:part ag cs off n=I x)(hr:aM C cs vs)(w:World):
  ∃v,(Go.part t ⟨vs⟩ off).run P w=.ok v w∧bF C x v:=by
 unfold part at hp
 cases ag with
 |true=>
  simp only[cT]at hp
  cases hb:Gm (off+n) cs.length with
  |false=>simp[hb]at hp
  |true=>
   simp[hb]at hp
   subst hp
   refine⟨.agg ⟨(vs.drop off).take n⟩,?_,.agg _ _ ((hr.drop off).take n)⟩
   simp[Go.part,Dn hg,iL hn]
 |false=>
  simp only[cond_false]at hp
  obtain⟨v,h1,h2⟩:=hr.get hp
  exact⟨v,by simp[Go.part,Dn hg,h1],h2⟩
theorem qq8 (a:List UInt8):(⟨⟨a⟩⟩:ByteArray).toList=a:=by
 rw[ByteArray.toList_eq]
end
theorem R7:∀ {ks:List Kd} {xs ys:List qa} (EX:List Kd) (fq nF:List qa),xs.length=ks.length→ys.length=ks.length →
  ky (ks++EX) (xs++fq) (ys++nF)=match ky ks xs ys with|some Ge=>ky EX fq nF|r=>r
 | [],[],[],EX,fq,nF,_,_=>by simp[ky]
 |k::ks,x::xs,y::ys,EX,fq,nF,h,h'=>by
  simp only[List.cons_append,ky]
  cases he:kY k x y with
  |none=>simp
  |some b=>cases b with
   |false=>simp
   |true=>simpa using R7 EX fq nF (by simpa using h) (by simpa using h')
 | [],_::_,_,_,_,_,h,_=>by simp at h
 | [],[],_::_,_,_,_,_,h=>by simp at h
 |_::_,[],_,_,_,_,h,_=>by simp at h
 |_::_,_::_,[],_,_,_,_,h=>by simp at h
def ua (ag:Bool)(us:List Value):Value:=if ag then .agg ⟨us⟩else us.headD undef
def L7:TypeDesc→Bool
 | .struct _=>Ge
 | .array _ _=>Ge
 |_=>E7
section
variable {P:Program}{C:ay}
theorem jbt {t:TypeId}{d:TypeDesc}(h:P.underlying t=I d):fc P t=I (L7 d):=by
 unfold fc
 rw[h]
 cases d<;>rfl
theorem L8 {t:TypeId}{ag:Bool}{n off:Nat}{us:List Value}(hg:fc P t=I ag)(hn:yg P t=I n)(h1:ag=E7→n=1)(hl:off+n≤us.length)(w:World):
  (Go.part t ⟨us⟩ off).run P w=.ok (ua ag ((us.drop off).take n)) w:=by
 cases ag with
 |true=>simp[Go.part,Dn hg,iL hn,ua]
 |false=>
  obtain rfl:=h1 rfl
  have aY:off<us.length:=by omega
  simp only[Go.part,Sem.run_bind,Dn hg,Result.andThen_ok,ua,E6,if_false]
  have e:(⟨us⟩:Array Value)[off]?=I us[off]:=by
   show(List.toArray us)[off]?=_
   rw[Gc,List.getElem?_eq_getElem aY]
  rw[e,List.drop_eq_getElem_cons aY]
  rfl
def R8 (P:Program)(C:ay)(n:Nat)(t:TypeId)(ks:List Kd):Prop:=
 ∃ag,fc P t=I ag∧yg P t=I ks.length∧(ag=E7→ks.length=1)∧∀d,n≤d→∀xs ys us vs b w,aM C xs us→aM C ys vs→xs.length=ks.length→ys.length=ks.length→ky ks xs ys=I b →
  (Op.equalIn d t (ua ag us) (ua ag vs)).run P w=.ok b w
theorem L9 {α:Type}(xs:List α)(off n:Nat):xs.drop off=(xs.drop off).take n++xs.drop (off+n):=by
 rw[←List.drop_drop];exact(List.take_append_drop _ _).symm
theorem quf {n d:Nat}(hd:n≤d):∀(fs:List Field) (off:Nat) (ks:List Kd) (xs ys:List qa) (us vs:List Value) (b:Bool) (w:World),
  EP (tZ P n) off fs=I ks →
  (∀f∈fs,∀ks,tZ P n f.type=I ks→R8 P C n f.type ks) →
  aM C xs us→aM C ys vs→xs.length=off+ks.length→ys.length=off+ks.length→ky ks (xs.drop off) (ys.drop off)=I b →
  (Op.eqFields d ⟨us⟩ ⟨vs⟩ fs).run P w=.ok b w
 | [],off,ks,xs,ys,us,vs,b,w,hf,_,hx,hy,mF,n8,he=>by
  simp[EP]at hf
  subst hf
  rw[Ef (by simp at mF;omega),Ef (by simp at n8;omega)]at he
  simp[ky]at he
  subst he
  simp[Op.eqFields]
 |f::fs,off,ks,xs,ys,us,vs,b,w,hf,dj,hx,hy,mF,n8,he=>by
  simp only[EP]at hf
  split at hf
  ·rename_i hc
   simp at hc
   obtain⟨EY,vm⟩:=hc
   split at hf
   ·rename_i k1 fY
    split at hf
    ·rename_i k2 cY
     cases hf
     obtain⟨ag,cL,cD,h1,heq⟩:=dj f (by simp) k1 fY
     have R9:=hx.length
     have vn:=hy.length
     simp at mF n8
     have p1:=L8 (P:=P) (us:=us) (off:=f.offset) cL cD h1 (by omega) w
     have p2:=L8 (P:=P) (us:=vs) (off:=f.offset) cL cD h1 (by omega) w
     rw[L9 xs off k1.length,L9 ys off k1.length,R7 _ _ _ (by simp;omega) (by simp;omega)]at he
     simp only[Op.eqFields,ne_eq,EY,not_false_eq_true,if_true,Sem.run_bind,p1,p2,Result.andThen_ok]
     rw[vm]
     cases hb:ky k1 ((xs.drop off).take k1.length) ((ys.drop off).take k1.length)with
     |none=>rw[hb]at he;cases he
     |some b1=>
      rw[hb]at he
      rw[heq d hd _ _ _ _ b1 w ((hx.drop off).take _) ((hy.drop off).take _) (by simp;omega) (by simp;omega) hb]
      cases b1 with
      |false=>simp at he;subst he;simp
      |true=>
       simp only[Result.andThen_ok,Hb,E6,if_false]
       exact quf hd fs (off+k1.length) k2 xs ys us vs b w cY (fun g hg=>dj g (by simp[hg])) hx hy (by omega) (by omega) he
    ·cases hf
   ·cases hf
  ·cases hf
theorem qwg {n d:Nat}(hd:n≤d){e:TypeId}{ag:Bool}{k1:List Kd}(cL:fc P e=I ag)(cD:yg P e=I k1.length)(h1:ag=E7→k1.length=1)
  (heq:∀d,n≤d→∀xs ys us vs b w,aM C xs us→aM C ys vs→xs.length=k1.length→ys.length=k1.length→ky k1 xs ys=I b→(Op.equalIn d e (ua ag us) (ua ag vs)).run P w=.ok b w):
  ∀(len i:Nat) (xs ys:List qa) (us vs:List Value) (b:Bool) (w:World),
  aM C xs us→aM C ys vs→xs.length=i*k1.length+len*k1.length→ys.length=i*k1.length+len*k1.length→ky (Ha len k1).flatten (xs.drop (i*k1.length)) (ys.drop (i*k1.length))=I b →
  (Op.eqItems d e k1.length ⟨us⟩ ⟨vs⟩ (List.range' i len)).run P w=.ok b w
 |0,i,xs,ys,us,vs,b,w,hx,hy,mF,n8,he=>by
  rw[Ef (by simp at mF;omega),Ef (by simp at n8;omega)]at he
  simp[ky]at he
  subst he
  simp[Op.eqItems]
 |len+1,i,xs,ys,us,vs,b,w,hx,hy,mF,n8,he=>by
  have R9:=hx.length
  have vn:=hy.length
  rw[E1]at mF n8
  have p1:=L8 (P:=P) (us:=us) (off:=i*k1.length) cL cD h1 (by omega) w
  have p2:=L8 (P:=P) (us:=vs) (off:=i*k1.length) cL cD h1 (by omega) w
  rw[List.replicate_succ,List.flatten_cons,L9 xs (i*k1.length) k1.length,L9 ys (i*k1.length) k1.length,R7 _ _ _ (by simp;omega) (by simp;omega)]at he
  simp only[List.range'_succ,Op.eqItems,Sem.run_bind,p1,p2,Result.andThen_ok]
  cases hb:ky k1 ((xs.drop (i*k1.length)).take k1.length) ((ys.drop (i*k1.length)).take k1.length)with
  |none=>rw[hb]at he;cases he
  |some b1=>
   rw[hb]at he
   rw[heq d hd _ _ _ _ b1 w ((hx.drop _).take _) ((hy.drop _).take _) (by simp;omega) (by simp;omega) hb]
   cases b1 with
   |false=>simp at he;subst he;simp
   |true=>
    simp only[Result.andThen_ok,Hb,E6,if_false]
    refine qwg hd cL cD h1 heq len (i+1) xs ys us vs b w hx hy (by rw[mF,E1];omega) (by rw[n8,E1];omega) ?_
    rw[E1];exact he
theorem q0x {t:TypeId}{n:Nat}(h:yg P t=I n):P.cellsOf t=n:=by
 unfold yg at h
 unfold Program.cellsOf
 rw[h];rfl
theorem q09 {t:TypeId}{n:Nat}(h:yg P t=I n):∃i,P.info? t=I i∧i.size=n:=by
 unfold yg at h
 cases hi:P.info? t with
 |none=>simp[hi]at h
 |some i=>exact⟨i,rfl,by simpa[hi]using h⟩
theorem q5t {k:Kd}{x y:qa}{b:Bool}(h:ky [k] [x] [y]=I b):kY k x y=I b:=by
 simp only[ky]at h
 split at h<;>simp_all
theorem jcs {xs:List qa}{us:List Value}(h:aM C xs us)(hl:xs.length=1):∃x u,xs=[x]∧us=[u]∧bF C x u:=by
 obtain⟨x,rfl⟩:=List.length_eq_one_iff.1 hl
 cases h with
 |cons _ _ u vs hx h=>cases h;exact⟨x,u,rfl,rfl,hx⟩
theorem q31 {k:Kd}{x y:qa}{b:Bool}{u v:Value}(h:kY k x y=I b)(hx:bF C x u)(hy:bF C y v):
  match k with
  | .int=>∃kd a c,u=.int kd a∧v=.int kd c∧b=(a == c)
  | .str=>∃a c:List UInt8,u=.string ⟨⟨a⟩⟩∧v=.string ⟨⟨c⟩⟩∧b=(a == c)
  | .bool=>∃a c,u=.bool a∧v=.bool c∧b=(a == c):=by
 unfold kY at h
 split at h
 ·rename_i k a k' c
  cases hx;cases hy
  by_cases hk:k=k'
  ·subst hk;simp at h;exact⟨_,_,_,rfl,rfl,h.symm⟩
  ·simp[hk]at h
 ·cases hx;cases hy;cases h;exact⟨_,_,rfl,rfl,rfl⟩
 ·cases hx;cases hy;cases h;exact⟨_,_,rfl,rfl,rfl⟩
 ·cases h
theorem q4s {t:TypeId}{k:Kd}{x y:qa}{b:Bool}{u v:Value}(hk:jP P t=I k)(h:kY k x y=I b)(hx:bF C x u)(hy:bF C y v)(d:Nat)(w:World):
  (Op.equalIn (d+1) t u v).run P w=.ok b w:=by
 have hc:=q31 h hx hy
 unfold jP at hk
 cases hu:P.underlying t with
 |none=>simp[hu]at hk
 |some D=>
  rw[hu]at hk
  cases D<;>simp at hk<;>subst hk<;>simp only[]at hc
  ·obtain⟨a,c,rfl,rfl,rfl⟩:=hc;exact run_equalIn_bool w d t a c hu
  ·obtain⟨kd,a,c,rfl,rfl,rfl⟩:=hc;exact run_equalIn_int w d t kd _ a c hu
  ·obtain⟨a,c,rfl,rfl,rfl⟩:=hc
   rw[run_equalIn_string w d t _ _ hu,qq8,qq8]
theorem Sb:∀ (n:Nat) (t:TypeId) (ks:List Kd),tZ P n t=I ks→R8 P C n t ks
 |0,t,ks,h=>by simp[tZ]at h
 |n+1,t,ks,h=>by
  unfold tZ at h
  cases hu:P.underlying t with
  |none=>simp[hu]at h
  |some D=>
   rw[hu]at h
   have cL:=jbt hu
   have scalar:∀k,ks=[k]→yg P t=I 1→jP P t=I k→L7 D=E7→R8 P C (n+1) t ks:=by
    intro k hks hs hk ha
    subst hks
    refine⟨E7,by rw[cL,ha],hs,fun _=>rfl,?_⟩
    intro d hd xs ys us vs b w hx hy mF n8 he
    obtain⟨d,rfl⟩:∃m,d=m+1:=⟨d-1,by omega⟩
    obtain⟨x,u,rfl,rfl,Dp⟩:=jcs hx mF
    obtain⟨y,v,rfl,rfl,Ma⟩:=jcs hy n8
    exact q4s hk (q5t he) Dp Ma d w
   cases D<;>simp only[]at h<;>first|(simp at h;done)|skip
   case int k=>
    split at h<;>first|cases h|skip
    rename_i hs
    exact scalar .int rfl (by simpa using hs) (by simp[jP,hu]) rfl
   case bool=>
    split at h<;>first|cases h|skip
    rename_i hs
    exact scalar .bool rfl (by simpa using hs) (by simp[jP,hu]) rfl
   case string=>
    split at h<;>first|cases h|skip
    rename_i hs
    exact scalar .str rfl (by simpa using hs) (by simp[jP,hu]) rfl
   case array len e=>
    split at h
    ·rename_i k1 fY
     split at h
     ·rename_i hs
      cases h
      obtain⟨ag,Sc,cD,h1,heq⟩:=Sb n e k1 fY
      have hlen:(Ha len k1).flatten.length=len*k1.length:=by simp[List.length_flatten]
      refine⟨Ge,by simpa[L7]using cL,by rw[hlen];simpa using hs,(fun h=>by cases h),?_⟩
      intro d hd xs ys us vs b w hx hy mF n8 he
      obtain⟨d,rfl⟩:∃m,d=m+1:=⟨d-1,by omega⟩
      obtain⟨i,hi,_⟩:=q09 cD
      simp only[ua,if_true]
      rw[run_equalIn_array w d _ _ hu hi,q0x cD,List.range_eq_range']
      exact qwg (by omega) Sc cD h1 heq len 0 xs ys us vs b w hx hy (by rw[mF,hlen];omega) (by rw[n8,hlen];omega) (by simpa using he)
     ·cases h
    ·cases h
   case struct fs=>
    split at h
    ·rename_i k1 fY
     split at h
     ·rename_i hs
      cases h
      simp at hs
      obtain⟨hso,cD⟩:=hs
      refine⟨Ge,by simpa[L7]using cL,cD,(fun h=>by cases h),?_⟩
      intro d hd xs ys us vs b w hx hy mF n8 he
      obtain⟨d,rfl⟩:∃m,d=m+1:=⟨d-1,by omega⟩
      simp only[ua,if_true]
      have hf:P.fieldsOf t=fs:=by simp[Program.fieldsOf,hu]
      rw[run_equalIn_struct w d t _ _ (by rw[hf];exact hu) hso,hf]
      exact quf (n:=n) (by omega) fs.toList 0 _ xs ys us vs b w fY (fun f _ ks hp=>Sb n f.type ks hp) hx hy (by omega) (by omega) (by simpa using he)
     ·cases h
    ·cases h
end
section
variable {P:Program}{C:ay}{w:World}{env:Env}{a:Act}{o:Oper}
def Val (P:Program)(C:ay)(a:Act)(o:Oper)(w:World)(x:qa):Prop:=∃v,(execOp a.eval o).run P w=.ok (.value v) w∧bF C x v
theorem jea {x:Operand}{y:qh}{v:qa}(he:aW C env a.tmps)(ho:o.op=.move x∨o.op=.assign x)(hc:zq x=I y)(hv:zc env y=I v):Val P C a o w v:=by
 refine⟨a.eval x,?_,zt he hc hv⟩
 rcases ho with ho|ho<;>simp[execOp,ho]
theorem jgh {c x y:Operand}{c' x' y':qh}{b:Bool}{u v:qa}(he:aW C env a.tmps)(ho:o.op=.pick c x y)(h1:zq c=I c')(h2:zq x=I x')(h3:zq y=I y')
  (e1:zc env c'=I (.bool b)) (e2:zc env x'=I u) (e3:zc env y'=I v):Val P C a o w (bif b then u else v):=by
 have r1:=(zt he h1 e1).cV
 have r2:=zt he h2 e2
 have r3:=zt he h3 e3
 refine⟨if b then a.eval x else a.eval y,by simp[execOp,ho,r1,asBool],?_⟩
 cases b<;>simpa
theorem qsp {x:Operand}{y:qh}{v:qa}(he:aW C env a.tmps)(ho:o.op=.nilCheck x)(hc:zq x=I y)(hv:zc env y=I v)
  (hk:(∃b p,v=.ptr b p)∨(∃z,v=.ah z)):Val P C a o w v:=by
 have r:=zt he hc hv
 rcases hk with⟨b,p,rfl⟩|⟨z,rfl⟩
 ·obtain⟨q,_,hq⟩:=r.cW
  exact⟨a.eval x,by simp[execOp,ho,hq],r⟩
 ·obtain⟨q,p,hq,_⟩:=r.ew
  exact⟨a.eval x,by simp[execOp,ho,hq],r⟩
theorem Sd (op:BinOp)(k:IntKind)(x y:Int)(t:TypeId)(h1:op≠.shl)(h2:op≠.shr):binOp op t (.int k x) (.int k y)=match op with
  | .add | .sub | .mul=>Op.intArith op k x y
  | .quo | .rem=>Op.intDiv op k x y
  | .and | .or | .xor | .andNot=>Op.intBits op k x y
  |_=>Op.intCmp op x y:=by
 cases op<;>simp at h1 h2<;>simp[binOp]
theorem q71 {op:BinOp}{k:IntKind}{x y:Int}{v:qa}(h:nZ op k x y=I v)(t:TypeId)(w:World):∃u,(binOp op t (.int k x) (.int k y)).run P w=.ok u w∧bF C v u:=by
 unfold nZ at h
 cases op<;>simp only[]at h<;>first|(cases h;done)|skip
 case quo=>
  cases hy:(y == 0)with
  |true=>simp[hy]at h
  |false=>
   simp[hy]at h
   subst h
   have:y≠0:=by simpa using hy
   rw[zC,Sd _ _ _ _ _ (by simp) (by simp)]
   refine⟨_,?_,.int _ _⟩
   simp[Op.intDiv,this]
 case rem=>
  cases hy:(y == 0)with
  |true=>simp[hy]at h
  |false=>
   simp[hy]at h
   subst h
   have:y≠0:=by simpa using hy
   rw[Sd _ _ _ _ _ (by simp) (by simp)]
   refine⟨_,?_,.int _ _⟩
   simp[Op.intDiv,this]
 all_goals (cases h;rw[Sd _ _ _ _ _ (by simp) (by simp)];try rw[zC])
 all_goals first
  |exact⟨_,rfl,.int _ _⟩
  |exact⟨_,rfl,.bool _⟩
theorem qrh:∀ (x y:List UInt8),bytesLess x y=Op.bytesLess x y
 |x,[]=>by cases x<;>rfl
 | [],_::_=>rfl
 |a::x,b::y=>by simp only[bytesLess,Op.bytesLess,qrh x y]
theorem jaa {op:BinOp}{x y:List UInt8}{v:qa}(h:EO op x y=I v)(t:TypeId)(w:World):∃u,(binOp op t (.string ⟨⟨x⟩⟩) (.string ⟨⟨y⟩⟩)).run P w=.ok u w∧bF C v u:=by
 unfold EO at h
 cases op<;>simp only[]at h<;>first|(cases h;done)|skip
 ·cases hb:Gm (x.length+y.length) 4611686018427387904 with
  |false=>simp[hb]at h
  |true=>
   simp[hb]at h
   subst h
   have hle:x.length+y.length≤4611686018427387904:=En hb
   refine⟨.string ⟨⟨x++y⟩⟩,?_,.str _⟩
   have e1:(⟨⟨x⟩⟩:ByteArray).size=x.length:=rfl
   have e2:(⟨⟨y⟩⟩:ByteArray).size=y.length:=rfl
   have e3:(⟨⟨x⟩⟩:ByteArray)++⟨⟨y⟩⟩=⟨⟨x++y⟩⟩:=by
    apply ByteArray.ext
    simp[ByteArray.data_append]
   simp only[binOp,Op.stringOp,e1,e2,e3,IntKind.max,IntKind.signed,IntKind.bits]
   rw[if_neg (by simp;omega)]
   rfl
 all_goals (cases h;refine⟨_,?_,.bool _⟩;simp[binOp,Op.stringOp,qrh])
theorem q9q {op:BinOp}{x y v:qa}{u u':Value}(h:fo op x y=I v)(hx:bF C x u)(hy:bF C y u')(t:TypeId)(w:World):∃z,(binOp op t u u').run P w=.ok z w∧bF C v z:=by
 unfold fo at h
 split at h
 ·rename_i k a k' b
  obtain rfl:=hx.bH
  obtain rfl:=hy.bH
  have hsh:∀(op:BinOp),(op=.shl∨op=.shr)→LV op k a b=I v→∃z,(binOp op t (.int k a) (.int k' b)).run P w=.ok z w∧bF C v z:=by
   intro op hop h
   unfold LV at h
   cases hb:decide (b<0)with
   |true=>simp[hb]at h
   |false=>
    have eV:¬b<0:=by simpa using hb
    rcases hop with rfl|rfl<;>simp[hb]at h<;>subst h
    ·rw[zC]; (refine⟨_,?_,.int _ _⟩;simp[binOp,Op.shift,eV])
    ·(refine⟨_,?_,.int _ _⟩;simp[binOp,Op.shift,eV])
  have hin:op≠.shl→op≠.shr→(bif decide (k=k')then nZ op k a b else E4)=I v→∃z,(binOp op t (.int k a) (.int k' b)).run P w=.ok z w∧bF C v z:=by
   intro _ _ h
   by_cases hk:k=k'
   ·subst hk;simp at h;exact q71 h t w
   ·simp[hk]at h
  cases op<;>simp only[]at h<;>first|exact hsh _ (.inl rfl) h|exact hsh _ (.inr rfl) h|exact hin (by simp) (by simp) h
 ·obtain rfl:=hx.bX
  obtain rfl:=hy.bX
  exact jaa h t w
 ·cases h
theorem q58 (op:BinOp)(t:TypeId)(x y:Operand)(u v:Value)(w:World)(h1:¬(u=.nilIface∧v=.nilIface))(h2:(∀cs,u≠.agg cs)∨P.eqGuardType P.depth t=E7):(eqGuard op t x y u v).run P w=.ok () w:=by
 unfold eqGuard
 by_cases hop:(!(match op with | .eql | .neq=>Ge|_=>E7))=Ge
 ·cases op<;>simp_all
 ·cases op<;>simp at hop ⊢
  all_goals (
   split
   ·exact absurd ⟨rfl,rfl⟩ h1
   ·rcases h2 with h2|h2
    ·rename_i cs _ ;exact absurd rfl (h2 cs)
    ·simp[h2]
   ·rfl)
theorem Mb {op:BinOp}{t u:TypeId}{x y:Operand}{p q z:Value}(ho:o.op=.binOp op t x y u)(hx:a.eval x=p)(hy:a.eval y=q)(h1:¬(p=.nilIface∧q=.nilIface))(h2:(∀cs,p≠.agg cs)∨P.eqGuardType P.depth t=E7)
  (hz:(binOp op t p q).run P w=.ok z w):(execOp a.eval o).run P w=.ok (.value z) w:=by
 have hg:=q58 (P:=P) op t x y p q w h1 h2
 subst hx;subst hy
 simp only[execOp,ho,Sem.run_bind,hg,Result.andThen_ok,hz,Sem.run_pure]
theorem q08 {x:qa}{v:Value}(h:bF C x v)(hx:x≠.undef)(hy:x≠.any:=by simp):v≠.nilIface:=by
 cases h<;>simp at hx hy ⊢
theorem q1c {op:BinOp}{x y v:qa}(h:fo op x y=I v):(x≠.undef∧(∀cs,x≠.agg cs)∧x≠.any):=by
 unfold fo at h
 split at h<;>simp at h ⊢
theorem q6e {x:qa}{v:Value}(h:bF C x v)(hx:x≠.undef)(ha:∀cs,x≠.agg cs)(hy:x≠.any:=by simp):∀cs,v≠.agg cs:=by
 cases h<;>simp at hx ha hy ⊢
theorem jl7 {op:BinOp}{t u:TypeId}{x y:Operand}{x' y':qh}{p q v:qa}(he:aW C env a.tmps)(ho:o.op=.binOp op t x y u)(h1:zq x=I x')(h2:zq y=I y')
  (e1:zc env x'=I p) (e2:zc env y'=I q) (hv:fo op p q=I v):Val P C a o w v:=by
 have r1:=zt he h1 e1
 have r2:=zt he h2 e2
 obtain⟨hn,ha,hy⟩:=q1c hv
 obtain⟨z,hz,hr⟩:=q9q (P:=P) hv r1 r2 t w
 refine⟨z,?_,hr⟩
 exact Mb ho rfl rfl (fun h=>q08 r1 hn hy h.1) (.inl (q6e r1 hn ha hy)) hz
theorem Se {neq:Bool}{t:TypeId}{u v:Value}{b:Bool}(w:World)(hu:(∀k n,u≠.int k n)∧(∀s,u≠.string s)∧(∀k n,u≠.float k n)∧(∀k n m,u≠.complex k n m))
  (h:(Op.equal t u v).run P w=.ok b w):(binOp (if neq then .neq else .eql) t u v).run P w=.ok (.bool (bif neq then !b else b)) w:=by
 obtain⟨h1,h2,h3,h4⟩:=hu
 cases neq<;>cases u<;>simp_all [binOp]
theorem jnf {op:BinOp}{neq:Bool}{t u:TypeId}{x y:Operand}{x' y':qh}{p q:List qa}{ks:List Kd}{b:Bool}(he:aW C env a.tmps)(ho:o.op=.binOp op t x y u)(hop:op=if neq then .neq else .eql)
  (h1:zq x=I x') (h2:zq y=I y') (e1:zc env x'=I (.agg p)) (e2:zc env y'=I (.agg q)) (hg:P.eqGuardType P.depth t=E7) (hk:tZ P LY t=I ks) (cL:fc P t=I Ge)
  (gL:p.length=ks.length) (n9:q.length=ks.length) (hb:ky ks p q=I b):Val P C a o w (.bool (bif neq then !b else b)):=by
 obtain⟨us,hu,ru⟩:=(zt he h1 e1).dX
 obtain⟨vs,hv,rv⟩:=(zt he h2 e2).dX
 obtain⟨ag,ha,_,_,heq⟩:=Sb (C:=C) LY t ks hk
 rw[cL]at ha;cases ha
 have hq:=heq 10000 (by decide) p q us vs b w ru rv gL n9 hb
 simp only[ua,if_true]at hq
 refine⟨_,?_,.bool _⟩
 have pK:=Se (P:=P) (neq:=neq) (t:=t) (u:=.agg ⟨us⟩) (v:=.agg ⟨vs⟩) (b:=b) w ⟨by simp,by simp,by simp,by simp⟩ hq
 exact Mb (hop▸ho) hu hv (by simp) (.inr hg) pK
theorem jmo {op:BinOp}{neq:Bool}{t u:TypeId}{x y:Operand}{x' y':qh}{p q:Bool}(he:aW C env a.tmps)(ho:o.op=.binOp op t x y u)(hop:op=if neq then .neq else .eql)
  (h1:zq x=I x') (h2:zq y=I y') (e1:zc env x'=I (.bool p)) (e2:zc env y'=I (.bool q)) (ht:P.underlying t=I .bool):Val P C a o w (.bool (bif neq then !(p == q)else p == q)):=by
 have hu:=(zt he h1 e1).cV
 have hv:=(zt he h2 e2).cV
 refine⟨_,?_,.bool _⟩
 have pK:=Se (P:=P) (neq:=neq) (t:=t) (u:=.bool p) (v:=.bool q) (b:=p == q) w ⟨by simp,by simp,by simp,by simp⟩ (run_equalIn_bool w 9999 t p q ht)
 exact Mb (hop▸ho) hu hv (by simp) (.inl (by simp)) pK
theorem jc3 {op:BinOp}{neq b:Bool}{t u:TypeId}{x y:Operand}{c:Value}(ho:o.op=.binOp op t x y u)(hop:op=if neq then .neq else .eql)
  (hy:a.eval y=c) (bA:(∀k n,a.eval x≠.int k n)∧(∀s,a.eval x≠.string s)∧(∀k n,a.eval x≠.float k n)∧(∀k n m,a.eval x≠.complex k n m)) (cL:∀cs,a.eval x≠.agg cs) (Sf:a.eval x≠.nilIface)
  (h:(Op.equal t (a.eval x) c).run P w=.ok b w):Val P C a o w (.bool (bif neq then !b else b)):=by
 refine⟨_,?_,.bool _⟩
 have pK:=Se (P:=P) (neq:=neq) w bA h
 exact Mb (hop▸ho) rfl hy (fun h=>Sf h.1) (.inl cL) pK
theorem jod {op:UnOp}{t:TypeId}{x:Operand}{x':qh}{p v:qa}(he:aW C env a.tmps)(ho:o.op=.unOp op t x)(h1:zq x=I x')(e1:zc env x'=I p)(hv:wL op p=I v):Val P C a o w v:=by
 have r1:=zt he h1 e1
 unfold wL at hv
 split at hv
 ·obtain hu:=r1.bH
  cases hv
  rw[zC]
  (refine⟨_,?_,.int _ _⟩;simp[execOp,ho,hu,Op.unary,Op.intArith])
 ·obtain hu:=r1.cV
  cases hv
  (refine⟨_,?_,.bool _⟩;simp[execOp,ho,hu,Op.unary])
 ·cases hv
theorem jjm {s d:TypeId}{k k0:IntKind}{x:Operand}{x':qh}{k1:IntKind}{n:Int}(he:aW C env a.tmps)(ho:o.op=.convert s d x)(hs:P.underlying s=I (.int k0))(hd:P.underlying d=I (.int k))
  (h1:zq x=I x') (e1:zc env x'=I (.int k1 n)):Val P C a o w (.int k (j6 k n)):=by
 have hu:=(zt he h1 e1).bH
 rw[zC]
 (refine⟨_,?_,.int _ _⟩;simp[execOp,ho,hu,convert,run_underlying hs,run_underlying hd,Conv.intToInt])
theorem q5x {s d:TypeId}{x:Operand}{x':qh}{v:qa}(he:aW C env a.tmps)(ho:o.op=.convert s d x)(hs:P.underlying s=I .string)(hd:P.underlying d=I .string)
  (h1:zq x=I x') (e1:zc env x'=I v) (hv:∃l,v=.str l):Val P C a o w v:=by
 obtain⟨l,rfl⟩:=hv
 have r:=zt he h1 e1
 have hu:=r.bX
 exact⟨_,by simp[execOp,ho,hu,convert,run_underlying hs,run_underlying hd];rfl,by rw[←hu];exact r⟩
theorem q3u {s d:TypeId}{x:Operand}{x':qh}{v:qa}{k0:IntKind}(he:aW C env a.tmps)(ho:o.op=.convert s d x)(hs:P.underlying s=I (.int k0))(hd:P.underlying d=I .string)
  (h1:zq x=I x') (e1:zc env x'=I v) (hv:∃l,v=.str l):Val P C a o w v:=by
 obtain⟨l,rfl⟩:=hv
 have r:=zt he h1 e1
 have hu:=r.bX
 exact⟨_,by simp[execOp,ho,hu,convert,run_underlying hs,run_underlying hd];rfl,by rw[←hu];exact r⟩
theorem q6d {s d:TypeId}{x:Operand}{x':qh}{k0 k1:IntKind}{n:Int}(he:aW C env a.tmps)(ho:o.op=.convert s d x)(hs:P.underlying s=I (.int k0))(hd:P.underlying d=I .string)
  (h1:zq x=I x') (e1:zc env x'=I (.int k1 n)):Val P C a o w (.str (Utf8.encode n).data.toList):=by
 have hu:=(zt he h1 e1).bH
 exact⟨.string (Utf8.encode n),by simp[execOp,ho,hu,convert,run_underlying hs,run_underlying hd,Conv.intToString],.str _⟩
theorem q2n {s d:TypeId}{x:Operand}{x':qh}{k1:IntKind}{n:Int}(he:aW C env a.tmps)(ho:o.op=.convert s d x)(hs:P.underlying s=I .string)(hd:P.underlying d=I .string)
  (h1:zq x=I x') (e1:zc env x'=I (.int k1 n)):Val P C a o w (.str (Utf8.encode n).data.toList):=by
 have hu:=(zt he h1 e1).bH
 exact⟨.string (Utf8.encode n),by simp[execOp,ho,hu,convert,run_underlying hs,run_underlying hd,Conv.intToString],.str _⟩
theorem jbn {t:TypeId}{x:Operand}{x':qh}{i:Nat}{fs:Array Field}{f:Field}{ag:Bool}{n:Nat}{cs:List qa}{v:qa}(he:aW C env a.tmps)(ho:o.op=.field t x i)(ht:P.underlying t=I (.struct fs))(hf:fs[i]?=I f)
  (cL:fc P f.type=I ag) (hn:yg P f.type=I n) (h1:zq x=I x') (e1:zc env x'=I (.agg cs)) (hv:Abs.part ag cs f.offset n=I v):Val P C a o w v:=by
 obtain⟨us,hu,ru⟩:=(zt he h1 e1).dX
 obtain⟨z,hz,hr⟩:=q2p cL hn hv ru w
 refine⟨z,?_,hr⟩
 simp[execOp,ho,hu,Instr.field,run_underlying ht,hf,asAgg,hz]
theorem EZ {n:Nat}{v:qa}{j:Nat}(h:idx n v=I j):∃k,v=.int k (j:Int)∧j<n:=by
 unfold idx at h
 split at h
 ·rename_i k i
  cases hb:Nat.blt i n with
  |false=>simp[hb]at h
  |true=>
   simp[hb]at h
   subst h
   exact⟨k,rfl,by have:=En hb;omega⟩
 ·cases h
theorem jcm {n:Nat}{v:qa}{j:Nat}(h:yX n v=I j):∃k,v=.int k (j:Int)∧j≤n:=by
 unfold yX at h
 split at h
 ·rename_i k i
  cases hb:Gm i n with
  |false=>simp[hb]at h
  |true=>
   simp[hb]at h
   subst h
   exact⟨k,rfl,En hb⟩
 ·cases h
theorem jb4 {t e:TypeId}{x i:Operand}{x' i':qh}{len n:Nat}{ag:Bool}{cs:List qa}{iv v:qa}{j:Nat}(he:aW C env a.tmps)(ho:o.op=.index t x i)(ht:P.underlying t=I (.array len e))
  (cL:fc P e=I ag) (hn:yg P e=I n) (h1:zq x=I x') (h2:zq i=I i') (e1:zc env x'=I (.agg cs)) (e2:zc env i'=I iv) (hj:idx len iv=I j) (hv:Abs.part ag cs (j*n) n=I v):Val P C a o w v:=by
 obtain⟨us,hu,ru⟩:=(zt he h1 e1).dX
 obtain⟨k,rfl,aY⟩:=EZ hj
 have hi:=(zt he h2 e2).bH
 obtain⟨z,hz,hr⟩:=q2p cL hn hv ru w
 refine⟨z,?_,hr⟩
 simp[execOp,ho,hu,hi,Instr.index,asIntOf,run_underlying ht,aY,iL hn,hz]
theorem q48 {t:TypeId}{x i:Operand}{x' i':qh}{s:List UInt8}{iv:qa}{j:Nat}{c:UInt8}(he:aW C env a.tmps)(ho:o.op=.index t x i)(ht:P.underlying t=I .string)
  (h1:zq x=I x') (h2:zq i=I i') (e1:zc env x'=I (.str s)) (e2:zc env i'=I iv) (hj:idx s.length iv=I j) (hc:s[j]?=I c):Val P C a o w (.int .u8 c.toNat):=by
 have hu:=(zt he h1 e1).bX
 obtain⟨k,rfl,aY⟩:=EZ hj
 have hi:=(zt he h2 e2).bH
 refine⟨_,?_,.int _ _⟩
 have hb:(⟨⟨s⟩⟩:ByteArray)[j]?=I c:=by
  rw[getElem?_pos (ByteArray.mk ⟨s⟩) j aY]
  exact congrArg I (List.getElem?_eq_some_iff.1 hc).2
 simp[execOp,ho,hu,hi,Instr.index,asIntOf,run_underlying ht,hb]
end
section
variable {P:Program}{C:ay}{w:World}{env:Env}{a:Act}{o:Oper}
theorem qc0 {z:qa}(h:z.isAgg=E7):z.flat=[z]:=by cases z<;>simp[qa.isAgg,qa.flat]at *
theorem q6w {ag:Bool}{cs:List qa}{off n r q:Nat}{z:qa}(hc:bZ C r cs q)(hz:Abs.part ag cs off n=I z)(hx:H6 ag z.isAgg=E7):bZ C r z.flat (q+off):=by
 unfold Abs.part at hz
 cases ag with
 |true=>
  simp only[cT]at hz
  cases hb:Gm (off+n) cs.length with
  |false=>simp[hb]at hz
  |true=>simp[hb]at hz;subst hz;exact bZ.take n (bZ.drop off hc)
 |false=>
  simp only[cond_false]at hz
  rw[qc0 (by simpa using hx)]
  obtain⟨u,h1,h2⟩:=hc.get hz
  exact .dh _ _ _ _ u h1 h2 (.gK _ _)
theorem qp0 {t:TypeId}{x:Operand}{x':qh}{i:Nat}{fs:Array Field}{f:Field}{ag:Bool}{n:Nat}{p v:qa}(he:aW C env a.tmps)(ho:o.op=.fieldAddr t x i)(ht:P.underlying t=I (.struct fs))(hf:fs[i]?=I f)
  (hn:yg P f.type=I n) (zD:0<n) (h1:zq x=I x') (e1:zc env x'=I p)
  (hv:(∃b q,p=.ptr b q∧v=.ptr b (q+f.offset))∨(∃cs z,p=.ah (.agg cs)∧Abs.part ag cs f.offset n=I z∧H6 ag z.isAgg=E7∧v=.ah z)):Val P C a o w v:=by
 have bm:∀r q,a.eval x=.pointer (I ⟨r,q,E4⟩)→(execOp a.eval o).run P w=.ok (.value (.pointer (I ⟨r,q+f.offset,E4⟩))) w:=by
  intro r q hq
  simp[execOp,ho,Instr.fieldAt,run_underlying ht,hf,hq,Instr.sureAddr,fieldPlace,iL hn,Nat.pos_iff_ne_zero.1 zD,add_lit]
 rcases hv with⟨b,q,rfl,rfl⟩|⟨cs,z,rfl,hz,hx,rfl⟩
 ·obtain⟨r,hr,hq⟩:=(zt he h1 e1).cW
  exact⟨_,bm r q hq,.ptr _ _ _ hr⟩
 ·obtain⟨r,q,hq,hc⟩:=(zt he h1 e1).ew
  exact⟨_,bm r q hq,.ah _ _ _ (q6w hc hz hx)⟩
theorem qpx {t e:TypeId}{x i:Operand}{x' i':qh}{sz:Nat}{p iv v:qa}(he:aW C env a.tmps)(ho:o.op=.indexAddr t x i)(ht:P.underlying t=I (.slice e))
  (hn:yg P e=I sz) (h1:zq x=I x') (h2:zq i=I i') (e1:zc env x'=I p) (e2:zc env i'=I iv)
  (hv:(∃b q len j,p=.ms b q len∧idx len iv=I j∧v=.ptr b (q+j*sz))∨(∃nl xs z j,p=.list nl sz xs∧idx xs.length iv=I j∧xs[j]?=I z∧v=.ah z)):Val P C a o w v:=by
 have bm:∀r q len cap j,a.eval x=.slice (I ⟨r,q,E4⟩) len cap→idx len iv=I j→(execOp a.eval o).run P w=.ok (.value (.pointer (I ⟨r,q+j*sz,E4⟩))) w:=by
  intro r q len cap j hq hj
  obtain⟨k,rfl,aY⟩:=EZ hj
  have hi:=(zt he h2 e2).bH
  simp[execOp,ho,Instr.indexAt,run_underlying ht,hq,hi,asIntOf,iL hn,aY,add_lit]
 rcases hv with⟨b,q,len,j,rfl,hj,rfl⟩|⟨nl,xs,z,j,rfl,hj,hz,rfl⟩
 ·obtain⟨r,cap,hr,_,hq⟩:=(zt he h1 e1).ey
  exact⟨_,bm r q len cap j hq hj,.ptr _ _ _ hr⟩
 ·rcases(zt he h1 e1).cG with⟨rfl,rfl,hq⟩|⟨rfl,r,q,cap,hq,_,cM⟩|⟨rfl,rfl,_⟩
  ·simp at hz
  ·exact⟨_,bm r q _ cap j hq hj,.ah _ _ _ (cM.get hz)⟩
  ·simp at hz
theorem qqt {t e:TypeId}{x i:Operand}{x' i':qh}{len sz:Nat}{ag:Bool}{p iv v:qa}{j:Nat}(he:aW C env a.tmps)(ho:o.op=.indexAddr t x i)(ht:P.underlying t=I (.array len e))
  (hn:yg P e=I sz) (h1:zq x=I x') (h2:zq i=I i') (e1:zc env x'=I p) (e2:zc env i'=I iv) (hj:idx len iv=I j)
  (hv:(∃b q,p=.ptr b q∧v=.ptr b (q+j*sz))∨(∃cs z,p=.ah (.agg cs)∧Abs.part ag cs (j*sz) sz=I z∧H6 ag z.isAgg=E7∧v=.ah z)):Val P C a o w v:=by
 have bm:∀r q,a.eval x=.pointer (I ⟨r,q,E4⟩)→(execOp a.eval o).run P w=.ok (.value (.pointer (I ⟨r,q+j*sz,E4⟩))) w:=by
  intro r q hq
  obtain⟨k,rfl,aY⟩:=EZ hj
  have hi:=(zt he h2 e2).bH
  simp[execOp,ho,Instr.indexAt,run_underlying ht,hq,hi,asIntOf,Instr.sureAddr,iL hn,aY,add_lit]
 rcases hv with⟨b,q,rfl,rfl⟩|⟨cs,z,rfl,hz,hx,rfl⟩
 ·obtain⟨r,hr,hq⟩:=(zt he h1 e1).cW
  exact⟨_,bm r q hq,.ptr _ _ _ hr⟩
 ·obtain⟨r,q,hq,hc⟩:=(zt he h1 e1).ew
  exact⟨_,bm r q hq,.ah _ _ _ (q6w hc hz hx)⟩
theorem Mc {x:Option Operand}{x':Option qh}{d n j:Nat}(he:aW C env a.tmps)(hc:mA x=I x')(hb:eT env d n x'=I j):
  (x=E4∧j=d)∨(∃y k,x=I y∧a.eval y=.int k (j:Int)∧j≤n):=by
 cases x with
 |none=>simp[mA]at hc;subst hc;simp[eT]at hb;exact .inl ⟨rfl,hb.symm⟩
 |some x=>
  simp only[mA]at hc
  split at hc
  ·rename_i z hz
   cases hc
   simp only[eT]at hb
   split at hb
   ·rename_i v hv
    obtain⟨k,rfl,hle⟩:=jcm hb
    exact .inr ⟨x,k,rfl,(zt he hz hv).bH,hle⟩
   ·cases hb
  ·cases hc
theorem Md {lo hi:Option Operand}{li fH:Option qh}{len cap i j:Nat}{isS:Bool}(he:aW C env a.tmps)(h1:mA lo=I li)(h2:mA hi=I fH)(b2:eT env len len fH=I j)(b1:eT env 0 j li=I i)(hc:len≤cap)(w:World):
  (Instr.sliceBounds isS len cap (lo.map a.eval) (hi.map a.eval) E4).run P w=.ok (i,j,cap) w∧i≤j∧j≤len:=by
 have k2:j≤len:=by
  rcases Mc he h2 b2 with⟨_,rfl⟩|⟨_,_,_,_,h⟩
  ·exact E3 _
  ·exact h
 have k1:i≤j:=by
  rcases Mc he h1 b1 with⟨_,rfl⟩|⟨_,_,_,_,h⟩
  ·exact Nat.zero_le _
  ·exact h
 refine⟨?_,k1,k2⟩
 have hj:j≤cap:=by omega
 rcases Mc he h2 b2 with⟨rfl,rfl⟩|⟨y,k,rfl,hy,_⟩<;>rcases Mc he h1 b1 with⟨rfl,rfl⟩|⟨z,k',rfl,hz,_⟩
 ·simp[Instr.sliceBounds]
 ·simp[Instr.sliceBounds,hz,Instr.sliceBound,asIntOf,k1]
 ·simp[Instr.sliceBounds,hy,Instr.sliceBound,asIntOf,hj]
 ·simp[Instr.sliceBounds,hy,hz,Instr.sliceBound,asIntOf,hj,k1]
theorem q0f {t e:TypeId}{x:Operand}{lo hi:Option Operand}{x':qh}{li fH:Option qh}{sz i j:Nat}{p v:qa}(he:aW C env a.tmps)(ho:o.op=.slice t x lo hi E4)(ht:P.underlying t=I (.slice e))
  (hn:yg P e=I sz) (h1:zq x=I x') (h2:mA lo=I li) (h3:mA hi=I fH) (e1:zc env x'=I p)
  (hv:(∃b q len,p=.ms b q len∧eT env len len fH=I j∧eT env 0 j li=I i∧(i=0∨i<j)∧v=.ms b (q+i*sz) (j-i)) ∨
   (∃nl cK xs,p=.list nl cK xs∧(sz=cK∨xs=[])∧eT env xs.length xs.length fH=I j∧eT env 0 j li=I i∧v=.list nl cK ((xs.take j).drop i))):Val P C a o w v:=by
 have bm:∀b len cap,a.eval x=.slice b len cap→len≤cap→eT env len len fH=I j→eT env 0 j li=I i →
   (execOp a.eval o).run P w=.ok (.value (.slice (if cap=i then b else b.map (·.add (i*sz))) (j-i) (cap-i))) w∧i≤j∧j≤len:=by
  intro b len cap hq hle b2 b1
  obtain⟨hb,k1,k2⟩:=Md (P:=P) (isS:=true) he h2 h3 b2 b1 hle w
  refine⟨?_,k1,k2⟩
  simp[execOp,ho,Instr.sliceAt,Instr.slice,run_underlying ht,hq,hb,iL hn]
 rcases hv with⟨b,q,len,rfl,b2,b1,vo,rfl⟩|⟨nl,cK,xs,rfl,cD,b2,b1,rfl⟩
 ·obtain⟨r,cap,hr,hle,hq⟩:=(zt he h1 e1).ey
  obtain⟨hw,k1,k2⟩:=bm _ len cap hq hle b2 b1
  refine⟨_,hw,?_⟩
  by_cases hc:cap=i
  ·rw[if_pos hc]
   obtain rfl:i=0:=by omega
   simpa using qp.ms b q (j-0) r (cap-0) hr (by omega)
  ·rw[if_neg hc]
   simp only[Gz,add_lit]
   exact .ms _ _ _ _ _ hr (by omega)
 ·rcases(zt he h1 e1).cG with⟨rfl,rfl,hq⟩|⟨rfl,r,q,cap,hq,hle,cM⟩|⟨rfl,rfl,ad,lW,hq⟩
  ·obtain⟨hw,k1,k2⟩:=bm _ 0 0 hq (E3 _) b2 b1
   simp at k2
   obtain rfl:=k2
   obtain rfl:i=0:=by omega
   exact⟨_,hw,by simpa using qp.iI cK⟩
  ·obtain⟨hw,k1,k2⟩:=bm _ _ cap hq hle b2 b1
   refine⟨_,hw,?_⟩
   have hl:((xs.take j).drop i).length=j-i:=by simp;omega
   rw[←hl]
   by_cases hc:cap=i
   ·rw[if_pos hc]
    have jR:(xs.take j).drop i=[]:=Ef (by simp;omega)
    rw[jR]
    exact .list _ _ _ _ _ (by simp) (.fg _ _ _)
   ·rw[if_neg hc]
    simp only[Gz,add_lit]
    refine .list _ _ _ _ _ (by rw[hl];omega) ?_
    rcases cD with rfl|rfl
    ·exact aX.drop i (aX.take j cM)
    ·simpa using qp.fg _ _ _
  ·obtain⟨hw,k1,k2⟩:=bm _ 0 0 hq (E3 _) b2 b1
   simp at k2
   obtain rfl:=k2
   obtain rfl:i=0:=by omega
   exact⟨_,hw,by simpa using qp.iJ cK ad lW⟩
theorem q5e {t e:TypeId}{x:Operand}{lo hi:Option Operand}{x':qh}{li fH:Option qh}{len sz i j b q:Nat}(he:aW C env a.tmps)(ho:o.op=.slice t x lo hi E4)(ht:P.underlying t=I (.array len e))
  (hn:yg P e=I sz) (h1:zq x=I x') (h2:mA lo=I li) (h3:mA hi=I fH) (e1:zc env x'=I (.ptr b q)) (b2:eT env len len fH=I j) (b1:eT env 0 j li=I i) (vo:i=0∨i<j):Val P C a o w (.ms b (q+i*sz) (j-i)):=by
 obtain⟨r,hr,hq⟩:=(zt he h1 e1).cW
 obtain⟨hb,k1,k2⟩:=Md (P:=P) (isS:=false) he h2 h3 b2 b1 (E3 len) w
 refine⟨_,by simp[execOp,ho,Instr.sliceAt,Instr.sureAddr,run_underlying ht,hq,hb,iL hn];rfl,?_⟩
 by_cases hc:len=i
 ·rw[if_pos hc]
  obtain rfl:i=0:=by omega
  simpa using qp.ms b q (j-0) r (len-0) hr (by omega)
 ·rw[if_neg hc]
  simp only[add_lit]
  exact .ms _ _ _ _ _ hr (by omega)
theorem q05 (s:List UInt8)(i j:Nat):(⟨⟨s⟩⟩:ByteArray).extract i j=⟨⟨(s.take j).drop i⟩⟩:=by
 apply ByteArray.ext
 rw[ByteArray.data_extract]
 apply Gb
 simp[List.extract_eq_take_drop,List.drop_take]
theorem q40 {t:TypeId}{x:Operand}{lo hi:Option Operand}{x':qh}{li fH:Option qh}{i j:Nat}{s:List UInt8}(he:aW C env a.tmps)(ho:o.op=.slice t x lo hi E4)(ht:P.underlying t=I .string)
  (h1:zq x=I x') (h2:mA lo=I li) (h3:mA hi=I fH) (e1:zc env x'=I (.str s)) (b2:eT env s.length s.length fH=I j) (b1:eT env 0 j li=I i):Val P C a o w (.str ((s.take j).drop i)):=by
 have hq:=(zt he h1 e1).bX
 obtain⟨hb,k1,k2⟩:=Md (P:=P) (isS:=false) he h2 h3 b2 b1 (E3 s.length) w
 have cD:(⟨⟨s⟩⟩:ByteArray).size=s.length:=rfl
 refine⟨.string ⟨⟨(s.take j).drop i⟩⟩,?_,.str _⟩
 simp[execOp,ho,Instr.sliceAt,Instr.slice,run_underlying ht,hq,cD,hb,q05]
theorem q9m {k:Nat}{xs ys:Array Operand}{fq nF:List qh}{us vs:List qa}(he:aW C env a.tmps)(ho:o.op=.makeFunc (.func k) xs ys)(h1:oV xs.toList=I fq)(h2:oV ys.toList=I nF)(e1:fF env fq=I us)(e2:fF env nF=I vs):
  Val P C a o w (.fn (.func k) us vs):=by
 refine⟨.func (.func k) (xs.map a.eval) (ys.map a.eval),by simp[execOp,ho,Instr.makeFunc],?_⟩
 have r1:=Dm he h1 e1
 have r2:=Dm he h2 e2
 have q1:xs.map a.eval=⟨xs.toList.map a.eval⟩:=by apply Gb;simp
 have q2:ys.map a.eval=⟨ys.toList.map a.eval⟩:=by apply Gb;simp
 rw[q1,q2]
 exact .fn _ _ _ _ _ _ rfl r1 r2
theorem Sg {c:Call}{x:Operand}{t:TypeId}{x':qh}{p:qa}{n:Nat}(he:aW C env a.tmps)(ho:o.op=.call c)(dB:c.callee=.builtin .len)(dK:c.args.toList=[x])(dY:c.argTypes.toList=[t])
  (h1:zq x=I x') (e1:zc env x'=I p)
  (hv:(P.underlying t=I .string∧∃s,p=.str s∧n=s.length)∨((∃e,P.underlying t=I (.slice e))∧((∃nl sz xs,p=.list nl sz xs∧n=xs.length)∨(∃b q,p=.ms b q n)))):Val P C a o w (.int .i64 n):=by
 have ha:c.args=#[x]:=by apply Gb;simpa using dK
 have jS:c.argTypes=#[t]:=by apply Gb;simpa using dY
 refine⟨.int .i64 n,?_,.int _ _⟩
 simp only[execOp,ho,resolve,dB,ha,jS,Sem.run_bind,Sem.run_pure,Result.andThen_ok,invoke,builtin,Builtin.len_]
 rcases hv with⟨ht,s,rfl,rfl⟩|⟨⟨e,ht⟩,⟨nl,sz,xs,rfl,rfl⟩|⟨b,q,rfl⟩⟩
 ·have hq:=(zt he h1 e1).bX
  simp[run_underlying ht,hq,goInt]
  rfl
 ·obtain⟨b,cap,hq⟩:=(zt he h1 e1).len
  simp[run_underlying ht,hq,goInt]
 ·obtain⟨r,cap,_,_,hq⟩:=(zt he h1 e1).ey
  simp[run_underlying ht,hq,goInt]
theorem Sh {f:qa→qa→Option qa}{g:Value→Value→Sem Value}(hfg:∀x y z u v,f x y=I z→bF C x u→bF C y v→∃q,(g u v).run P w=.ok q w∧bF C z q):
  ∀(ys:List qa) (x z:qa) (u:Value) (vs:List Value),nx f x ys=I z→bF C x u→aM C ys vs→∃q,(vs.foldlM g u).run P w=.ok q w∧bF C z q
 | [],x,z,u,vs,h,hx,hy=>by
  cases hy
  simp[nx]at h;subst h
  exact⟨u,rfl,hx⟩
 |y::ys,x,z,u,vs,h,hx,hy=>by
  cases hy with
  |cons _ _ v vs hy hr=>
   simp only[nx]at h
   split at h
   ·rename_i z1 lj
    obtain⟨q,hq,rq⟩:=hfg x y z1 u v lj hx hy
    obtain⟨q2,hq2,rq2⟩:=Sh hfg ys z1 z q vs h rq hr
    exact⟨q2,by simp[List.foldlM_cons,hq,hq2],rq2⟩
   ·cases h
theorem ja3 {c:Call}{fq:List qh}{p v:qa}{ps:List qa}{mx:Bool}(he:aW C env a.tmps)(ho:o.op=.call c)(dB:c.callee=.builtin (if mx then .max else .min))(h1:oV c.args.toList=I fq)(e1:fF env fq=I (p::ps))
  (hv:nx (if mx then max2 else min2) p ps=I v):Val P C a o w v:=by
 have r1:=Dm he h1 e1
 have dQ:(c.args.map a.eval).toList=c.args.toList.map a.eval:=by simp
 cases mx
 ·generalize hl:c.args.toList.map a.eval=l at r1
  cases r1 with
  |cons _ _ u us hu gy=>
   obtain⟨q,hq,rq⟩:=Sh (P:=P) (w:=w) (C:=C) (f:=min2) (g:=Builtin.min2) (fun x y z u v h hx hy=>by
    unfold min2 at h
    split at h<;>first|cases h|skip
    rename_i k n k' m
    by_cases hk:k=k'
    ·subst hk;simp at h;subst h
     obtain rfl:=hx.bH
     obtain rfl:=hy.bH
     exact⟨_,rfl,.int _ _⟩
    ·simp[hk]at h) ps p v u us (by simpa using hv) hu gy
   refine⟨q,?_,rq⟩
   simp only[E6,if_false]at dB
   simp[execOp,ho,resolve,dB,invoke,builtin,Builtin.min_,hl,hq]
 ·generalize hl:c.args.toList.map a.eval=l at r1
  cases r1 with
  |cons _ _ u us hu gy=>
   obtain⟨q,hq,rq⟩:=Sh (P:=P) (w:=w) (C:=C) (f:=max2) (g:=Builtin.max2) (fun x y z u v h hx hy=>by
    unfold max2 at h
    split at h<;>first|cases h|skip
    rename_i k n k' m
    by_cases hk:k=k'
    ·subst hk;simp at h;subst h
     obtain rfl:=hx.bH
     obtain rfl:=hy.bH
     exact⟨_,rfl,.int _ _⟩
    ·simp[hk]at h) ps p v u us (by simpa using hv) hu gy
   refine⟨q,?_,rq⟩
   simp only[if_true]at dB
   simp[execOp,ho,resolve,dB,invoke,builtin,Builtin.max_,hl,hq]
theorem q5i {x:Operand}{x':qh}{i:Nat}{vs:List qa}{v:qa}(he:aW C env a.tmps)(ho:o.op=.extract x i)(h1:zq x=I x')(e1:zc env x'=I (.aB vs))(hv:vs[i]?=I v):Val P C a o w v:=by
 obtain⟨us,hu,ru⟩:=(zt he h1 e1).nE
 obtain⟨u,h1,h2⟩:=ru.get hv
 exact⟨u,by simp[execOp,ho,hu,Instr.extract,h1],h2⟩
end
section
variable {P:Program}{C:ay}{w:World}{env:Env}{a:Act}{o:Oper}
theorem zE {x:qa}{v:Value}(h:bF C x v)(hs:x.flat.all ze=Ge):aM C x.flat v.cells.toList:=by
 cases h<;>first
  |(simp only[qa.flat,Value.cells];exact .cons _ _ _ _ (by constructor<;>assumption) .nil)
  |skip
 ·simpa[qa.flat,Value.cells]
 all_goals first|done|exact absurd hs (by simp[qa.flat,ze])|skip
theorem q0t (off:Nat):∀(l:List Value) (k:Nat) (cs:Array Value),off+k+l.length≤cs.size →
  ((l.zipIdx k).foldl (fun cs (x:Value×Nat)=>cs.setIfInBounds (off+x.2) x.1) cs).toList=cs.toList.take (off+k)++l++cs.toList.drop (off+k+l.length)
 | [],k,cs,_=>by simp
 |v::l,k,cs,h=>by
  simp only[List.zipIdx_cons,List.foldl_cons]
  simp at h
  rw[q0t off l (k+1) (cs.setIfInBounds (off+k) v) (by simp;omega)]
  have aY:off+k<cs.toList.length:=by simp;omega
  rw[Array.toList_setIfInBounds]
  have e1:(cs.toList.set (off+k) v).take (off+(k+1))=cs.toList.take (off+k)++[v]:=by
   rw[←Hh,List.take_succ_eq_append_getElem (by simpa using aY),List.take_set,List.set_eq_of_length_le (by simp;omega),List.getElem_set_self]
  have e2:(cs.toList.set (off+k) v).drop (off+(k+1)+l.length)=cs.toList.drop (off+k+(v::l).length):=by
   rw[List.drop_set_of_lt (by omega)]
   congr 1
   simp;omega
  rw[e1,e2]
  simp
inductive jj (C:ay)(place:Nat→Option (Nat×Nat)):List (Nat×Value)→List (Nat×List qa)→Prop where
 |nil:jj C place [] []
 |cons (i:Nat) (v:Value) (off:Nat) (vs:List qa) (ps:List (Nat×Value)) (qs:List (Nat×List qa)) (h1:place i=I (off,vs.length)) (h2:aM C vs v.cells.toList) (h:jj C place ps qs):jj C place ((i,v)::ps) ((off,vs)::qs)
theorem Me {place:Nat→Option (Nat×Nat)}:∀(ps:List (Nat×Value)) (qs:List (Nat×List qa)) (xs ys:List qa) (cs:Array Value),aM C xs cs.toList→jB xs qs=I ys →
  jj C place ps qs →
  ∃ds,Instr.fill place cs ps=I ds∧aM C ys ds.toList
 | [],qs,xs,ys,cs,hx,hf,hp=>by
  cases hp
  simp[jB]at hf
  subst hf
  exact⟨cs,rfl,hx⟩
 |_::ps,qs,xs,ys,cs,hx,hf,hp=>by
  cases hp with
  |cons i v off vs _ qs E0 hr htl=>
   simp only[jB]at hf
   cases hb:Gm (off+vs.length) xs.length with
   |false=>simp[hb]at hf
   |true=>
    simp only[hb,cT]at hf
    have hle:=En hb
    have gL:=hx.length
    have n9:=hr.length
    simp at gL n9
    have pL:=q0t off v.cells.toList 0 cs (by simp;omega)
    have hz:v.cells.zipIdx.foldl (fun cs (x:Value×Nat)=>cs.setIfInBounds (off+x.2) x.1) cs=(v.cells.toList.zipIdx 0).foldl (fun cs (x:Value×Nat)=>cs.setIfInBounds (off+x.2) x.1) cs:=by
     rw[←Array.foldl_toList,Array.toList_zipIdx]
    obtain⟨ds,h1,h2⟩:=Me (place:=place) ps qs _ ys (v.cells.zipIdx.foldl (fun cs (x:Value×Nat)=>cs.setIfInBounds (off+x.2) x.1) cs) (by
     rw[hz,pL]
     simp only[Nat.add_zero,Array.length_toList,n9]
     exact aM.append (aM.append (hx.take off) hr) (hx.drop _)) hf htl
    refine⟨ds,?_,h2⟩
    simp only[Instr.fill,E0]
    rw[if_neg (by simp;omega)]
    exact h1
theorem Si {place:Nat→Option (Nat×Nat)}(he:aW C env a.tmps):∀(ps:List (Nat×Operand)) (ft:List (Nat×Nat×qh)) (qs:List (Nat×List qa)),wO P place ps=I ft→la env ft=I qs →
  jj C place (ps.map fun x=>(x.1,a.eval x.2)) qs
 | [],ft,qs,hc,hv=>by
  simp[wO]at hc;subst hc
  simp[la]at hv;subst hv
  exact .nil
 |(i,x)::ps,ft,qs,hc,hv=>by
  simp only[wO]at hc
  split at hc
  ·rename_i off n y r E0 hy hr
   cases hc
   simp only[la]at hv
   split at hv
   ·rename_i v iK
    cases hb:(Nat.beq v.flat.length n&&v.flat.all ze)with
    |false=>simp[hb]at hv
    |true=>
     simp only[hb,cT]at hv
     simp only[Gy]at hb
     split at hv
     ·rename_i r' jD
      cases hv
      have hl:=Gd hb.1
      exact .cons _ _ _ _ _ _ (by rw[E0,hl]) (zE (zt he hy iK) hb.2) (Si he ps r r' hr jD)
     ·cases hv
   ·cases hv
  ·cases hc
theorem q0p {t:TypeId}{z:List qa}(h:ek P t=I z)(w:World):∃v,(zeroValue t).run P w=.ok v w∧aM C z v.cells.toList∧∃i,P.info? t=I i∧i.zero=I v:=by
 unfold ek at h
 split at h
 ·rename_i i hi
  split at h
  ·rename_i v hv
   exact⟨v,by simp[zeroValue,typeInfo,hi,hv],L6 C h,i,hi,hv⟩
  ·cases h
 ·cases h
theorem qud {fs:Array Field}(w:World):∀(l:List Field),(∀f∈l,(yg P f.type).isSome)→(l.mapM fun(f:Field)=>(do pure (f.offset,←sizeOf f.type):Sem (Nat×Nat))).run P w=.ok (l.map fun f=>(f.offset,(yg P f.type).getD 0)) w
 | [],_=>rfl
 |f::l,h=>by
  obtain⟨n,hn⟩:=Ga.1 (h f (by simp))
  simp only[List.mapM_cons,Sem.run_bind,iL hn,Result.andThen_ok,Sem.run_pure,qud (fs:=fs) w l (fun g hg=>h g (by simp[hg])),Hq,hn,Option.getD_some]
theorem qw4 {t:TypeId}{ps:Array (Nat×Operand)}{fs:Array Field}{z:List qa}{ft:List (Nat×Nat×qh)}{qs:List (Nat×List qa)}{cs:List qa}(he:aW C env a.tmps)(ho:o.op=.build t ps)(ht:P.underlying t=I (.struct fs))(hz:ek P t=I z)
  (hall:∀f∈fs.toList,(yg P f.type).isSome) (lX:wO P (fun i=>match fs[i]? with|some f=>(yg P f.type).map fun n=>(f.offset,n)|none=>E4) ps.toList=I ft) (hq:la env ft=I qs) (hf:jB z qs=I cs):Val P C a o w (.agg cs):=by
 obtain⟨zv,kM,cw,_⟩:=q0p (C:=C) hz w
 have hm:=qud (P:=P) (fs:=fs) w fs.toList hall
 have ub:=Si (P:=P) he ps.toList ft qs lX hq
 have zF:(fun(i:Nat)=>match fs[i]? with|some f=>(yg P f.type).map fun n=>(f.offset,n)|none=>E4)=fun(i:Nat)=>((fs.toList.map fun f=>(f.offset,(yg P f.type).getD 0)).toArray)[i]?:=by
  funext i
  have hm:∀f,fs[i]?=I f→f∈fs.toList:=fun f h=>by rw[Array.mem_toList_iff];exact Array.mem_of_getElem? h
  obtain⟨l⟩:=fs
  simp only[Gc,List.getElem?_map]at hm ⊢
  cases h:l[i]? with
  |none=>rfl
  |some f=>
   obtain⟨n,hn⟩:=Ga.1 (hall f (hm f h))
   simp[hn]
 rw[zF]at ub
 obtain⟨ds,hd,hr⟩:=Me (ps.toList.map fun x=>(x.1,a.eval x.2)) qs z cs zv.cells cw hf ub
 refine⟨.agg ds,?_,.agg cs ds.toList hr⟩
 have ll:(fs.mapM fun(f:Field)=>(do pure (f.offset,←sizeOf f.type):Sem (Nat×Nat))).run P w=.ok ((fs.toList.map fun f=>(f.offset,(yg P f.type).getD 0)).toArray) w:=by
  rw[Array.mapM_eq_mapM_toList]
  simp only[Sem.run_map]
  rw[hm]
  rfl
 have uc:(ps.map fun(x:Nat×Operand)=>(x.1,a.eval x.2)).toList=ps.toList.map fun x=>(x.1,a.eval x.2):=by simp
 simp only[execOp,ho,Instr.build,Sem.run_bind,kM,Result.andThen_ok,run_underlying ht,ll,uc,hd,Sem.run_pure]
theorem qzs {t e:TypeId}{ps:Array (Nat×Operand)}{len n:Nat}{z:List qa}{ft:List (Nat×Nat×qh)}{qs:List (Nat×List qa)}{cs:List qa}(he:aW C env a.tmps)(ho:o.op=.build t ps)(ht:P.underlying t=I (.array len e))(hz:ek P t=I z)
  (hn:yg P e=I n) (lX:wO P (fun i=>I (i*n,n)) ps.toList=I ft) (hq:la env ft=I qs) (hf:jB z qs=I cs):Val P C a o w (.agg cs):=by
 obtain⟨zv,kM,cw,_⟩:=q0p (C:=C) hz w
 have ub:=Si (P:=P) he ps.toList ft qs lX hq
 obtain⟨ds,hd,hr⟩:=Me (ps.toList.map fun x=>(x.1,a.eval x.2)) qs z cs zv.cells cw hf ub
 refine⟨.agg ds,?_,.agg cs ds.toList hr⟩
 have uc:(ps.map fun(x:Nat×Operand)=>(x.1,a.eval x.2)).toList=ps.toList.map fun x=>(x.1,a.eval x.2):=by simp
 simp only[execOp,ho,Instr.build,Sem.run_bind,kM,Result.andThen_ok,run_underlying ht,iL hn,uc,hd,Sem.run_pure]
theorem qp3 {sz:Nat}(he:aW C env a.tmps):∀(ps:List (Nat×Operand)) (ft:List (Nat×qh)) (qs:List (Nat×qa)),wP ps=I ft→iA env sz ft=I qs →
  jj C (fun i=>I (i*sz,sz)) (ps.map fun x=>(x.1,a.eval x.2)) (qs.map fun x=>(x.1*sz,x.2.flat))∧∀q∈qs,q.2.flat.length=sz
 | [],ft,qs,hc,hv=>by
  simp[wP]at hc;subst hc
  simp[iA]at hv;subst hv
  exact⟨.nil,by simp⟩
 |(i,x)::ps,ft,qs,hc,hv=>by
  simp only[wP]at hc
  split at hc
  ·rename_i y r hy hr
   cases hc
   simp only[iA]at hv
   split at hv
   ·rename_i v iK
    cases hb:(Nat.beq v.flat.length sz&&v.flat.all ze)with
    |false=>simp[hb]at hv
    |true=>
     simp only[hb,cT]at hv
     simp only[Gy]at hb
     split at hv
     ·rename_i r' jD
      cases hv
      have hl:=Gd hb.1
      obtain⟨h1,h2⟩:=qp3 he ps r r' hr jD
      refine⟨.cons _ _ _ _ _ _ (by rw[hl]) (zE (zt he hy iK) hb.2) h1,?_⟩
      intro q hq
      rcases List.mem_cons.1 hq with rfl|hq
      ·exact hl
      ·exact h2 q hq
     ·cases hv
   ·cases hv
  ·cases hc
theorem qt8 {sz:Nat}:∀(xs:List qa) (i:Nat) (v:qa),(∀x∈xs,x.flat.length=sz)→v.flat.length=sz→i<xs.length →
  (xs.set i v).flatMap qa.flat=(xs.flatMap qa.flat).take (i*sz)++v.flat++(xs.flatMap qa.flat).drop (i*sz+sz)
 | [],i,v,_,_,h=>by simp at h
 |x::xs,0,v,hl,hv,_=>by
  simp only[List.set_cons_zero,E9,Nat.zero_mul,List.take_zero,List.nil_append,Nat.zero_add]
  rw[List.drop_append_of_le_length (by rw[hl x (by simp)];exact E3 _),Ef (by rw[hl x (by simp)];exact E3 _)]
  simp
 |x::xs,i+1,v,hl,hv,h=>by
  simp only[List.set_cons_succ,E9]
  rw[qt8 xs i v (fun y hy=>hl y (by simp[hy])) hv (by simpa using h)]
  have hx:=hl x (by simp)
  have e1:(i+1)*sz=x.flat.length+i*sz:=by rw[hx,E1];omega
  have t1:List.take (x.flat.length+i*sz) (x.flat++xs.flatMap qa.flat)=x.flat++(xs.flatMap qa.flat).take (i*sz):=List.take_length_add_append _
  have t2:List.drop (x.flat.length+i*sz+sz) (x.flat++xs.flatMap qa.flat)=(xs.flatMap qa.flat).drop (i*sz+sz):=by
   rw[Hh];exact List.drop_length_add_append _
  rw[e1,t1,t2]
  simp
theorem lm {sz:Nat}:∀(xs:List qa),(∀x∈xs,x.flat.length=sz)→(xs.flatMap qa.flat).length=xs.length*sz
 | [],_=>by simp
 |x::xs,h=>by
  simp only[E9,List.length_append,List.length_cons]
  rw[lm xs (fun y hy=>h y (by simp[hy])),h x (by simp),E1];omega
theorem qxe {sz:Nat}:∀(qs:List (Nat×qa)) (xs ys:List qa),lb xs qs=I ys→(∀x∈xs,x.flat.length=sz)→(∀q∈qs,q.2.flat.length=sz) →
  jB (xs.flatMap qa.flat) (qs.map fun x=>(x.1*sz,x.2.flat))=I (ys.flatMap qa.flat)∧(∀y∈ys,y.flat.length=sz)∧ys.length=xs.length
 | [],xs,ys,h,hx,_=>by simp[lb]at h;subst h;exact⟨rfl,hx,rfl⟩
 |(i,v)::qs,xs,ys,h,hx,hq=>by
  simp only[lb]at h
  cases hb:Nat.blt i xs.length with
  |false=>simp[hb]at h
  |true=>
   simp only[hb,cT]at h
   have aY:i<xs.length:=by have:=En hb;omega
   have hv:=hq (i,v) (by simp)
   obtain⟨h1,h2,h3⟩:=qxe qs (xs.set i v) ys h (fun y hy=>by
    rcases List.mem_or_eq_of_mem_set hy with h|rfl
    ·exact hx y h
    ·exact hv) (fun q h=>hq q (by simp[h]))
   refine⟨?_,h2,by simpa using h3⟩
   have hl:=lm xs hx
   have hle:i*sz+sz≤xs.length*sz:=by rw[←E1];exact Nat.mul_le_mul_right _ aY
   simp only[Hq,jB]
   rw[show Gm (i*sz+v.flat.length) (xs.flatMap qa.flat).length=Ge from by rw[Nat.ble_eq];simp only at hv;omega]
   simp only[cT]
   rw[qt8 xs i v hx hv aY]at h1
   simp only at hv
   rw[hv]
   exact h1
end
end Go.Abs
