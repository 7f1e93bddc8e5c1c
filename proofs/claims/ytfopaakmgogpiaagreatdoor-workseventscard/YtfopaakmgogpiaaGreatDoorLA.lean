/- The library's functions in the abstract machine. -/
import Derived.Test.YtfopaakmgogpiaaGreatDoorZS
import Derived.Test.YtfopaakmgogpiaaGreatDoorAbsH
import Derived.Test.YtfopaakmgogpiaaGreatDoorZP
import Derived.Lib.AppendIntMem
import Derived.Lib.SplitLaws
import Derived.Test.YtfopaakmgogpiaaGreatDoorZM
import Derived.Test.YtfopaakmgogpiaaGreatDoorG0
import Derived.Lib.CutLaws
set_option linter.unusedVariables false
set_option linter.unusedSimpArgs false
set_option maxRecDepth 100000
open Nat renaming eq_of_beq_eq_true→I,beq→E0,le_of_ble_eq_true→E3,blt→Ga,ble→Gb,blt_eq→Gm
open Bool renaming and_eq_true→Ef,false→En,cond_eq_ite→E4,true→E7,false_eq_true→E9
open Option renaming some→E1,none→E6
open List renaming length_map→Gc,isPrefixOf→Gd,length_singleton→Ge,cons_append→Gy,mem_map→Gz,map_map→Ha
namespace Go.Z
open Go Go.Abs Go.Proofs Go.RowKit
theorem q11 {C:ay}:∀(l:List ByteArray),aM C (l.map fun s=>.str s.data.toList) (l.map Value.string)
 | []=>.nil
 |s::l=>.cons _ _ _ _ (show bF C (.str s.data.toList) (.string s)from .str _) (q11 l)
theorem q19 {C:ay}{r:Nat}:∀ {ss:List (List UInt8)} {o:Nat},aX C r 1 (ss.map qa.str) o→∀(j:Nat) s,ss[j]?=E1 s→C.K r (o+j)=E1 (.string ⟨⟨s⟩⟩)
 | [],o,_,j,s,hj=>by simp at hj
 |x::ss,o,h,j,s,hj=>by
  cases h with
  |db _ _ _ _ _ hs hx hr=>
   cases j with
   |zero=>
    simp only[List.getElem?_cons_zero,E1.injEq]at hj
    subst hj
    cases hx with
    |dh _ _ _ _ u hv hu _=>
     rw[Nat.add_zero,hv,bF.bX hu]
   |succ j=>
    have:=q19 hr j s (by simpa using hj)
    rw[show o+(j+1)=o+1+j by omega]
    exact this
theorem VZ {w w':World}(h:Below w.heap.size w w'):Ext w w':=⟨h.size,h.block,h.os,h.output⟩
theorem jig {n:Int}(h0:-9223372036854775808≤n)(h1:n≤9223372036854775807):IsoCall Tryz.prog 153 [.int .i64 n] (.str (Lib.itoa n)) En:=by
 refine Gn fun K w vs ht hk hr=>?_
 cases hr with
 |cons _ _ v vs hx hr=>
  cases hr
  obtain rfl:=bF.bH hx
  have hg:Tryz.prog.globalNamed nD=E1 1:=by kernel_rfl
  refine⟨.string ⟨⟨Lib.itoa n⟩⟩,.str _,(Tryz.strconv_Itoa n h0 h1 w (ht.table hg)).mono ?_⟩
  rintro e w' ⟨rfl,k,os,rfl⟩
  exact⟨rfl,VZ (Lib.below_grow w.heap.size w (Nat.le_refl _) k os)⟩
theorem q1h {s:List UInt8}{c:Int}:IsoCall Tryz.prog 264 [.str s,.int .u8 c] (.int .i64 (Lib.indexByte s c.toNat.toUInt8)) En:=by
 refine Gn fun K w vs ht hk hr=>?_
 cases hr with
 |cons _ _ v vs hx hr=>
  cases hr with
  |cons _ _ v2 vs ic hr=>
   cases hr
   obtain rfl:=bF.bX hx
   obtain rfl:=bF.bH ic
   refine⟨_,.int _ _,(Tryz.stringslite_IndexByte ⟨⟨s⟩⟩ c w).mono ?_⟩
   rintro e w' ⟨rfl,rfl⟩
   exact⟨rfl,Ext.refl _⟩
theorem jb6 {s p:List UInt8}(hs:s.length<4294967281)(hp:1≤p.length):IsoCall Tryz.prog 149 [.str s,.str p] (.list En 1 ((Lib.splitB ⟨⟨p⟩⟩ 0 (Lib.countB ⟨⟨s⟩⟩ ⟨⟨p⟩⟩) ⟨⟨s⟩⟩).map fun x=>.str x.data.toList)) En:=by
 refine jdu (us:=(Lib.splitB ⟨⟨p⟩⟩ 0 (Lib.countB ⟨⟨s⟩⟩ ⟨⟨p⟩⟩) ⟨⟨s⟩⟩).map Value.string) (t:=9) (fun x hx=>?_) (fun K=>q11 _) (fun u hu=>?_) fun K w vs ht hk hr=>?_
 ·obtain⟨y,_,rfl⟩:=Gz.1 hx;rfl
 ·obtain⟨y,_,rfl⟩:=Gz.1 hu;rfl
 ·cases hr with
  |cons _ _ v vs hx hr=>
   cases hr with
   |cons _ _ v2 vs ic hr=>
    cases hr
    obtain rfl:=bF.bX hx
    obtain rfl:=bF.bX ic
    have hg0:Tryz.prog.globalNamed wT=E1 0:=by kernel_rfl
    obtain⟨m,hm⟩:=ht.length hg0
    refine(Tryz.strings_Split ⟨⟨s⟩⟩ ⟨⟨p⟩⟩ m w hs hm hp).mono ?_
    rintro e w' ⟨rfl,rfl⟩
    refine⟨?_,rfl⟩
    rw[Gc,Lib.splitB_all ⟨⟨p⟩⟩ hp 0 _ ⟨⟨s⟩⟩ rfl]
theorem jfs {ss:List (List UInt8)}{p:List UInt8}(bA:ss≠[])(hN:ss.length≤140737488355328)(hlen:(Lib.join ss p).length≤140737488355328):IsoCall Tryz.prog 99 [.list En 1 (ss.map .str),.str p] (.str (Lib.join ss p)) En:=by
 refine Gn fun K w vs ht hk hr=>?_
 cases hr with
 |cons _ _ v vs hx hr=>
  cases hr with
  |cons _ _ v2 vs ic hr=>
   cases hr
   obtain rfl:=bF.bX ic
   have hl:∃r o cap,v=.slice (E1 ⟨r,o,E6⟩) (ss.map qa.str).length cap∧(ss.map qa.str).length≤cap∧aX (.bM K) r 1 (ss.map .str) o:=by
    generalize hq:ss.map qa.str=q at hx
    cases hx with
    |list _ _ r o cap hl cM=>exact⟨r,o,cap,rfl,hl,cM⟩
    |iJ _ a hs=>exact absurd (List.map_eq_nil_iff.1 hq) bA
   obtain⟨r,o,cap,rfl,hcap,cM⟩:=hl
   have ll:(ss.map fun s=>(⟨⟨s⟩⟩:ByteArray)).map (·.data.toList)=ss:=by
    rw[Ha]
    exact List.map_id' _
   have hcells:∀(j:Nat) x,(ss.map fun s=>(⟨⟨s⟩⟩:ByteArray))[j]?=E1 x→w.cell? ⟨r,o+j,E6⟩=E1 (.string x):=by
    intro j x hj
    rw[List.getElem?_map,Option.map_eq_some_iff]at hj
    obtain⟨s,hs,rfl⟩:=hj
    exact hk _ _ _ (q19 cM j s hs)
   have hbk:r<w.heap.size:=by
    cases oZ:ss with
    |nil=>exact absurd oZ bA
    |cons s l=>
     have:=hcells 0 ⟨⟨s⟩⟩ (by rw[oZ];rfl)
     rcases Nat.lt_or_ge r w.heap.size with h|h
     ·exact h
     ·simp[World.cell?,Array.getElem?_eq_none h]at this
   have hj:=Tryz.strings_Join r o cap (ss.map fun s=>(⟨⟨s⟩⟩:ByteArray)) ⟨⟨p⟩⟩ w hcells hbk (by simpa using hN) (by simpa using hcap) (by rw[ll];exact hlen)
   rw[ll,Gc]at hj
   rw[Gc]
   refine⟨.string ⟨⟨Lib.join ss p⟩⟩,.str _,hj.mono ?_⟩
   rintro e w' ⟨rfl,hb⟩
   exact⟨rfl,VZ hb⟩
theorem q86 {s:List UInt8}{c:Nat}(hc:c≤9223372036854775807)(hlen:s.length*c≤140737488355328):IsoCall Tryz.prog 229 [.str s,.int .i64 (c:Int)] (.str (Lib.repeatL s c)) En:=by
 refine Gn fun K w vs ht hk hr=>?_
 cases hr with
 |cons _ _ v vs hx hr=>
  cases hr with
  |cons _ _ v2 vs ic hr=>
   cases hr
   obtain rfl:=bF.bX hx
   obtain rfl:=bF.bH ic
   refine⟨.string ⟨⟨Lib.repeatL s c⟩⟩,.str _,(Tryz.strings_Repeat ⟨⟨s⟩⟩ c w hc hlen).mono ?_⟩
   rintro e w' ⟨rfl,hb⟩
   exact⟨rfl,VZ hb⟩
theorem q1b {p:List UInt8}:IsoCall Tryz.prog 99 [.list E7 0 [],.str p] (.str []) En:=by
 refine Gn fun K w vs ht hk hr=>?_
 cases hr with
 |cons _ _ v vs hx hr=>
  cases hr with
  |cons _ _ v2 vs ic hr=>
   cases hr
   obtain rfl:=bF.bX ic
   cases hx
   refine⟨.string ⟨#[]⟩,.str _,(Tryz.strings_Join_none _ _ ⟨⟨p⟩⟩ w).mono ?_⟩
   rintro e w' ⟨rfl,rfl⟩
   exact⟨rfl,Ext.refl _⟩
end Go.Z
namespace Go.Z
open Go Go.Abs Go.Proofs
def vU (c:UInt8)(acc:List UInt8):List UInt8→List (List UInt8)
 | []=>[acc]
 |x::t=>if x=c then acc::vU c [] t else vU c (acc++[x]) t
def vV (c:UInt8)(s:List UInt8):List (List UInt8):=vU c [] s
theorem q6u {c:UInt8}:∀ {s:List UInt8} {acc:List UInt8},c ∉ s→vU c acc s=[acc++s]
 | [],acc,_=>by simp[vU]
 |x::t,acc,h=>by
  have h1:x≠c:=fun e=>h (by simp[e])
  have h2:c ∉ t:=fun e=>h (by simp[e])
  rw[vU,if_neg h1,q6u h2]
  simp
theorem q68 {c:UInt8}:∀ {a b acc:List UInt8},c ∉ a→vU c acc (a++c::b)=(acc++a)::vV c b
 | [],b,acc,_=>by simp[vU,vV]
 |x::t,b,acc,h=>by
  have h1:x≠c:=fun e=>h (by simp[e])
  have h2:c ∉ t:=fun e=>h (by simp[e])
  rw[Gy,vU,if_neg h1,q68 h2]
  simp
theorem jqq {c:UInt8}{s:List UInt8}(h:c ∉ s):vV c s=[s]:=q6u h
theorem joj {c:UInt8}{a b:List UInt8}(h:c ∉ a):vV c (a++c::b)=a::vV c b:=q68 h
theorem jbj (c:UInt8)(s:List UInt8):c ∉ s∨∃a b,s=a++c::b∧c ∉ a:=by
 by_cases h:c∈s
 ·obtain⟨a,b,h1,h2⟩:=List.eq_append_cons_of_mem h
  exact .inr ⟨a,b,h1,h2⟩
 ·exact .inl h
theorem q62 {c:UInt8}{P:List UInt8→Prop}(h0:∀s,c ∉ s→P s)(h1:∀a b,c ∉ a→P b→P (a++c::b)):∀(n:Nat) (s:List UInt8),s.length≤n→P s
 |0,s,hn=>h0 s (by rw[List.length_eq_zero_iff.1 (by omega:s.length=0)];simp)
 |n+1,s,hn=>by
  rcases jbj c s with h|⟨a,b,rfl,h⟩
  ·exact h0 s h
  ·exact h1 a b h (q62 h0 h1 n b (by simp only[List.length_append,List.length_cons]at hn;omega))
theorem q4r {c:UInt8}:∀ {s:List UInt8},c ∉ s→Lib.index s [c]=-1
 | [],_=>rfl
 |x::t,h=>by
  have h1:x≠c:=fun e=>h (by simp[e])
  have h2:c ∉ t:=fun e=>h (by simp[e])
  have hp:([c]:List UInt8).isPrefixOf (x::t)=En:=by simp[Gd,Ne.symm h1]
  rw[Lib.index,hp,q4r h2];rfl
theorem q3f {c:UInt8}:∀ {a b:List UInt8},c ∉ a→Lib.index (a++c::b) [c]=(a.length:Int)
 | [],b,_=>by simp[Lib.index,Gd]
 |x::t,b,h=>by
  have h1:x≠c:=fun e=>h (by simp[e])
  have h2:c ∉ t:=fun e=>h (by simp[e])
  have hp:([c]:List UInt8).isPrefixOf (x::(t++c::b))=En:=by simp[Gd,Ne.symm h1]
  have bA:((t.length:Int) == -1)=En:=by simp
  rw[Gy,Lib.index,hp,q3f h2,bA]
  simp
theorem jg0 (c:UInt8)(s:List UInt8):Lib.split s [c]=vV c s:=by
 refine q62 (c:=c) (P:=fun s=>Lib.split s [c]=vV c s) ?_ ?_ s.length s (Nat.le_refl _)
 ·intro s h
  rw[jqq h,Lib.split,Lib.count_miss (q4r h)];rfl
 ·intro a b h ih
  have hi:=q3f (b:=b) h
  have hd:(a++c::b).drop (a.length+1)=b:=by
   rw[show a++c::b=(a++[c])++b by simp,show a.length+1=(a++[c]).length by simp,List.drop_left]
  have hm:((a.length:Int) == -1)=En:=by simp
  rw[joj h,Lib.split,Lib.count_hit (by simp) hi]
  simp only[Ge,hd,Nat.add_comm 1]
  rw[Lib.splitK,hi,hm]
  simp only[E9,if_false,Int.toNat_natCast,Nat.add_zero,Ge,hd]
  rw[List.take_left',←ih]; · rfl
  ·rfl
def HC (c:UInt8):List UInt8→Nat→Int
 | [],_=>-1
 |b::l,n=>bif b == c then(n:Int)else HC c l (n+1)
theorem q67 (c:UInt8):∀(l:List UInt8) (n:Nat),HC c l n=if Lib.indexByte l c == -1 then -1 else Lib.indexByte l c+n
 | [],n=>rfl
 |b::l,n=>by
  have uh:=Lib.indexByte_ge l c
  rw[HC,Lib.indexByte,q67 c l (n+1)]
  cases hb:(b == c)with
  |true=>simp
  |false=>
   simp only[cond_false,E9,if_false]
   by_cases h:Lib.indexByte l c=-1
   ·simp[h]
   ·have h1:(Lib.indexByte l c == -1)=En:=by simpa using h
    have h2:(Lib.indexByte l c+1 == -1)=En:=by simp;omega
    simp only[h1,h2,E9,if_false]
    omega
theorem jcu (c:UInt8)(l:List UInt8):HC c l 0=Lib.indexByte l c:=by
 rw[q67]
 by_cases h:Lib.indexByte l c=-1
 ·simp[h]
 ·have h1:(Lib.indexByte l c == -1)=En:=by simpa using h
  simp[h1]
def HD:Nat→Nat→List UInt8→List UInt8
 |0,_,acc=>acc
 |f+1,u,acc=>bif Ga u 10 then UInt8.ofNat (48+u)::acc else HD f (u / 10) (UInt8.ofNat (48+u % 10)::acc)
theorem q60:∀ (f u:Nat) (acc:List UInt8),u<10^f→0<f→HD f u acc=Lib.decDigits u++acc
 |0,_,_,_,h=>by omega
 |f+1,u,acc,hu,_=>by
  rw[HD,Lib.decDigits]
  by_cases h:u<10
  ·rw[Gm.mpr h];simp[h]
  ·have hb:Ga u 10=En:=by
    cases hh:Ga u 10 with
    |false=>rfl
    |true=>exact absurd (Gm.mp hh) h
   have hf:0<f:=by
    rcases Nat.eq_zero_or_pos f with rfl|h1
    ·simp at hu;omega
    ·exact h1
   rw[hb,dif_neg h]
   simp only[cond_false]
   rw[q60 f (u / 10) _ (by rw[Nat.pow_succ]at hu;omega) hf]
   simp
def NG:List qa→Option (List (List UInt8))
 | []=>E1 []
 | .str s::l=>match NG l with
  |some r=>E1 (s::r)
  |none=>E6
 |_=>E6
theorem q0m:∀ {l:List qa} {r:List (List UInt8)},NG l=E1 r→l=r.map .str
 | [],r,h=>by cases h;rfl
 | .str s::l,r,h=>by
  simp only[NG]at h
  split at h
  ·rename_i q hq
   cases h
   rw[q0m hq];rfl
  ·cases h
 | .bool _::_,_,h | .int ..::_,_,h | .list ..::_,_,h | .ms ..::_,_,h | .ptr ..::_,_,h | .ah _::_,_,h | .bO::_,_,h | .map _::_,_,h | .bN::_,_,h | .fn ..::_,_,h | .bY::_,_,h | .agg _::_,_,h | .aB _::_,_,h | .undef::_,_,h | .any::_,_,h | .ak ..::_,_,h | .cJ ..::_,_,h | .cE _::_,_,h=>by cases h
def V0:List qa→Option (qa×Bool)
 | [.str s,.int .u8 (.ofNat c)]=>E1 (.int .i64 (HC (UInt8.ofNat c) s 0),En)
 |_=>E6
def V1:List qa→Option (qa×Bool)
 | [.str s,.str [c]]=>bif Ga s.length 4294967281 then E1 (.list En 1 ((vV c s).map .str),En)else E6
 |_=>E6
def t99:List qa→Option (qa×Bool)
 | [.list E7 0 [],.str _]=>E1 (.str [],En)
 | [.list En 1 l,.str p]=>match NG l with
  |some (s::ss)=>bif Gb (s::ss).length 100000&&Gb (p.intercalate (s::ss)).length 100000000 then E1 (.str (p.intercalate (s::ss)),En)else E6
  |_=>E6
 |_=>E6
def HE:List qa→Option (qa×Bool)
 | [.int .i64 (.ofNat n)]=>bif Ga n 1000000000000000000 then E1 (.str (HD 18 n []),En)else E6
 |_=>E6
def V2:List qa→Option (qa×Bool)
 | [.str s,.int .i64 (.ofNat c)]=>bif Gb c 100000&&Gb (s.length*c) 100000 then E1 (.str (Lib.repeatL s c),En)else E6
 |_=>E6
theorem jmd {args:List qa}{v:qa}{o:Bool}(h:V0 args=E1 (v,o)):IsoCall Tryz.prog 264 args v o:=by
 unfold V0 at h;split at h
 ·rename_i s c
  cases h
  rw[jcu]
  exact q1h (s:=s) (c:=Int.ofNat c)
 ·cases h
theorem jlv {args:List qa}{v:qa}{o:Bool}(h:V1 args=E1 (v,o)):IsoCall Tryz.prog 149 args v o:=by
 unfold V1 at h;split at h
 ·rename_i s c
  cases hl:Ga s.length 4294967281 with
  |false=>rw[hl]at h;cases h
  |true=>
   rw[hl]at h
   cases h
   have:=jb6 (s:=s) (p:=[c]) (Gm.mp hl) (by simp)
   have e:(Lib.splitB ⟨⟨[c]⟩⟩ 0 (Lib.countB ⟨⟨s⟩⟩ ⟨⟨[c]⟩⟩) ⟨⟨s⟩⟩).map (fun x=>qa.str x.data.toList)=(vV c s).map .str:=by
    rw[←jg0]
    have e2:(Lib.splitB ⟨⟨[c]⟩⟩ 0 (Lib.countB ⟨⟨s⟩⟩ ⟨⟨[c]⟩⟩) ⟨⟨s⟩⟩).map (·.data.toList)=Lib.split s [c]:=by
     rw[Lib.splitB_data];rfl
    rw[←e2,Ha];rfl
   rw[e]at this
   exact this
 ·cases h
theorem jrb {args:List qa}{v:qa}{o:Bool}(h:t99 args=E1 (v,o)):IsoCall Tryz.prog 99 args v o:=by
 unfold t99 at h;split at h
 ·cases h;exact q1b
 ·rename_i l p
  split at h
  ·rename_i s ss hq
   cases hk:(Gb (s::ss).length 100000&&Gb (p.intercalate (s::ss)).length 100000000)with
   |false=>rw[hk]at h;cases h
   |true=>
    rw[hk]at h
    cases h
    simp only[Ef]at hk
    have h1:=E3 hk.1
    have h2:=E3 hk.2
    rw[q0m hq]
    exact jfs (ss:=s::ss) (p:=p) (by simp) (by omega) (by show(p.intercalate (s::ss)).length≤_;omega)
  ·cases h
 ·cases h
theorem q6h {args:List qa}{v:qa}{o:Bool}(h:HE args=E1 (v,o)):IsoCall Tryz.prog 153 args v o:=by
 unfold HE at h;split at h
 ·rename_i n
  cases hk:Ga n 1000000000000000000 with
  |false=>rw[hk]at h;cases h
  |true=>
   rw[hk]at h
   cases h
   have hn:=Gm.mp hk
   have:=jig (n:=Int.ofNat n) (by simp<;>omega) (by simp<;>omega)
   have e:Lib.itoa (Int.ofNat n)=HD 18 n []:=by
    rw[q60 18 n [] (by omega) (by omega),List.append_nil]
    unfold Lib.itoa
    rw[if_neg (by simp)]
    rfl
   rw[e]at this
   exact this
 ·cases h
theorem jm9 {args:List qa}{v:qa}{o:Bool}(h:V2 args=E1 (v,o)):IsoCall Tryz.prog 229 args v o:=by
 unfold V2 at h;split at h
 ·rename_i s c
  cases hk:(Gb c 100000&&Gb (s.length*c) 100000)with
  |false=>rw[hk]at h;cases h
  |true=>
   rw[hk]at h
   cases h
   simp only[Ef]at hk
   have h1:=E3 hk.1
   have h2:=E3 hk.2
   exact q86 (s:=s) (c:=c) (by omega) (by omega)
 ·cases h
theorem jce {k:Nat}{f:qd}(h:Is k f):Abs.Enters Tryz.prog k:=by
 obtain⟨fn,hh,h1,h2⟩:=h
 obtain⟨c,g1,g2,g3,g4,g5⟩:=S5 h2
 exact⟨fn,h1,g5,by rw[g1];rfl⟩
theorem tU {k:Nat}(h:(tree.find k).isSome=E7):Abs.Enters Tryz.prog k:=by
 obtain⟨f,hf⟩:=Option.isSome_iff_exists.1 h
 exact jce (jb.fM all hf)
def RP:vh:=fun k=>bif E0 k 264 then E1 V0 else bif E0 k 149 then E1 V1 else bif E0 k 99 then E1 t99 else bif E0 k 153 then E1 HE else bif E0 k 229 then E1 V2 else E6
def V3 (args:List qa)(h:j8):Option (qa×Bool×j8):=bif zu 0 args then(match HE args with
 |some (v,_)=>E1 (v,En,h)
 |none=>E6)else E6
def q6s:jc9:=fun k=>bif E0 k 153 then E1 V3 else E6
def isL (k:Nat):Bool:=E0 k 264||E0 k 149||E0 k 99||E0 k 153||E0 k 229
def bu:qt:={ bj:=fun k=>bif isL k then E6 else pr.bj k,cq:=RP,dl:=q6s,maps:=V4 }
theorem jmh {args:List qa}{h:j8}{v:qa}{o:Bool}{h':j8}(hq:V3 args h=E1 (v,o,h')):zW Tryz.prog 153 args h v o h':=by
 unfold V3 at hq
 cases hb:zu 0 args with
 |false=>rw[hb]at hq;cases hq
 |true=>
  rw[hb]at hq
  simp only[cT]at hq
  split at hq
  ·rename_i v' o' ht
   cases hq
   have hv:lU v=E7:=by
    unfold HE at ht;split at ht
    ·rename_i n
     cases hk:Ga n 1000000000000000000 with
     |false=>rw[hk]at ht;cases ht
     |true=>rw[hk]at ht;cases ht;rfl
    ·cases ht
   exact(q6h ht).shr hb hv h
  ·cases hq
theorem RQ:∀ (t:List (Nat×List Row)),(t.all fun p=>(tree.find p.1).isSome)=E7→∀k l,wK t k=E1 l→(tree.find k).isSome=E7
 |(j,m)::t,h,k,l,hk=>by
  simp only[List.all_cons,Ef]at h
  simp only[wK,E4]at hk
  split at hk
  ·next hb=>rw[←I hb];exact h.1
  ·exact RQ t h.2 k l hk
theorem Ba:qx Tryz.prog pr:=okM ok0
theorem bw:qx Tryz.prog bu where
 fn:=by
  intro k f hf
  simp only[bu,E4]at hf
  split at hf
  ·cases hf
  ·exact Ba.fn k f hf
 gG:=by
  intro k f hf
  simp only[bu,RP,E4]at hf
  split at hf
  ·next hb=>cases hf;obtain rfl:=I hb;exact⟨tU (k:=264) (by kernel_rfl),fun args v o h _ _=>jmd h⟩
  split at hf
  ·next hb=>cases hf;obtain rfl:=I hb;exact⟨tU (k:=149) (by kernel_rfl),fun args v o h _ _=>jlv h⟩
  split at hf
  ·next hb=>cases hf;obtain rfl:=I hb;exact⟨tU (k:=99) (by kernel_rfl),fun args v o h _ _=>jrb h⟩
  split at hf
  ·next hb=>cases hf;obtain rfl:=I hb;exact⟨tU (k:=153) (by kernel_rfl),fun args v o h _ _=>q6h h⟩
  split at hf
  ·next hb=>cases hf;obtain rfl:=I hb;exact⟨tU (k:=229) (by kernel_rfl),fun args v o h _ _=>jm9 h⟩
  ·cases hf
 mixed:=Ba.mixed
 fD:=by
  intro k f hf
  simp only[bu,q6s,E4]at hf
  split at hf
  ·next hb=>cases hf;obtain rfl:=I hb;exact⟨tU (k:=153) (by kernel_rfl),fun args h v o h' hq=>jmh hq⟩
  ·cases hf
 maps:=Ba.maps
end Go.Z
namespace Go.Z
open Go Go.Abs Go.Proofs
def Eh:qa→qa→Bool
 | .fn (.func a) [] [],.fn (.func b) [] []=>E0 a b
 | .bY,.bY=>E7
 | .ak a b c,.ak a' b' c'=>E0 a a'&&(E0 b b'&&E0 c c')
 | .ptr a b,.ptr a' b'=>E0 a a'&&E0 b b'
 |a,b=>iF a b
theorem NH {a b:qa}(h:Eh a b=E7):a=b:=by
 unfold Eh at h
 split at h
 ·rw[I h]
 ·rfl
 ·simp only[Ef]at h
  rw[I h.1,I h.2.1,I h.2.2]
 ·simp only[Ef]at h
  rw[I h.1,I h.2]
 ·exact q0b h
def HF:List qa→List qa→Bool
 | [],[]=>E7
 |a::l,b::m=>Eh a b&&HF l m
 |_,_=>En
theorem V5:∀ {l m:List qa},HF l m=E7→l=m
 | [],[],_=>rfl
 |a::l,b::m,h=>by
  simp only[HF,Ef]at h
  rw[NH h.1,V5 h.2]
 | [],_::_,h=>by cases h
 |_::_,[],h=>by cases h
def V6:qa→qa→Bool
 | .agg l,.agg m=>HF l m
 |a,b=>Eh a b
theorem jb7 {a b:qa}(h:V6 a b=E7):a=b:=by
 unfold V6 at h
 split at h
 ·rw[V5 h]
 ·exact NH h
def NI:List (qa×Bool)→List (qa×Bool)→Bool
 | [],[]=>E7
 |(a,o)::l,(b,q)::m=>Eh a b&&((o == q)&&NI l m)
 |_,_=>En
theorem qw5:∀ {l m:List (qa×Bool)},NI l m=E7→l=m
 | [],[],_=>rfl
 |(a,o)::l,(b,q)::m,h=>by
  simp only[NI,Ef,beq_iff_eq]at h
  rw[NH h.1,h.2.1,qw5 h.2.2]
 | [],_::_,h=>by cases h
 |_::_,[],h=>by cases h
def NJ:List (qa×qa)→List (qa×qa)→Bool
 | [],[]=>E7
 |(a,o)::l,(b,q)::m=>Eh a b&&(V6 o q&&NJ l m)
 |_,_=>En
theorem qxb:∀ {l m:List (qa×qa)},NJ l m=E7→l=m
 | [],[],_=>rfl
 |(a,o)::l,(b,q)::m,h=>by
  simp only[NJ,Ef]at h
  rw[NH h.1,jb7 h.2.1,qxb h.2.2]
 | [],_::_,h=>by cases h
 |_::_,[],h=>by cases h
def V7:qn→qn→Bool
 | .hole,.hole=>E7
 | .dead,.dead=>E7
 | .cells l,.cells m=>NI l m
 | .map l,.map m=>NJ l m
 | .vec a b l,.vec a' b' m=>E0 a a'&&(E0 b b'&&uy l m)
 |_,_=>En
theorem q8o {a b:qn}(h:V7 a b=E7):a=b:=by
 unfold V7 at h
 split at h
 ·rfl
 ·rfl
 ·rw[qw5 h]
 ·rw[qxb h]
 ·simp only[Ef]at h
  rw[I h.1,I h.2.1,DK h.2.2]
 ·cases h
def NK:j8→j8→Bool
 | [],[]=>E7
 |a::l,b::m=>V7 a b&&NK l m
 |_,_=>En
theorem qx8:∀ {l m:j8},NK l m=E7→l=m
 | [],[],_=>rfl
 |a::l,b::m,h=>by
  simp only[NK,Ef]at h
  rw[q8o h.1,qx8 h.2]
 | [],_::_,h=>by cases h
 |_::_,[],h=>by cases h
abbrev dL:=List qa×j8×qa×Bool×j8
def LS (args:List qa)(h:j8):List dL→Option (qa×Bool×j8)
 | []=>E6
 |r::l=>bif HF args r.1&&NK h r.2.1 then E1 r.2.2 else LS args h l
theorem qz7 {args:List qa}{h:j8}{x:qa×Bool×j8}:∀ {l:List dL},LS args h l=E1 x→(args,h,x)∈l
 | [],h=>by cases h
 |r::l,hx=>by
  simp only[LS,E4]at hx
  split at hx
  ·next hb=>
   simp only[Ef]at hb
   cases hx
   rw[V5 hb.1,qx8 hb.2]
   exact List.mem_cons_self ..
  ·exact List.mem_cons_of_mem _ (qz7 hx)
def RR (P:Program)(k:Nat):List dL→Prop
 | []=>True
 |r::l=>zW P k r.1 r.2.1 r.2.2.1 r.2.2.2.1 r.2.2.2.2∧RR P k l
theorem q4j {P:Program}{k:Nat}:∀ {l:List dL},RR P k l→∀r∈l,zW P k r.1 r.2.1 r.2.2.1 r.2.2.2.1 r.2.2.2.2
 |r::l,h,x,hx=>by
  cases hx with
  |head=>exact h.1
  |tail _ hx=>exact q4j h.2 x hx
theorem yo {P:Program}{p:qt}(hp:qx P p){n k:Nat}{args:List qa}{h h':j8}{v:qa}{o:Bool}(hr:zf p (hZ p n) k args h=E1 (v,o,h')):zW P k args h v o h':=
 (FE hp (cg.F9 (MI hp n).1) (by rw[←MO];exact hr)).2
end Go.Z
