/- The library's functions in the abstract machine. -/
import Derived.Test.YtfopaakmgogpiaaGreatDoorZS
import Derived.Test.YtfopaakmgogpiaaGreatDoorZP
import Derived.Lib.AppendIntMem
import Derived.Test.YtfopaakmgogpiaaGreatDoorG0
set_option linter.unusedVariables false
set_option linter.unusedSimpArgs false
set_option maxRecDepth 100000
open Nat renaming eq_of_beq_eq_true→I,beq→En,le_of_ble_eq_true→Ev,blt→Gb,ble→Gc,blt_eq→Gl
open Bool renaming and_eq_true→Eh,false→El,cond_eq_ite→E5,true→E7,false_eq_true→Ga
open Option renaming some→Eo,none→E6
open List renaming length_map→Gh,isPrefixOf→Gi,length_singleton→Gk,cons_append→Gm,mem_map→Gn,map_map→Gp
namespace Go.Z
open Go Go.Abs Go.Proofs Go.RowKit
theorem q4a {C:ax}:∀(l:List ByteArray),aK C (l.map fun s=>.str s.data.toList) (l.map Value.string)
 | []=>.nil
 |s::l=>.cons _ _ _ _ (show bC C (.str s.data.toList) (.string s)from .str _) (q4a l)
theorem q1i {C:ax}{r:Nat}:∀ {ss:List (List UInt8)} {o:Nat},aX C r 1 (ss.map qa.str) o→∀(j:Nat) s,ss[j]?=Eo s→C.K r (o+j)=Eo (.string ⟨⟨s⟩⟩)
 | [],o,_,j,s,hj=>by simp at hj
 |x::ss,o,h,j,s,hj=>by
  cases h with
  |cY _ _ _ _ _ hs hx hr=>
   cases j with
   |zero=>
    simp only[List.getElem?_cons_zero,Eo.injEq]at hj
    subst hj
    cases hx with
    |de _ _ _ _ u hv hu _=>
     rw[Nat.add_zero,hv,bC.bW hu]
   |succ j=>
    have:=q1i hr j s (by simpa using hj)
    rw[show o+(j+1)=o+1+j by omega]
    exact this
theorem VP {w w':World}(h:Below w.heap.size w w'):Ext w w':=⟨h.size,h.block,h.os,h.output⟩
theorem jdj {n:Int}(h0:-9223372036854775808≤n)(h1:n≤9223372036854775807):IsoCall Tryz.prog 153 [.int .i64 n] (.str (Lib.itoa n)) El:=by
 refine Gy fun K w vs ht hk hr=>?_
 cases hr with
 |cons _ _ v vs hx hr=>
  cases hr
  obtain rfl:=bC.bF hx
  have hg:Tryz.prog.globalNamed nw=Eo 1:=by kernel_rfl
  refine⟨.string ⟨⟨Lib.itoa n⟩⟩,.str _,(Tryz.strconv_Itoa n h0 h1 w (ht.table hg)).mono ?_⟩
  rintro e w' ⟨rfl,k,os,rfl⟩
  exact⟨rfl,VP (Lib.below_grow w.heap.size w (Nat.le_refl _) k os)⟩
theorem q0g {s:List UInt8}{c:Int}:IsoCall Tryz.prog 264 [.str s,.int .u8 c] (.int .i64 (Lib.indexByte s c.toNat.toUInt8)) El:=by
 refine Gy fun K w vs ht hk hr=>?_
 cases hr with
 |cons _ _ v vs hx hr=>
  cases hr with
  |cons _ _ v2 vs ij hr=>
   cases hr
   obtain rfl:=bC.bW hx
   obtain rfl:=bC.bF ij
   refine⟨_,.int _ _,(Tryz.stringslite_IndexByte ⟨⟨s⟩⟩ c w).mono ?_⟩
   rintro e w' ⟨rfl,rfl⟩
   exact⟨rfl,Ext.refl _⟩
theorem jcr {s p:List UInt8}(hs:s.length<4294967281)(hp:1≤p.length):IsoCall Tryz.prog 149 [.str s,.str p] (.list El 1 ((Lib.splitB ⟨⟨p⟩⟩ 0 (Lib.countB ⟨⟨s⟩⟩ ⟨⟨p⟩⟩) ⟨⟨s⟩⟩).map fun x=>.str x.data.toList)) El:=by
 refine jgh (us:=(Lib.splitB ⟨⟨p⟩⟩ 0 (Lib.countB ⟨⟨s⟩⟩ ⟨⟨p⟩⟩) ⟨⟨s⟩⟩).map Value.string) (t:=9) (fun x hx=>?_) (fun K=>q4a _) (fun u hu=>?_) fun K w vs ht hk hr=>?_
 ·obtain⟨y,_,rfl⟩:=Gn.1 hx;rfl
 ·obtain⟨y,_,rfl⟩:=Gn.1 hu;rfl
 ·cases hr with
  |cons _ _ v vs hx hr=>
   cases hr with
   |cons _ _ v2 vs ij hr=>
    cases hr
    obtain rfl:=bC.bW hx
    obtain rfl:=bC.bW ij
    have hg0:Tryz.prog.globalNamed xe=Eo 0:=by kernel_rfl
    obtain⟨m,hm⟩:=ht.length hg0
    refine(Tryz.strings_Split ⟨⟨s⟩⟩ ⟨⟨p⟩⟩ m w hs hm hp).mono ?_
    rintro e w' ⟨rfl,rfl⟩
    refine⟨?_,rfl⟩
    rw[Gh,Lib.splitB_all ⟨⟨p⟩⟩ hp 0 _ ⟨⟨s⟩⟩ rfl]
theorem jfn {ss:List (List UInt8)}{p:List UInt8}(br:ss≠[])(hN:ss.length≤140737488355328)(hlen:(Lib.join ss p).length≤140737488355328):IsoCall Tryz.prog 99 [.list El 1 (ss.map .str),.str p] (.str (Lib.join ss p)) El:=by
 refine Gy fun K w vs ht hk hr=>?_
 cases hr with
 |cons _ _ v vs hx hr=>
  cases hr with
  |cons _ _ v2 vs ij hr=>
   cases hr
   obtain rfl:=bC.bW ij
   have hl:∃r o cap,v=.slice (Eo ⟨r,o,E6⟩) (ss.map qa.str).length cap∧(ss.map qa.str).length≤cap∧aX (.bL K) r 1 (ss.map .str) o:=by
    generalize hq:ss.map qa.str=q at hx
    cases hx with
    |list _ _ r o cap hl cM=>exact⟨r,o,cap,rfl,hl,cM⟩
    |iR _ a hs=>exact absurd (List.map_eq_nil_iff.1 hq) br
   obtain⟨r,o,cap,rfl,hcap,cM⟩:=hl
   have ll:(ss.map fun s=>(⟨⟨s⟩⟩:ByteArray)).map (·.data.toList)=ss:=by
    rw[Gp]
    exact List.map_id' _
   have hcells:∀(j:Nat) x,(ss.map fun s=>(⟨⟨s⟩⟩:ByteArray))[j]?=Eo x→w.cell? ⟨r,o+j,E6⟩=Eo (.string x):=by
    intro j x hj
    rw[List.getElem?_map,Option.map_eq_some_iff]at hj
    obtain⟨s,hs,rfl⟩:=hj
    exact hk _ _ _ (q1i cM j s hs)
   have hbk:r<w.heap.size:=by
    cases xl:ss with
    |nil=>exact absurd xl br
    |cons s l=>
     have:=hcells 0 ⟨⟨s⟩⟩ (by rw[xl];rfl)
     rcases Nat.lt_or_ge r w.heap.size with h|h
     ·exact h
     ·simp[World.cell?,Array.getElem?_eq_none h]at this
   have hj:=Tryz.strings_Join r o cap (ss.map fun s=>(⟨⟨s⟩⟩:ByteArray)) ⟨⟨p⟩⟩ w hcells hbk (by simpa using hN) (by simpa using hcap) (by rw[ll];exact hlen)
   rw[ll,Gh]at hj
   rw[Gh]
   refine⟨.string ⟨⟨Lib.join ss p⟩⟩,.str _,hj.mono ?_⟩
   rintro e w' ⟨rfl,hb⟩
   exact⟨rfl,VP hb⟩
theorem q8z {s:List UInt8}{c:Nat}(hc:c≤9223372036854775807)(hlen:s.length*c≤140737488355328):IsoCall Tryz.prog 229 [.str s,.int .i64 (c:Int)] (.str (Lib.repeatL s c)) El:=by
 refine Gy fun K w vs ht hk hr=>?_
 cases hr with
 |cons _ _ v vs hx hr=>
  cases hr with
  |cons _ _ v2 vs ij hr=>
   cases hr
   obtain rfl:=bC.bW hx
   obtain rfl:=bC.bF ij
   refine⟨.string ⟨⟨Lib.repeatL s c⟩⟩,.str _,(Tryz.strings_Repeat ⟨⟨s⟩⟩ c w hc hlen).mono ?_⟩
   rintro e w' ⟨rfl,hb⟩
   exact⟨rfl,VP hb⟩
theorem q0k {p:List UInt8}:IsoCall Tryz.prog 99 [.list E7 0 [],.str p] (.str []) El:=by
 refine Gy fun K w vs ht hk hr=>?_
 cases hr with
 |cons _ _ v vs hx hr=>
  cases hr with
  |cons _ _ v2 vs ij hr=>
   cases hr
   obtain rfl:=bC.bW ij
   cases hx
   refine⟨.string ⟨#[]⟩,.str _,(Tryz.strings_Join_none _ _ ⟨⟨p⟩⟩ w).mono ?_⟩
   rintro e w' ⟨rfl,rfl⟩
   exact⟨rfl,Ext.refl _⟩
end Go.Z
namespace Go.Z
open Go Go.Abs Go.Proofs
def wk (c:UInt8)(acc:List UInt8):List UInt8→List (List UInt8)
 | []=>[acc]
 |x::t=>if x=c then acc::wk c [] t else wk c (acc++[x]) t
def wm (c:UInt8)(s:List UInt8):List (List UInt8):=wk c [] s
theorem q6f {c:UInt8}:∀ {s:List UInt8} {acc:List UInt8},c ∉ s→wk c acc s=[acc++s]
 | [],acc,_=>by simp[wk]
 |x::t,acc,h=>by
  have h1:x≠c:=fun e=>h (by simp[e])
  have h2:c ∉ t:=fun e=>h (by simp[e])
  rw[wk,if_neg h1,q6f h2]
  simp
theorem q57 {c:UInt8}:∀ {a b acc:List UInt8},c ∉ a→wk c acc (a++c::b)=(acc++a)::wm c b
 | [],b,acc,_=>by simp[wk,wm]
 |x::t,b,acc,h=>by
  have h1:x≠c:=fun e=>h (by simp[e])
  have h2:c ∉ t:=fun e=>h (by simp[e])
  rw[Gm,wk,if_neg h1,q57 h2]
  simp
theorem jqm {c:UInt8}{s:List UInt8}(h:c ∉ s):wm c s=[s]:=q6f h
theorem jrr {c:UInt8}{a b:List UInt8}(h:c ∉ a):wm c (a++c::b)=a::wm c b:=q57 h
theorem jax (c:UInt8)(s:List UInt8):c ∉ s∨∃a b,s=a++c::b∧c ∉ a:=by
 by_cases h:c∈s
 ·obtain⟨a,b,h1,h2⟩:=List.eq_append_cons_of_mem h
  exact .inr ⟨a,b,h1,h2⟩
 ·exact .inl h
theorem q6b {c:UInt8}{P:List UInt8→Prop}(h0:∀s,c ∉ s→P s)(h1:∀a b,c ∉ a→P b→P (a++c::b)):∀(n:Nat) (s:List UInt8),s.length≤n→P s
 |0,s,hn=>h0 s (by rw[List.length_eq_zero_iff.1 (by omega:s.length=0)];simp)
 |n+1,s,hn=>by
  rcases jax c s with h|⟨a,b,rfl,h⟩
  ·exact h0 s h
  ·exact h1 a b h (q6b h0 h1 n b (by simp only[List.length_append,List.length_cons]at hn;omega))
theorem q2g {c:UInt8}:∀ {s:List UInt8},c ∉ s→Lib.index s [c]=-1
 | [],_=>rfl
 |x::t,h=>by
  have h1:x≠c:=fun e=>h (by simp[e])
  have h2:c ∉ t:=fun e=>h (by simp[e])
  have hp:([c]:List UInt8).isPrefixOf (x::t)=El:=by simp[Gi,Ne.symm h1]
  rw[Lib.index,hp,q2g h2];rfl
theorem q1o {c:UInt8}:∀ {a b:List UInt8},c ∉ a→Lib.index (a++c::b) [c]=(a.length:Int)
 | [],b,_=>by simp[Lib.index,Gi]
 |x::t,b,h=>by
  have h1:x≠c:=fun e=>h (by simp[e])
  have h2:c ∉ t:=fun e=>h (by simp[e])
  have hp:([c]:List UInt8).isPrefixOf (x::(t++c::b))=El:=by simp[Gi,Ne.symm h1]
  have br:((t.length:Int) == -1)=El:=by simp
  rw[Gm,Lib.index,hp,q1o h2,br]
  simp
theorem jie (c:UInt8)(s:List UInt8):Lib.split s [c]=wm c s:=by
 refine q6b (c:=c) (P:=fun s=>Lib.split s [c]=wm c s) ?_ ?_ s.length s (Nat.le_refl _)
 ·intro s h
  rw[jqm h,Lib.split,Lib.count_miss (q2g h)];rfl
 ·intro a b h ih
  have hi:=q1o (b:=b) h
  have hd:(a++c::b).drop (a.length+1)=b:=by
   rw[show a++c::b=(a++[c])++b by simp,show a.length+1=(a++[c]).length by simp,List.drop_left]
  have hm:((a.length:Int) == -1)=El:=by simp
  rw[jrr h,Lib.split,Lib.count_hit (by simp) hi]
  simp only[Gk,hd,Nat.add_comm 1]
  rw[Lib.splitK,hi,hm]
  simp only[Ga,if_false,Int.toNat_natCast,Nat.add_zero,Gk,hd]
  rw[List.take_left',←ih]; · rfl
  ·rfl
def HN (c:UInt8):List UInt8→Nat→Int
 | [],_=>-1
 |b::l,n=>bif b == c then(n:Int)else HN c l (n+1)
theorem q54 (c:UInt8):∀(l:List UInt8) (n:Nat),HN c l n=if Lib.indexByte l c == -1 then -1 else Lib.indexByte l c+n
 | [],n=>rfl
 |b::l,n=>by
  have ur:=Lib.indexByte_ge l c
  rw[HN,Lib.indexByte,q54 c l (n+1)]
  cases hb:(b == c)with
  |true=>simp
  |false=>
   simp only[cond_false,Ga,if_false]
   by_cases h:Lib.indexByte l c=-1
   ·simp[h]
   ·have h1:(Lib.indexByte l c == -1)=El:=by simpa using h
    have h2:(Lib.indexByte l c+1 == -1)=El:=by simp;omega
    simp only[h1,h2,Ga,if_false]
    omega
theorem ja3 (c:UInt8)(l:List UInt8):HN c l 0=Lib.indexByte l c:=by
 rw[q54]
 by_cases h:Lib.indexByte l c=-1
 ·simp[h]
 ·have h1:(Lib.indexByte l c == -1)=El:=by simpa using h
  simp[h1]
def HO:Nat→Nat→List UInt8→List UInt8
 |0,_,acc=>acc
 |f+1,u,acc=>bif Gb u 10 then UInt8.ofNat (48+u)::acc else HO f (u / 10) (UInt8.ofNat (48+u % 10)::acc)
theorem q5t:∀ (f u:Nat) (acc:List UInt8),u<10^f→0<f→HO f u acc=Lib.decDigits u++acc
 |0,_,_,_,h=>by omega
 |f+1,u,acc,hu,_=>by
  rw[HO,Lib.decDigits]
  by_cases h:u<10
  ·rw[Gl.mpr h];simp[h]
  ·have hb:Gb u 10=El:=by
    cases hh:Gb u 10 with
    |false=>rfl
    |true=>exact absurd (Gl.mp hh) h
   have hf:0<f:=by
    rcases Nat.eq_zero_or_pos f with rfl|h1
    ·simp at hu;omega
    ·exact h1
   rw[hb,dif_neg h]
   simp only[cond_false]
   rw[q5t f (u / 10) _ (by rw[Nat.pow_succ]at hu;omega) hf]
   simp
def NV:List qa→Option (List (List UInt8))
 | []=>Eo []
 | .str s::l=>match NV l with
  |some r=>Eo (s::r)
  |none=>E6
 |_=>E6
theorem qz7:∀ {l:List qa} {r:List (List UInt8)},NV l=Eo r→l=r.map .str
 | [],r,h=>by cases h;rfl
 | .str s::l,r,h=>by
  simp only[NV]at h
  split at h
  ·rename_i q hq
   cases h
   rw[qz7 hq];rfl
  ·cases h
 | .bool _::_,_,h | .int ..::_,_,h | .list ..::_,_,h | .ms ..::_,_,h | .ptr ..::_,_,h | .ah _::_,_,h | .bN::_,_,h | .map _::_,_,h | .bM::_,_,h | .fn ..::_,_,h | .bX::_,_,h | .agg _::_,_,h | .az _::_,_,h | .undef::_,_,h | .any::_,_,h | .au ..::_,_,h | .dk ..::_,_,h | .cE _::_,_,h=>by cases h
def VQ:List qa→Option (qa×Bool)
 | [.str s,.int .u8 (.ofNat c)]=>Eo (.int .i64 (HN (UInt8.ofNat c) s 0),El)
 |_=>E6
def VR:List qa→Option (qa×Bool)
 | [.str s,.str [c]]=>bif Gb s.length 4294967281 then Eo (.list El 1 ((wm c s).map .str),El)else E6
 |_=>E6
def t99:List qa→Option (qa×Bool)
 | [.list E7 0 [],.str _]=>Eo (.str [],El)
 | [.list El 1 l,.str p]=>match NV l with
  |some (s::ss)=>bif Gc (s::ss).length 100000&&Gc (p.intercalate (s::ss)).length 100000000 then Eo (.str (p.intercalate (s::ss)),El)else E6
  |_=>E6
 |_=>E6
def HP:List qa→Option (qa×Bool)
 | [.int .i64 (.ofNat n)]=>bif Gb n 1000000000000000000 then Eo (.str (HO 18 n []),El)else E6
 |_=>E6
def VS:List qa→Option (qa×Bool)
 | [.str s,.int .i64 (.ofNat c)]=>bif Gc c 100000&&Gc (s.length*c) 100000 then Eo (.str (Lib.repeatL s c),El)else E6
 |_=>E6
theorem jkl {args:List qa}{v:qa}{o:Bool}(h:VQ args=Eo (v,o)):IsoCall Tryz.prog 264 args v o:=by
 unfold VQ at h;split at h
 ·rename_i s c
  cases h
  rw[ja3]
  exact q0g (s:=s) (c:=Int.ofNat c)
 ·cases h
theorem jmo {args:List qa}{v:qa}{o:Bool}(h:VR args=Eo (v,o)):IsoCall Tryz.prog 149 args v o:=by
 unfold VR at h;split at h
 ·rename_i s c
  cases hl:Gb s.length 4294967281 with
  |false=>rw[hl]at h;cases h
  |true=>
   rw[hl]at h
   cases h
   have:=jcr (s:=s) (p:=[c]) (Gl.mp hl) (by simp)
   have e:(Lib.splitB ⟨⟨[c]⟩⟩ 0 (Lib.countB ⟨⟨s⟩⟩ ⟨⟨[c]⟩⟩) ⟨⟨s⟩⟩).map (fun x=>qa.str x.data.toList)=(wm c s).map .str:=by
    rw[←jie]
    have e2:(Lib.splitB ⟨⟨[c]⟩⟩ 0 (Lib.countB ⟨⟨s⟩⟩ ⟨⟨[c]⟩⟩) ⟨⟨s⟩⟩).map (·.data.toList)=Lib.split s [c]:=by
     rw[Lib.splitB_data];rfl
    rw[←e2,Gp];rfl
   rw[e]at this
   exact this
 ·cases h
theorem jps {args:List qa}{v:qa}{o:Bool}(h:t99 args=Eo (v,o)):IsoCall Tryz.prog 99 args v o:=by
 unfold t99 at h;split at h
 ·cases h;exact q0k
 ·rename_i l p
  split at h
  ·rename_i s ss hq
   cases hk:(Gc (s::ss).length 100000&&Gc (p.intercalate (s::ss)).length 100000000)with
   |false=>rw[hk]at h;cases h
   |true=>
    rw[hk]at h
    cases h
    simp only[Eh]at hk
    have h1:=Ev hk.1
    have h2:=Ev hk.2
    rw[qz7 hq]
    exact jfn (ss:=s::ss) (p:=p) (by simp) (by omega) (by show(p.intercalate (s::ss)).length≤_;omega)
  ·cases h
 ·cases h
theorem q6c {args:List qa}{v:qa}{o:Bool}(h:HP args=Eo (v,o)):IsoCall Tryz.prog 153 args v o:=by
 unfold HP at h;split at h
 ·rename_i n
  cases hk:Gb n 1000000000000000000 with
  |false=>rw[hk]at h;cases h
  |true=>
   rw[hk]at h
   cases h
   have hn:=Gl.mp hk
   have:=jdj (n:=Int.ofNat n) (by simp<;>omega) (by simp<;>omega)
   have e:Lib.itoa (Int.ofNat n)=HO 18 n []:=by
    rw[q5t 18 n [] (by omega) (by omega),List.append_nil]
    unfold Lib.itoa
    rw[if_neg (by simp)]
    rfl
   rw[e]at this
   exact this
 ·cases h
theorem jlv {args:List qa}{v:qa}{o:Bool}(h:VS args=Eo (v,o)):IsoCall Tryz.prog 229 args v o:=by
 unfold VS at h;split at h
 ·rename_i s c
  cases hk:(Gc c 100000&&Gc (s.length*c) 100000)with
  |false=>rw[hk]at h;cases h
  |true=>
   rw[hk]at h
   cases h
   simp only[Eh]at hk
   have h1:=Ev hk.1
   have h2:=Ev hk.2
   exact q8z (s:=s) (c:=c) (by omega) (by omega)
 ·cases h
theorem jbo {k:Nat}{f:qd}(h:Is k f):Abs.Enters Tryz.prog k:=by
 obtain⟨fn,hh,h1,h2⟩:=h
 obtain⟨c,g1,g2,g3,g4,g5⟩:=Ta h2
 exact⟨fn,h1,g5,by rw[g1];rfl⟩
theorem ud {k:Nat}(h:(tree.find k).isSome=E7):Abs.Enters Tryz.prog k:=by
 obtain⟨f,hf⟩:=Option.isSome_iff_exists.1 h
 exact jbo (jb.fM all hf)
def RV:vA:=fun k=>bif En k 264 then Eo VQ else bif En k 149 then Eo VR else bif En k 99 then Eo t99 else bif En k 153 then Eo HP else bif En k 229 then Eo VS else E6
def VT (args:List qa)(h:j8):Option (qa×Bool×j8):=bif zw 0 args then(match HP args with
 |some (v,_)=>Eo (v,El,h)
 |none=>E6)else E6
def q6g:jbz:=fun k=>bif En k 153 then Eo VT else E6
def isL (k:Nat):Bool:=En k 264||En k 149||En k 99||En k 153||En k 229
def bq:qr:={ bH:=fun k=>bif isL k then E6 else pr.bH k,cq:=RV,dj:=q6g,maps:=VU }
theorem jk2 {args:List qa}{h:j8}{v:qa}{o:Bool}{h':j8}(hq:VT args h=Eo (v,o,h')):Ab Tryz.prog 153 args h v o h':=by
 unfold VT at hq
 cases hb:zw 0 args with
 |false=>rw[hb]at hq;cases hq
 |true=>
  rw[hb]at hq
  simp only[cT]at hq
  split at hq
  ·rename_i v' o' ht
   cases hq
   have hv:lQ v=E7:=by
    unfold HP at ht;split at ht
    ·rename_i n
     cases hk:Gb n 1000000000000000000 with
     |false=>rw[hk]at ht;cases ht
     |true=>rw[hk]at ht;cases ht;rfl
    ·cases ht
   exact(q6c ht).shr hb hv h
  ·cases hq
theorem RW:∀ (t:List (Nat×List Row)),(t.all fun p=>(tree.find p.1).isSome)=E7→∀k l,wU t k=Eo l→(tree.find k).isSome=E7
 |(j,m)::t,h,k,l,hk=>by
  simp only[List.all_cons,Eh]at h
  simp only[wU,E5]at hk
  split at hk
  ·next hb=>rw[←I hb];exact h.1
  ·exact RW t h.2 k l hk
theorem Be:qx Tryz.prog pr:=okM ok0
theorem bw:qx Tryz.prog bq where
 fn:=by
  intro k f hf
  simp only[bq,E5]at hf
  split at hf
  ·cases hf
  ·exact Be.fn k f hf
 gJ:=by
  intro k f hf
  simp only[bq,RV,E5]at hf
  split at hf
  ·next hb=>cases hf;obtain rfl:=I hb;exact⟨ud (k:=264) (by kernel_rfl),fun args v o h _ _=>jkl h⟩
  split at hf
  ·next hb=>cases hf;obtain rfl:=I hb;exact⟨ud (k:=149) (by kernel_rfl),fun args v o h _ _=>jmo h⟩
  split at hf
  ·next hb=>cases hf;obtain rfl:=I hb;exact⟨ud (k:=99) (by kernel_rfl),fun args v o h _ _=>jps h⟩
  split at hf
  ·next hb=>cases hf;obtain rfl:=I hb;exact⟨ud (k:=153) (by kernel_rfl),fun args v o h _ _=>q6c h⟩
  split at hf
  ·next hb=>cases hf;obtain rfl:=I hb;exact⟨ud (k:=229) (by kernel_rfl),fun args v o h _ _=>jlv h⟩
  ·cases hf
 mixed:=Be.mixed
 fC:=by
  intro k f hf
  simp only[bq,q6g,E5]at hf
  split at hf
  ·next hb=>cases hf;obtain rfl:=I hb;exact⟨ud (k:=153) (by kernel_rfl),fun args h v o h' hq=>jk2 hq⟩
  ·cases hf
 maps:=Be.maps
end Go.Z
namespace Go.Z
open Go Go.Abs Go.Proofs
def Er:qa→qa→Bool
 | .fn (.func a) [] [],.fn (.func b) [] []=>En a b
 | .bX,.bX=>E7
 | .au a b c,.au a' b' c'=>En a a'&&(En b b'&&En c c')
 | .ptr a b,.ptr a' b'=>En a a'&&En b b'
 |a,b=>iM a b
theorem NW {a b:qa}(h:Er a b=E7):a=b:=by
 unfold Er at h
 split at h
 ·rw[I h]
 ·rfl
 ·simp only[Eh]at h
  rw[I h.1,I h.2.1,I h.2.2]
 ·simp only[Eh]at h
  rw[I h.1,I h.2]
 ·exact qzu h
def HQ:List qa→List qa→Bool
 | [],[]=>E7
 |a::l,b::m=>Er a b&&HQ l m
 |_,_=>El
theorem VW:∀ {l m:List qa},HQ l m=E7→l=m
 | [],[],_=>rfl
 |a::l,b::m,h=>by
  simp only[HQ,Eh]at h
  rw[NW h.1,VW h.2]
 | [],_::_,h=>by cases h
 |_::_,[],h=>by cases h
def VX:qa→qa→Bool
 | .agg l,.agg m=>HQ l m
 |a,b=>Er a b
theorem jb6 {a b:qa}(h:VX a b=E7):a=b:=by
 unfold VX at h
 split at h
 ·rw[VW h]
 ·exact NW h
def NY:List (qa×Bool)→List (qa×Bool)→Bool
 | [],[]=>E7
 |(a,o)::l,(b,q)::m=>Er a b&&((o == q)&&NY l m)
 |_,_=>El
theorem qww:∀ {l m:List (qa×Bool)},NY l m=E7→l=m
 | [],[],_=>rfl
 |(a,o)::l,(b,q)::m,h=>by
  simp only[NY,Eh,beq_iff_eq]at h
  rw[NW h.1,h.2.1,qww h.2.2]
 | [],_::_,h=>by cases h
 |_::_,[],h=>by cases h
def NZ:List (qa×qa)→List (qa×qa)→Bool
 | [],[]=>E7
 |(a,o)::l,(b,q)::m=>Er a b&&(VX o q&&NZ l m)
 |_,_=>El
theorem qw7:∀ {l m:List (qa×qa)},NZ l m=E7→l=m
 | [],[],_=>rfl
 |(a,o)::l,(b,q)::m,h=>by
  simp only[NZ,Eh]at h
  rw[NW h.1,jb6 h.2.1,qw7 h.2.2]
 | [],_::_,h=>by cases h
 |_::_,[],h=>by cases h
def VY:qm→qm→Bool
 | .hole,.hole=>E7
 | .dead,.dead=>E7
 | .cells l,.cells m=>NY l m
 | .map l,.map m=>NZ l m
 | .vec a b l,.vec a' b' m=>En a a'&&(En b b'&&uG l m)
 |_,_=>El
theorem q79 {a b:qm}(h:VY a b=E7):a=b:=by
 unfold VY at h
 split at h
 ·rfl
 ·rfl
 ·rw[qww h]
 ·rw[qw7 h]
 ·simp only[Eh]at h
  rw[I h.1,I h.2.1,DP h.2.2]
 ·cases h
def N0:j8→j8→Bool
 | [],[]=>E7
 |a::l,b::m=>VY a b&&N0 l m
 |_,_=>El
theorem qw3:∀ {l m:j8},N0 l m=E7→l=m
 | [],[],_=>rfl
 |a::l,b::m,h=>by
  simp only[N0,Eh]at h
  rw[q79 h.1,qw3 h.2]
 | [],_::_,h=>by cases h
 |_::_,[],h=>by cases h
abbrev dN:=List qa×j8×qa×Bool×j8
def L4 (args:List qa)(h:j8):List dN→Option (qa×Bool×j8)
 | []=>E6
 |r::l=>bif HQ args r.1&&N0 h r.2.1 then Eo r.2.2 else L4 args h l
theorem qzl {args:List qa}{h:j8}{x:qa×Bool×j8}:∀ {l:List dN},L4 args h l=Eo x→(args,h,x)∈l
 | [],h=>by cases h
 |r::l,hx=>by
  simp only[L4,E5]at hx
  split at hx
  ·next hb=>
   simp only[Eh]at hb
   cases hx
   rw[VW hb.1,qw3 hb.2]
   exact List.mem_cons_self ..
  ·exact List.mem_cons_of_mem _ (qzl hx)
def RX (P:Program)(k:Nat):List dN→Prop
 | []=>True
 |r::l=>Ab P k r.1 r.2.1 r.2.2.1 r.2.2.2.1 r.2.2.2.2∧RX P k l
theorem q3p {P:Program}{k:Nat}:∀ {l:List dN},RX P k l→∀r∈l,Ab P k r.1 r.2.1 r.2.2.1 r.2.2.2.1 r.2.2.2.2
 |r::l,h,x,hx=>by
  cases hx with
  |head=>exact h.1
  |tail _ hx=>exact q3p h.2 x hx
theorem yn {P:Program}{p:qr}(hp:qx P p){n k:Nat}{args:List qa}{h h':j8}{v:qa}{o:Bool}(hr:zg p (ib p n) k args h=Eo (v,o,h')):Ab P k args h v o h':=
 (FN hp (cg.Gj (MT hp n).1) (by rw[←MY];exact hr)).2
end Go.Z
