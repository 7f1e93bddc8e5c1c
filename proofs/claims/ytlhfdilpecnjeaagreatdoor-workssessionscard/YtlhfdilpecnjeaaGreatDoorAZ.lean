/- The examples' lines, one by one, run by the kernel. -/
import Derived.Test.YtlhfdilpecnjeaaGreatDoorLA
set_option linter.all false
set_option maxRecDepth 100000
noncomputable section
open Option renaming some->I
open Bool renaming cond_eq_ite->En
namespace Go.Z
open Go Go.Abs
theorem u1:ai ec xA 10 r1.1 r1.2.1=I r1.2.2:=by kernel_rfl
theorem u9:ai ec xA 10 r9.1 r9.2.1=I r9.2.2:=by kernel_rfl
theorem u17:ai ec xA 10 M9.1 M9.2.1=I M9.2.2:=by kernel_rfl
theorem u25:ai ec xA 10 Na.1 Na.2.1=I Na.2.2:=by kernel_rfl
theorem u33:ai ec xA 10 Nb.1 Nb.2.1=I Nb.2.2:=by kernel_rfl
theorem u2:ai ec xA 10 r2.1 r2.2.1=I r2.2.2:=by kernel_rfl
theorem u10:ai ec xA 10 Nc.1 Nc.2.1=I Nc.2.2:=by kernel_rfl
theorem u18:ai ec xA 10 Nd.1 Nd.2.1=I Nd.2.2:=by kernel_rfl
theorem u26:ai ec xA 10 Nf.1 Nf.2.1=I Nf.2.2:=by kernel_rfl
theorem u34:ai ec xA 10 Ng.1 Ng.2.1=I Ng.2.2:=by kernel_rfl
theorem u3:ai ec xA 10 r3.1 r3.2.1=I r3.2.2:=by kernel_rfl
theorem u11:ai ec xA 10 Nh.1 Nh.2.1=I Nh.2.2:=by kernel_rfl
theorem u19:ai ec xA 10 Ni.1 Ni.2.1=I Ni.2.2:=by kernel_rfl
theorem u27:ai ec xA 10 Nj.1 Nj.2.1=I Nj.2.2:=by kernel_rfl
theorem u35:ai ec xA 10 Nk.1 Nk.2.1=I Nk.2.2:=by kernel_rfl
theorem u4:ai ec xA 10 r4.1 r4.2.1=I r4.2.2:=by kernel_rfl
theorem u12:ai ec xA 10 Nn.1 Nn.2.1=I Nn.2.2:=by kernel_rfl
theorem u20:ai ec xA 10 Np.1 Np.2.1=I Np.2.2:=by kernel_rfl
theorem u28:ai ec xA 10 Nq.1 Nq.2.1=I Nq.2.2:=by kernel_rfl
theorem u36:ai ec xA 10 Nr.1 Nr.2.1=I Nr.2.2:=by kernel_rfl
theorem u5:ai ec xA 10 r5.1 r5.2.1=I r5.2.2:=by kernel_rfl
theorem u13:ai ec xA 10 Ns.1 Ns.2.1=I Ns.2.2:=by kernel_rfl
theorem u21:ai ec xA 10 Nt.1 Nt.2.1=I Nt.2.2:=by kernel_rfl
theorem u29:ai ec xA 10 Nu.1 Nu.2.1=I Nu.2.2:=by kernel_rfl
theorem u6:ai ec xA 10 r6.1 r6.2.1=I r6.2.2:=by kernel_rfl
theorem u14:ai ec xA 10 Nv.1 Nv.2.1=I Nv.2.2:=by kernel_rfl
theorem u22:ai ec xA 10 Nw.1 Nw.2.1=I Nw.2.2:=by kernel_rfl
theorem u30:ai ec xA 10 Nx.1 Nx.2.1=I Nx.2.2:=by kernel_rfl
theorem u7:ai ec xA 10 r7.1 r7.2.1=I r7.2.2:=by kernel_rfl
theorem u15:ai ec xA 10 Ny.1 Ny.2.1=I Ny.2.2:=by kernel_rfl
theorem u23:ai ec xA 10 Nz.1 Nz.2.1=I Nz.2.2:=by kernel_rfl
theorem u31:ai ec xA 10 NA.1 NA.2.1=I NA.2.2:=by kernel_rfl
theorem u8:ai ec xA 10 r8.1 r8.2.1=I r8.2.2:=by kernel_rfl
theorem u16:ai ec xA 10 NC.1 NC.2.1=I NC.2.2:=by kernel_rfl
theorem u24:ai ec xA 10 ND.1 ND.2.1=I ND.2.2:=by kernel_rfl
theorem u32:ai ec xA 10 NE.1 NE.2.1=I NE.2.2:=by kernel_rfl
theorem v1:ae ec xA 22 TS.1=I TS.2:=by kernel_rfl
theorem v2:ae ec xA 23 TT.1=I TT.2:=by kernel_rfl
theorem v3:ae ec xA 17 TU.1=I TU.2:=by kernel_rfl
end Go.Z
namespace Go.Z
open Go Go.Abs Go.Proofs
def ji9:List kg:=[r1,r2,r3,r4,r5,r6,r7,r8,r9,Nc,Nh,Nn,Ns,Nv,Ny,NC,M9,Nd,Ni,Np,Nt,Nw,Nz,ND,Na,Nf,Nj,Nq,Nu,Nx,NA,NE,Nb,Ng,Nk,Nr]
theorem jih:TV Tryz.prog 10 ji9:=⟨j0 en u1,j0 en u2,j0 en u3,j0 en u4,j0 en u5,j0 en u6,j0 en u7,j0 en u8,j0 en u9,j0 en u10,j0 en u11,j0 en u12,j0 en u13,j0 en u14,j0 en u15,j0 en u16,j0 en u17,j0 en u18,j0 en u19,j0 en u20,j0 en u21,j0 en u22,j0 en u23,j0 en u24,j0 en u25,j0 en u26,j0 en u27,j0 en u28,j0 en u29,j0 en u30,j0 en u31,j0 en u32,j0 en u33,j0 en u34,j0 en u35,j0 en u36,trivial⟩
def NF:List (Nat×List Row):=[(22,[TS]),(23,[TT]),(17,[TU])]
theorem j0i:TW Tryz.prog (yG NF):=
 TX (t:=NF) ⟨⟨jl en v1,trivial⟩,⟨jl en v2,trivial⟩,⟨jl en v3,trivial⟩,trivial⟩
def FA:j8:={ br:=fun k=>bif Nat.beq k 10 then none else ec.br k,cD:=fun k=>match yG NF k with
 |some l=>I fun args=>FB args l
 |none=>ec.cD k,cH:=fun k=>bif Nat.beq k 10 then I (fun args h=>NG args h ji9)else ec.cH k,maps:=ec.maps }
theorem okB:b8 Tryz.prog FA where
 fn:=by
  intro k f hf;simp only[FA,En]at hf;split at hf
  .cases hf
  .exact en.fn k f hf
 gd:=by
  intro k f hf;simp only[FA]at hf;split at hf
  .rename_i l hl;cases hf;exact⟨vb (TY NF (by kernel_rfl) k l hl),fun args v o hv _ _=>j0i k l hl _ (T0 hv)⟩
  .exact en.gd k f hf
 mixed:=en.mixed
 fa:=by
  intro k f hf;simp only[FA,En]at hf;split at hf
  .next hb=>
   cases hf;obtain rfl:=Nat.eq_of_beq_eq_true hb;exact⟨vb (k:=10) (by kernel_rfl),fun args h v o h' hq=>ja2 jih _ (q5j hq)⟩
  .exact en.fa k f hf
 maps:=en.maps
theorem jmw:ae FA (jJ FA 1000) 5 []=I (.bool true,false):=by kernel_rfl
theorem jlt:IsoCall Tryz.prog 5 [] (.bool true) false:=jl okB jmw
end Go.Z
namespace Go.Z
open Go Go.Abs Go.Proofs
def T1:List AVal->Option (AVal×Bool)
 | []=>I (.bool true,false)|_=>none
def jr0:AO:=fun k=>bif Nat.beq k 5 then I T1 else none
def opZ:Nat->Bool:=fun k=>Nat.ble 3 k&&Nat.ble k 4
def prZ:j8:=vd pr jr0 opZ
theorem okZ:b8 Tryz.prog prZ:=jqp (okM T2) (by
 intro k f hf;simp only[jr0,En]at hf;split at hf
 ·next hb=>
  cases hf;obtain rfl:=Nat.eq_of_beq_eq_true hb;refine⟨vb (k:=5) (by kernel_rfl),fun args v o h _ _=>?_⟩
  cases args with
  |nil=>cases h;exact jlt|cons a l=>cases h
 ·cases hf)
def E5:Option Bool:=I true
end Go.Z
end
