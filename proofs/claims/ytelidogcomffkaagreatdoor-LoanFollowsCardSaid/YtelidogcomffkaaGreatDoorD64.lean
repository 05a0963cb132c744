import Derived.Test.YtelidogcomffkaaGreatDoorRat
import Derived.Test.YtelidogcomffkaaGreatDoorProg
import Derived.KernelRfl
import Derived.Laws.Externs
set_option linter.unusedSectionVars false
set_option linter.unusedSimpArgs false
set_option linter.unusedVariables false
set_option maxRecDepth 100000
namespace Go.Proofs.YtelidogcomffkaaGreatDoor
open Go Go.Sx
variable [Env]
def bl (x:Int):Int:=if x≤0 then 0 else((x.toNat.log2+1:Nat):Int)
theorem wrapU (x:Int):Wu x=x%18446744073709551616:=by
 show IntKind.wrap .u64 x=_
 simp[IntKind.wrap,IntKind.signed,IntKind.bits]
theorem pow2 (s:Nat):(2:Int)^s=((2^s:Nat):Int):=by simp
theorem shrN {n s:Nat} (h:s≤64):shrI .u64 (n:Int) (s:Int)=((n/2^s:Nat):Int):=by
 unfold shrI
 rw[Int.toNat_natCast,show min s (IntKind.bits .u64)=s from Nat.min_eq_left h,pow2,Int.fdiv_eq_ediv_of_nonneg _ (Int.natCast_nonneg _)]
 simp
theorem shlN {n s:Nat} (h:s≤64):shlI .u64 (n:Int) (s:Int)=((n*2^s%18446744073709551616:Nat):Int):=by
 unfold shlI
 rw[Int.toNat_natCast,show min s (IntKind.bits .u64)=s from Nat.min_eq_left h,pow2]
 have:=wrapU ((n:Int)*((2^s:Nat):Int))
 rw[show IntKind.wrap .u64 ((n:Int)*((2^s:Nat):Int))=Wu ((n:Int)*((2^s:Nat):Int))from rfl,this]
 simp
theorem orN {a b s:Nat} (hb:b<2^s) (h:a*2^s+b<18446744073709551616):orI .u64 ((a*2^s:Nat):Int) (b:Int)=((a*2^s+b:Nat):Int):=by
 have h1:a*2^s<18446744073709551616:=by omega
 have h2:b<18446744073709551616:=by omega
 have e:a*2^s|||b=a*2^s+b:=by
  rw[Nat.mul_comm];exact(Nat.two_pow_add_eq_or_of_lt hb a).symm
 unfold orI
 have e1:BitVec.ofInt 64 ((a*2^s:Nat):Int)=BitVec.ofNat 64 (a*2^s):=BitVec.ofInt_natCast _ _
 have e2:BitVec.ofInt 64 (b:Int)=BitVec.ofNat 64 b:=BitVec.ofInt_natCast _ _
 show IntKind.wrap .u64 ((BitVec.ofInt 64 ((a*2^s:Nat):Int)|||BitVec.ofInt 64 (b:Int)).toNat:Int)=_
 rw[e1,e2,BitVec.toNat_or,BitVec.toNat_ofNat,BitVec.toNat_ofNat,Nat.mod_eq_of_lt h1,Nat.mod_eq_of_lt h2,e]
 exact wrap_InR (by simp only[InR];omega)
theorem bl_pos {n:Nat} (h:n≠0):bl (n:Int)=((n.log2+1:Nat):Int):=by
 unfold bl;rw[if_neg (by omega),Int.toNat_natCast]
theorem bl_shift {n k:Nat} (h:2^k≤n):bl (n:Int)=bl ((n/2^k:Nat):Int)+(k:Int):=by
 have h0:0<2^k:=Nat.two_pow_pos k
 have h1:n/2^k≠0:=Nat.ne_of_gt (Nat.div_pos h h0)
 have hn:n≠0:=by omega
 rw[bl_pos h1,bl_pos hn]
 have e:n.log2=(n/2^k).log2+k:=by
  rw[Nat.log2_eq_iff hn]
  obtain⟨a,b⟩:=(Nat.log2_eq_iff h1).1 rfl
  constructor
  ·rw[Nat.pow_add]
   exact Nat.le_trans (Nat.mul_le_mul_right _ a) (Nat.div_mul_le_self n (2^k))
  ·rw[show(n/2^k).log2+k+1=((n/2^k).log2+1)+k by omega,Nat.pow_add]
   have:=(Nat.div_lt_iff_lt_mul h0).1 b
   exact this
 rw[e];omega
def litD640:ByteArray:=⟨#[0,1,2,2,3,3,3,3,4,4,4,4,4,4,4,4,5,5,5,5,5,5,5,5,5,5,5,5,5,5,5,5,6,6,6,6,6,6,6,6,6,6,6,6,6,6,6,6,6,6,6,6,6,6,6,6,6,6,6,6,6,6,6,6,7,7,7,7,7,7,7,7,7,7,7,7,7,7,7,7,7,7,7,7,7,7,7,7,7,7,7,7,7,7,7,7,7,7,7,7,7,7,7,7,7,7,7,7,7,7,7,7,7,7,7,7,7,7,7,7,7,7,7,7,7,7,7,7,8,8,8,8,8,8,8,8,8,8,8,8,8,8,8,8,8,8,8,8,8,8,8,8,8,8,8,8,8,8,8,8,8,8,8,8,8,8,8,8,8,8,8,8,8,8,8,8,8,8,8,8,8,8,8,8,8,8,8,8,8,8,8,8,8,8,8,8,8,8,8,8,8,8,8,8,8,8,8,8,8,8,8,8,8,8,8,8,8,8,8,8,8,8,8,8,8,8,8,8,8,8,8,8,8,8,8,8,8,8,8,8,8,8,8,8,8,8,8,8,8,8,8,8,8,8,8,8]⟩
noncomputable def bits_Len64_h0 (x1:Int) (x2:Int):SC:=
 ⟨[⟨264,slo 25 [(0,N .u64 x1),(2,I x2)],[.code (bodyAt Tryz.f264 [1,1])],{}⟩],[]⟩
noncomputable def bits_Len64_h1 (x1:Int) (x2:Int):SC:=
 ⟨[⟨264,slo 25 [(0,N .u64 x1),(2,I x2)],[.code (bodyAt Tryz.f264 [1,1,1])],{}⟩],[]⟩
noncomputable def bits_Len64_h2 (x1:Int) (x2:Int):SC:=
 ⟨[⟨264,slo 25 [(0,N .u64 x1),(2,I x2)],[.code (bodyAt Tryz.f264 [1,1,1,1])],{}⟩],[]⟩
theorem bits_Len64_w0 {X:Cx} {a1:Int} {res:SV} (hX:Fi X 264 [] res []) (H:(a1≥4294967296→Ok X (bits_Len64_h0 (shrI .u64 a1 32) 32))∧(¬a1≥4294967296→Ok X (bits_Len64_h0 a1 0))):
  Ok X (entry Tryz.prog 264 [N .u64 a1] []):=by
 obtain⟨H1,H2⟩:=H
 by_cases h0:a1≥4294967296
 ·exact hX.h 20 [t_ (dt h0),q_ (show(0:Int)≤32 from by decide)] (oldM 0) (H1 h0)
 ·exact hX.h 12 [f_ (df h0)] (oldM 0) (H2 h0)
theorem bits_Len64_w1 {X:Cx} {x1 x2:Int} {res:SV} (hX:Fi X 264 [] res []) (H:(x1≥65536→Ir (x2+16)∧Ok X (bits_Len64_h1 (shrI .u64 x1 16) (x2+16)))∧(¬x1≥65536→Ok X (bits_Len64_h1 x1 x2))):
  Ok X (bits_Len64_h0 x1 x2):=by
 obtain⟨H1,H2⟩:=H
 by_cases h0:x1≥65536
 ·obtain⟨h1,k⟩:=H1 h0
  exact hX.h 18 [t_ (dt h0),q_ (show(0:Int)≤16 from by decide),q_ h1] (oldM 0) k
 ·exact hX.h 8 [f_ (df h0)] (oldM 0) (H2 h0)
theorem bits_Len64_w2 {X:Cx} {x1 x2:Int} {res:SV} (hX:Fi X 264 [] res []) (H:(x1≥256→Ir (x2+8)∧Ok X (bits_Len64_h2 (shrI .u64 x1 8) (x2+8)))∧(¬x1≥256→Ok X (bits_Len64_h2 x1 x2))):
  Ok X (bits_Len64_h1 x1 x2):=by
 obtain⟨H1,H2⟩:=H
 by_cases h0:x1≥256
 ·obtain⟨h1,k⟩:=H1 h0
  exact hX.h 18 [t_ (dt h0),q_ (show(0:Int)≤8 from by decide),q_ h1] (oldM 0) k
 ·exact hX.h 8 [f_ (df h0)] (oldM 0) (H2 h0)
theorem bits_Len64_w3 {X:Cx} {x1 x2:Int} {res:SV} (hX:Fi X 264 [] res []) (H:InR .u8 x1∧((0:Int)≤x1∧x1<((litD640.size:Nat):Int))∧Ir (bt litD640 x1)∧Ir (x2+(bt litD640 x1))∧I (x2+(bt litD640 x1))=res):
  Ok X (bits_Len64_h2 x1 x2):=by
 obtain⟨h0,h1,h2,h3,rfl⟩:=H
 exact hX.e [q_ h0,q_ h1,q_ h2,q_ h3]
theorem len8: ∀ i,i<256→bt litD640 (i:Nat)=bl (i:Nat):=by decide+kernel
theorem len8size:litD640.size=256:=by decide+kernel
theorem len64 {x:Int} (h:U64 x):S 264 [N .u64 x] [] (I (bl x)) []:=by
 obtain⟨n,rfl⟩: ∃ n:Nat,x=(n:Int):=⟨x.toNat,by simp only[U64,InR]at h;omega⟩
 have hn:n<18446744073709551616:=by simp only[U64,InR]at h;omega
 refine SCall.of (by kernel_rfl) rfl trivial rfl (fun X hX=> ?_)
 have s3: ∀ (m:Nat) (k:Int),m<256→k+bl (m:Int)=bl (n:Int)→0≤k→k≤100→Ok X (bits_Len64_h2 (m:Int) k):=fun m k h1 h2 h3 h4=>by
  have e:=len8 m h1
  have hb:0≤bl (m:Int)∧bl (m:Int)≤8:=by
   by_cases h0:m=0
   ·subst h0;decide
   ·rw[bl_pos h0]
    have:m.log2<8:=(Nat.log2_lt h0).2 h1
    omega
  refine bits_Len64_w3 hX ⟨by simp only[InR];omega,by rw[len8size];omega,by rw[e];simp only[Ir,InR];omega,by rw[e];simp only[Ir,InR];omega,by rw[e,h2]⟩
 have s2: ∀ (m:Nat) (k:Int),m<65536→k+bl (m:Int)=bl (n:Int)→0≤k→k≤90→Ok X (bits_Len64_h1 (m:Int) k):=fun m k h1 h2 h3 h4=>by
  refine bits_Len64_w2 hX ⟨fun c=>⟨by simp only[Ir,InR];omega, ?_⟩,fun c=>s3 m k (by omega) h2 h3 (by omega)⟩
  have e:=bl_shift (n:=m) (k:=8) (by omega)
  have:= @shrN _ m 8 (by decide)
  rw[show((8:Nat):Int)=8 from rfl]at this e
  rw[this]
  exact s3 (m/2^8) (k+8) (by omega) (by omega) (by omega) (by omega)
 have s1: ∀ (m:Nat) (k:Int),m<4294967296→k+bl (m:Int)=bl (n:Int)→0≤k→k≤40→Ok X (bits_Len64_h0 (m:Int) k):=fun m k h1 h2 h3 h4=>by
  refine bits_Len64_w1 hX ⟨fun c=>⟨by simp only[Ir,InR];omega, ?_⟩,fun c=>s2 m k (by omega) h2 h3 (by omega)⟩
  have e:=bl_shift (n:=m) (k:=16) (by omega)
  have:= @shrN _ m 16 (by decide)
  rw[show((16:Nat):Int)=16 from rfl]at this e
  rw[this]
  exact s2 (m/2^16) (k+16) (by omega) (by omega) (by omega) (by omega)
 refine bits_Len64_w0 hX ⟨fun c=> ?_,fun c=>s1 n 0 (by omega) (by omega) (by omega) (by omega)⟩
 have e:=bl_shift (n:=n) (k:=32) (by omega)
 have:= @shrN _ n 32 (by decide)
 rw[show((32:Nat):Int)=32 from rfl]at this e
 rw[this]
 exact s1 (n/2^32) 32 (by omega) (by omega) (by omega) (by omega)
theorem bl_le {n:Nat} (h:n<18446744073709551616):0≤bl (n:Int)∧bl (n:Int)≤64:=by
 by_cases h0:n=0
 ·subst h0;decide
 ·rw[bl_pos h0]
  have:n.log2<64:=(Nat.log2_lt h0).2 h
  omega
theorem bits_LeadingZeros64_w {a1:Int} {res:SV} (H:U64 a1∧Ir (64-(bl a1))∧I (64-(bl a1))=res):
  S 257 [N .u64 a1] [] res []:=by
 refine SCall.st fun X hX=> ?_
 obtain⟨h0,h1,rfl⟩:=H
 exact hX.e [c_ [] (show S 264 [N .u64 a1] [] (I (bl a1)) []from len64 h0),q_ h1]
theorem lz64 {x:Int} (h:U64 x):S 257 [N .u64 x] [] (I (64-bl x)) []:=by
 have hb:0≤bl x∧bl x≤64:=by
  obtain⟨n,rfl⟩: ∃ n:Nat,x=(n:Int):=⟨x.toNat,by simp only[U64,InR]at h;omega⟩
  exact bl_le (by simp only[U64,InR]at h;omega)
 exact bits_LeadingZeros64_w ⟨h,by simp only[Ir,InR];omega,rfl⟩
noncomputable def bits_Div64_h0 (x1:Int) (x2:Int) (x3:Int) (x4:Int) (x5:Int) (x6:Int) (x7:Int) (x8:Int) (x9:Int):SC:=
 ⟨[⟨244,slo 135 [(2,N .u64 x1),(8,N .u64 x2),(9,N .u64 x3),(10,N .u64 x4),(11,N .u64 x5),(13,N .u64 x6),(14,N .u64 x7),(15,N .u64 x8),(16,N .u64 x9)],[.code (bodyAt Tryz.f244 [1,1,1,1,1,1,1,1,1,1,1,1,1,1,0,0,0]), .inLoop (bodyAt Tryz.f244 [1,1,1,1,1,1,1,1,1,1,1,1,1,1,0,0,0]), .inBlock 0, .code (bodyAt Tryz.f244 [1,1,1,1,1,1,1,1,1,1,1,1,1,1,1])],{}⟩],[]⟩
noncomputable def bits_Div64_h1 (x1:Int) (x2:Int) (x3:Int) (x4:Int) (x5:Int) (x6:Int) (x7:Int) (x8:Int):SC:=
 ⟨[⟨244,slo 135 [(2,N .u64 x1),(8,N .u64 x2),(9,N .u64 x3),(10,N .u64 x4),(11,N .u64 x5),(13,N .u64 x6),(14,N .u64 x7),(15,N .u64 x8)],[.code (bodyAt Tryz.f244 [1,1,1,1,1,1,1,1,1,1,1,1,1,1,1])],{}⟩],[]⟩
noncomputable def bits_Div64_h2 (x1:Int) (x2:Int) (x3:Int) (x4:Int) (x5:Int) (x6:Int) (x7:Int) (x8:Int) (x9:Int):SC:=
 ⟨[⟨244,slo 135 [(2,N .u64 x1),(8,N .u64 x2),(9,N .u64 x3),(10,N .u64 x4),(14,N .u64 x5),(15,N .u64 x6),(16,N .u64 x7),(17,N .u64 x8),(18,N .u64 x9)],[.code (bodyAt Tryz.f244 [1,1,1,1,1,1,1,1,1,1,1,1,1,1,1,1,1,1,0,0,0]), .inLoop (bodyAt Tryz.f244 [1,1,1,1,1,1,1,1,1,1,1,1,1,1,1,1,1,1,0,0,0]), .inBlock 2, .code (bodyAt Tryz.f244 [1,1,1,1,1,1,1,1,1,1,1,1,1,1,1,1,1,1,1])],{}⟩],[]⟩
noncomputable def bits_Div64_h3 (x1:Int) (x2:Int) (x3:Int) (x4:Int) (x5:Int) (x6:Int):SC:=
 ⟨[⟨244,slo 135 [(2,N .u64 x1),(8,N .u64 x2),(14,N .u64 x3),(15,N .u64 x4),(17,N .u64 x5),(18,N .u64 x6)],[.code (bodyAt Tryz.f244 [1,1,1,1,1,1,1,1,1,1,1,1,1,1,1,1,1,1,1])],{}⟩],[]⟩
theorem bits_Div64_w0 {X:Cx} {a1 a2 a3:Int} {res:SV} (hX:Fi X 244 [] res []) (H:(a3=0→False)∧(a3≠0→(a3≤a1→False)∧(¬a3≤a1→(a1=0→(0:Int)≤a2∧(0:Int)<a3∧U64 (a2/a3)∧(SV.tup [N .u64 (a2/a3),N .u64 (a2%a3)])=res)∧(a1≠0→U64 a3∧U64 (64-bl a3)∧(0:Int)≤(64-bl a3)∧(0:Int)≤(Wu (64-(64-bl a3)))∧(0:Int)≤(orI .u64 (shlI .u64 a1 (64-bl a3)) (shrI .u64 a2 (Wu (64-(64-bl a3)))))∧(0:Int)<(shrI .u64 (shlI .u64 a3 (64-bl a3)) 32)∧U64 ((orI .u64 (shlI .u64 a1 (64-bl a3)) (shrI .u64 a2 (Wu (64-(64-bl a3)))))/(shrI .u64 (shlI .u64 a3 (64-bl a3)) 32))∧Ok X (bits_Div64_h0 (shlI .u64 a3 (64-bl a3)) (64-bl a3) (shrI .u64 (shlI .u64 a3 (64-bl a3)) 32) (andI .u64 (shlI .u64 a3 (64-bl a3)) 4294967295) (orI .u64 (shlI .u64 a1 (64-bl a3)) (shrI .u64 a2 (Wu (64-(64-bl a3))))) (shrI .u64 (shlI .u64 a2 (64-bl a3)) 32) (andI .u64 (shlI .u64 a2 (64-bl a3)) 4294967295) ((orI .u64 (shlI .u64 a1 (64-bl a3)) (shrI .u64 a2 (Wu (64-(64-bl a3)))))/(shrI .u64 (shlI .u64 a3 (64-bl a3)) 32)) (Wu ((orI .u64 (shlI .u64 a1 (64-bl a3)) (shrI .u64 a2 (Wu (64-(64-bl a3)))))-(Wu (((orI .u64 (shlI .u64 a1 (64-bl a3)) (shrI .u64 a2 (Wu (64-(64-bl a3)))))/(shrI .u64 (shlI .u64 a3 (64-bl a3)) 32))*(shrI .u64 (shlI .u64 a3 (64-bl a3)) 32)))))))))):
  Ok X (entry Tryz.prog 244 [N .u64 a1,N .u64 a2,N .u64 a3] []):=by
 obtain⟨H1,H2⟩:=H
 by_cases h0:a3=0
 ·exact(H1 h0).elim
 ·obtain⟨H1,H2⟩:=H2 h0
  refine hX.go [f_ (beq_eq_false_iff_ne.2 h0)] ?_
  by_cases h1:a3≤a1
  ·exact(H1 h1).elim
  ·obtain⟨H1,H2⟩:=H2 h1
   refine hX.go [f_ (df h1)] ?_
   by_cases h2:a1=0
   ·obtain⟨h3,h4,h5,rfl⟩:=H1 h2
    exact hX.e [t_ (beq_iff_eq.2 h2),q_ h3,q_ h4,q_ h5,q_ h3,q_ h4,d_ 7]
   ·obtain⟨h3,h4,h5,h6,h7,h8,h9,k⟩:=H2 h2
    exact hX.h 78 [f_ (beq_eq_false_iff_ne.2 h2),c_ [] (show S 257 [N .u64 a3] [] (I (64-bl a3)) []from lz64 h3),q_ h4,q_ h5,q_ (show(0:Int)≤32 from by decide),q_ h5,q_ h6,q_ h5,q_ (show(0:Int)≤32 from by decide),q_ h7,q_ h8,q_ h9,h_ [.w, .w, .w]] (oldM 0) k
theorem bits_Div64_w1 {X:Cx} {x1 x2 x3 x4 x5 x6 x7 x8 x9:Int} {res:SV} (hX:Fi X 244 [] res []) (H:(x8≥4294967296→((Wu (x9+x3))≥4294967296→Ok X (bits_Div64_h1 x1 x2 x3 x4 x5 x6 x7 (Wu (x8-1))))∧(¬(Wu (x9+x3))≥4294967296→Ok X (bits_Div64_h0 x1 x2 x3 x4 x5 x6 x7 (Wu (x8-1)) (Wu (x9+x3)))))∧(¬x8≥4294967296→((Wu (x8*x4))>(Wu ((Wu (4294967296*x9))+x6))→((Wu (x9+x3))≥4294967296→Ok X (bits_Div64_h1 x1 x2 x3 x4 x5 x6 x7 (Wu (x8-1))))∧(¬(Wu (x9+x3))≥4294967296→Ok X (bits_Div64_h0 x1 x2 x3 x4 x5 x6 x7 (Wu (x8-1)) (Wu (x9+x3)))))∧(¬(Wu (x8*x4))>(Wu ((Wu (4294967296*x9))+x6))→Ok X (bits_Div64_h1 x1 x2 x3 x4 x5 x6 x7 x8)))):
  Ok X (bits_Div64_h0 x1 x2 x3 x4 x5 x6 x7 x8 x9):=by
 obtain⟨H1,H2⟩:=H
 by_cases h0:x8≥4294967296
 ·obtain⟨H1,H2⟩:=H1 h0
  refine hX.go [t_ (dt h0),t_ (dt h0),t_ (dt h0),t_ (dt h0),t_ (dt h0),t_ (dt h0),t_ (dt h0),t_ (dt h0),t_ (dt h0),t_ rt,h_ [.w, .w]] ?_
  by_cases h1:(Wu (x9+x3))≥4294967296
  ·exact hX.h 2 [t_ (dt h1)] (oldM 0) (H1 h1)
  ·exact hX.h 4 [f_ (df h1)] (oldM 0) (H2 h1)
 ·obtain⟨H1,H2⟩:=H2 h0
  refine hX.go [f_ (df h0),f_ (df h0),f_ (df h0),h_ [.w],f_ (df h0),f_ (df h0),h_ [.w],f_ (df h0),f_ (df h0),h_ [.w],f_ (df h0),f_ (df h0)] ?_
  by_cases h1:(Wu (x8*x4))>(Wu ((Wu (4294967296*x9))+x6))
  ·obtain⟨H1,H2⟩:=H1 h1
   refine hX.go [t_ (dt h1),h_ [.w, .w]] ?_
   by_cases h2:(Wu (x9+x3))≥4294967296
   ·exact hX.h 2 [t_ (dt h2)] (oldM 0) (H1 h2)
   ·exact hX.h 4 [f_ (df h2)] (oldM 0) (H2 h2)
  ·exact hX.h 2 [f_ (df h1)] (oldM 0) (H2 h1)
theorem bits_Div64_w2 {X:Cx} {x1 x2 x3 x4 x5 x6 x7 x8:Int} {res:SV} (hX:Fi X 244 [] res []) (H:(0:Int)≤(Wu ((Wu ((Wu (x5*4294967296))+x6))-(Wu (x8*x1))))∧(0:Int)<x3∧U64 ((Wu ((Wu ((Wu (x5*4294967296))+x6))-(Wu (x8*x1))))/x3)∧Ok X (bits_Div64_h2 x1 x2 x3 x4 x7 x8 (Wu ((Wu ((Wu ((Wu (x5*4294967296))+x6))-(Wu (x8*x1))))-(Wu (((Wu ((Wu ((Wu (x5*4294967296))+x6))-(Wu (x8*x1))))/x3)*x3)))) (Wu ((Wu ((Wu (x5*4294967296))+x6))-(Wu (x8*x1)))) ((Wu ((Wu ((Wu (x5*4294967296))+x6))-(Wu (x8*x1))))/x3))):
  Ok X (bits_Div64_h1 x1 x2 x3 x4 x5 x6 x7 x8):=by
 obtain⟨h0,h1,h2,k⟩:=H
 exact hX.h 31 [q_ h0,q_ h1,q_ h2,h_ [.w, .w, .w, .w, .w, .w]] (oldM 0) k
theorem bits_Div64_w3 {X:Cx} {x1 x2 x3 x4 x5 x6 x7 x8 x9:Int} {res:SV} (hX:Fi X 244 [] res []) (H:(x9≥4294967296→((Wu (x7+x3))≥4294967296→Ok X (bits_Div64_h3 x1 x2 x5 x6 x8 (Wu (x9-1))))∧(¬(Wu (x7+x3))≥4294967296→Ok X (bits_Div64_h2 x1 x2 x3 x4 x5 x6 (Wu (x7+x3)) x8 (Wu (x9-1)))))∧(¬x9≥4294967296→((Wu (x9*x4))>(Wu ((Wu (4294967296*x7))+x5))→((Wu (x7+x3))≥4294967296→Ok X (bits_Div64_h3 x1 x2 x5 x6 x8 (Wu (x9-1))))∧(¬(Wu (x7+x3))≥4294967296→Ok X (bits_Div64_h2 x1 x2 x3 x4 x5 x6 (Wu (x7+x3)) x8 (Wu (x9-1)))))∧(¬(Wu (x9*x4))>(Wu ((Wu (4294967296*x7))+x5))→Ok X (bits_Div64_h3 x1 x2 x5 x6 x8 x9)))):
  Ok X (bits_Div64_h2 x1 x2 x3 x4 x5 x6 x7 x8 x9):=by
 obtain⟨H1,H2⟩:=H
 by_cases h0:x9≥4294967296
 ·obtain⟨H1,H2⟩:=H1 h0
  refine hX.go [t_ (dt h0),t_ (dt h0),t_ (dt h0),t_ (dt h0),t_ (dt h0),t_ (dt h0),t_ (dt h0),t_ (dt h0),t_ (dt h0),t_ rt,h_ [.w, .w]] ?_
  by_cases h1:(Wu (x7+x3))≥4294967296
  ·exact hX.h 2 [t_ (dt h1)] (oldM 0) (H1 h1)
  ·exact hX.h 4 [f_ (df h1)] (oldM 0) (H2 h1)
 ·obtain⟨H1,H2⟩:=H2 h0
  refine hX.go [f_ (df h0),f_ (df h0),f_ (df h0),h_ [.w],f_ (df h0),f_ (df h0),h_ [.w],f_ (df h0),f_ (df h0),h_ [.w],f_ (df h0),f_ (df h0)] ?_
  by_cases h1:(Wu (x9*x4))>(Wu ((Wu (4294967296*x7))+x5))
  ·obtain⟨H1,H2⟩:=H1 h1
   refine hX.go [t_ (dt h1),h_ [.w, .w]] ?_
   by_cases h2:(Wu (x7+x3))≥4294967296
   ·exact hX.h 2 [t_ (dt h2)] (oldM 0) (H1 h2)
   ·exact hX.h 4 [f_ (df h2)] (oldM 0) (H2 h2)
  ·exact hX.h 2 [f_ (df h1)] (oldM 0) (H2 h1)
theorem bits_Div64_w4 {X:Cx} {x1 x2 x3 x4 x5 x6:Int} {res:SV} (hX:Fi X 244 [] res []) (H:(0:Int)≤x2∧(SV.tup [N .u64 (Wu ((Wu (x4*4294967296))+x6)),N .u64 (shrI .u64 (Wu ((Wu ((Wu (x5*4294967296))+x3))-(Wu (x6*x1)))) x2)])=res):
  Ok X (bits_Div64_h3 x1 x2 x3 x4 x5 x6):=by
 obtain⟨h0,rfl⟩:=H
 exact hX.e [q_ h0,h_ [.w, .w, .w, .w, .w, .w]]
theorem kn_gt {y1 y0 u v qh r:Nat} (hi:qh*y1+r=u) (hY:0<y1*4294967296+y0):(u*4294967296+v)/(y1*4294967296+y0)<qh↔r*4294967296+v<qh*y0:=by
 rw[Nat.div_lt_iff_lt_mul hY,Nat.mul_add,←Nat.mul_assoc]
 subst hi
 rw[Nat.add_mul]
 omega
theorem kn_le {y1 y0 u v:Nat} (h1:2147483648≤y1) (h0:y0<4294967296) (hu:u<y1*4294967296+y0) (hv:v<4294967296):
  (u*4294967296+v)/(y1*4294967296+y0)≤u/y1∧u/y1≤4294967297∧(u*4294967296+v)/(y1*4294967296+y0)<4294967296:=by
 have hY:0<y1*4294967296+y0:=by omega
 refine⟨?_, ?_, ?_⟩
 ·rw[Nat.le_div_iff_mul_le (by omega)]
  have hq:=Nat.div_mul_le_self (u*4294967296+v) (y1*4294967296+y0)
  generalize (u*4294967296+v)/(y1*4294967296+y0)=q at*
  rw[Nat.mul_add,←Nat.mul_assoc]at hq
  omega
 ·have:u<4294967298*y1:=by omega
  have:=(Nat.div_lt_iff_lt_mul (show 0<y1 by omega)).2 this
  omega
 ·exact(Nat.div_lt_iff_lt_mul hY).2 (by omega)
theorem kn_stop {y1 y0 u v qh r:Nat} (h0:y0<4294967296) (hi:qh*y1+r=u) (hq:qh≤4294967296) (hr:4294967296≤r) (hY:0<y1*4294967296+y0):qh≤(u*4294967296+v)/(y1*4294967296+y0):=by
 rcases Nat.lt_or_ge ((u*4294967296+v)/(y1*4294967296+y0)) qh with h|h
 ·exfalso
  have h1:=(kn_gt hi hY).1 h
  have h2:qh*y0≤4294967296*4294967295:=Nat.mul_le_mul hq (by omega)
  omega
 ·exact h
theorem kn_loop {F:Nat→Nat→Prop} {J:Nat→Prop} {y1 y0 u v:Nat} (h1:2147483648≤y1) (h2:y1<4294967296) (h0:y0<4294967296) (hu:u<y1*4294967296+y0) (hv:v<4294967296)
  (step: ∀ qh r:Nat,qh≤4294967297→r<4294967296→qh*y1+r=u→(qh≥4294967296∨r*4294967296+v<qh*y0→1≤qh→(r+y1≥4294967296→J (qh-1))∧(r+y1<4294967296→F (qh-1) (r+y1)))→(¬(qh≥4294967296∨r*4294967296+v<qh*y0)→J qh)→F qh r)
  (hJ:J ((u*4294967296+v)/(y1*4294967296+y0))):F (u/y1) (u%y1):=by
 have hY:0<y1*4294967296+y0:=by omega
 obtain⟨k1,k2,k3⟩:=kn_le h1 h0 hu hv
 have key: ∀ m qh r:Nat,qh-(u*4294967296+v)/(y1*4294967296+y0)=m→(u*4294967296+v)/(y1*4294967296+y0)≤qh→qh≤4294967297→r<4294967296→qh*y1+r=u→F qh r:=by
  intro m
  induction m with
  |zero=>
   intro qh r hm hq hq2 hr hi
   have e:qh=(u*4294967296+v)/(y1*4294967296+y0):=by omega
   refine step qh r hq2 hr hi (fun c=> ?_) (fun _=>by rw[e];exact hJ)
   exfalso
   rcases c with c|c
   ·omega
   ·have:=(kn_gt hi hY).2 c;omega
  |succ m ih=>
   intro qh r hm hq hq2 hr hi
   have hlt:(u*4294967296+v)/(y1*4294967296+y0)<qh:=by omega
   have hq1:0<qh:=Nat.lt_of_le_of_lt (Nat.zero_le _) hlt
   have hi':(qh-1)*y1+(r+y1)=u:=by
    have:qh*y1=(qh-1)*y1+y1:=by
     conv=>lhs;rw[show qh=(qh-1)+1 by omega]
     rw[Nat.add_mul,Nat.one_mul]
    omega
   refine step qh r hq2 hr hi (fun _ _=>⟨fun c=> ?_,fun c=>ih (qh-1) (r+y1) (by omega) (by omega) (by omega) c hi'⟩) (fun c=>absurd (.inr ((kn_gt hi hY).1 hlt)) c)
   have:=kn_stop (v:=v) h0 hi' (by omega) c hY
   rwa [show qh-1=(u*4294967296+v)/(y1*4294967296+y0)by omega]
 refine key _ _ _ rfl k1 k2 ?_ ?_
 ·exact Nat.lt_trans (Nat.mod_lt _ (by omega)) h2
 ·rw[Nat.mul_comm];exact Nat.div_add_mod u y1
theorem wu_nat {n:Nat} (h:n<18446744073709551616):Wu (n:Int)=(n:Int):=by rw[wrapU];omega
theorem kn_test {qh r y1 y0 v:Nat} (hq:qh≤4294967297) (hr:r<4294967296) (h2:y1<4294967296) (h0:y0<4294967296) (hv:v<4294967296):
  Wu ((r:Int)+(y1:Int))=((r+y1:Nat):Int)∧(1≤qh→Wu ((qh:Int)-1)=((qh-1:Nat):Int))∧Wu (Wu (4294967296*(r:Int))+(v:Int))=((r*4294967296+v:Nat):Int)∧(qh<4294967296→Wu ((qh:Int)*(y0:Int))=((qh*y0:Nat):Int)):=by
 refine⟨by rw[wrapU];omega,fun h=>by rw[wrapU];omega,by rw[wrapU,wrapU];omega,fun h=> ?_⟩
 have:qh*y0≤4294967295*4294967295:=Nat.mul_le_mul (by omega) (by omega)
 rw[show(qh:Int)*(y0:Int)=((qh*y0:Nat):Int)by simp]
 exact wu_nat (by omega)
theorem wu_sub {u v p:Nat} (h1:p≤u*4294967296+v) (h2:u*4294967296+v-p<18446744073709551616) (hv:v<4294967296):
  Wu (Wu (Wu ((u:Int)*4294967296)+(v:Int))-Wu (p:Int))=((u*4294967296+v-p:Nat):Int):=by
 rw[wrapU,wrapU,wrapU,wrapU];omega
theorem div64 {h l d:Nat} (hd:h<d) (hd2:d<18446744073709551616) (hl:l<18446744073709551616):
  S 244 [N .u64 (h:Int),N .u64 (l:Int),N .u64 (d:Int)] [] (.tup [N .u64 (((h*18446744073709551616+l)/d:Nat):Int),N .u64 (((h*18446744073709551616+l)%d:Nat):Int)]) []:=by
 refine SCall.of (by kernel_rfl) rfl trivial rfl (fun X hX=> ?_)
 have hd0:d≠0:=by omega
 refine bits_Div64_w0 hX ⟨fun c=>by omega,fun _=>⟨fun c=>by omega,fun _=>⟨fun c=> ?_,fun c=> ?_⟩⟩⟩
 ·have:h=0:=by omega
  subst this
  refine⟨by omega,by omega, ?_, ?_⟩
  ·have:=Nat.div_le_self l d
   rw[←Int.natCast_ediv];generalize l/d=q at*;simp only[U64,InR];omega
  ·rw[Nat.zero_mul,Nat.zero_add];simp
 ·
  have hlog:d.log2<64:=(Nat.log2_lt hd0).2 hd2
  obtain⟨g1,g2⟩:=(Nat.log2_eq_iff hd0).1 (rfl:d.log2=d.log2)
  obtain⟨s,hs⟩: ∃ s:Nat,s=63-d.log2:=⟨_,rfl⟩
  have es:64-bl (d:Int)=(s:Int):=by rw[bl_pos hd0];omega
  have p1:2^d.log2*2^s=9223372036854775808:=by rw[←Nat.pow_add,show d.log2+s=63 by omega]
  have p2:2^s*2^(64-s)=18446744073709551616:=by rw[←Nat.pow_add,show s+(64-s)=64 by omega]
  have hps:0<2^s:=Nat.two_pow_pos s
  have hps2:0<2^(64-s):=Nat.two_pow_pos _
  have hY1:9223372036854775808≤d*2^s:=by rw[←p1];exact Nat.mul_le_mul_right _ g1
  have hY2:d*2^s<18446744073709551616:=by
   have:=Nat.mul_lt_mul_of_pos_right g2 hps
   rw[Nat.pow_succ,Nat.mul_assoc,Nat.mul_comm 2,←Nat.mul_assoc,p1]at this
   omega
  have hlo:l/2^(64-s)<2^s:=by rw[Nat.div_lt_iff_lt_mul hps2,p2];exact hl
  have hu:h*2^s+l/2^(64-s)<d*2^s:=by
   have:(h+1)*2^s≤d*2^s:=Nat.mul_le_mul_right _ hd
   rw[Nat.add_mul,Nat.one_mul]at this
   omega
  have hl10:l*2^s=l/2^(64-s)*18446744073709551616+l*2^s%18446744073709551616:=by
   have e1:l*2^s/18446744073709551616=l/2^(64-s):=by rw[←p2,Nat.mul_comm l,Nat.mul_div_mul_left _ _ hps]
   have:=Nat.div_add_mod (l*2^s) 18446744073709551616
   rw[e1]at this
   omega
  have hall:(h*18446744073709551616+l)*2^s=(h*2^s+l/2^(64-s))*18446744073709551616+l*2^s%18446744073709551616:=by
   have a1:(h*18446744073709551616+l)*2^s=h*2^s*18446744073709551616+l*2^s:=by
    rw[Nat.add_mul,Nat.mul_assoc,Nat.mul_comm 18446744073709551616,←Nat.mul_assoc]
   rw[a1,Nat.add_mul]
   omega
  have r1:shlI .u64 (d:Int) (s:Int)=((d*2^s:Nat):Int):=by rw[shlN (by omega),Nat.mod_eq_of_lt hY2]
  have r2:Wu (64-(s:Int))=((64-s:Nat):Int):=by rw[wrapU];omega
  have r3:orI .u64 (shlI .u64 (h:Int) (s:Int)) (shrI .u64 (l:Int) ((64-s:Nat):Int))=((h*2^s+l/2^(64-s):Nat):Int):=by
   rw[shlN (by omega),shrN (by omega),Nat.mod_eq_of_lt (by omega)]
   exact orN hlo (by omega)
  rw[es,r1,r2,r3,shlN (n:=l) (by omega),shr32,shr32,and32 hY2,and32 (Nat.mod_lt _ (by decide))]
  have hYs:d*2^s=d*2^s/4294967296*4294967296+d*2^s%4294967296:=by omega
  have hLs:l*2^s%18446744073709551616=l*2^s%18446744073709551616/4294967296*4294967296+l*2^s%18446744073709551616%4294967296:=by omega
  have y1a:2147483648≤d*2^s/4294967296:=by omega
  have y1b:d*2^s/4294967296<4294967296:=by omega
  have y0b:d*2^s%4294967296<4294967296:=by omega
  have v1:l*2^s%18446744073709551616/4294967296<4294967296:=by omega
  have v0:l*2^s%18446744073709551616%4294967296<4294967296:=by omega
  rw[hYs]at hu
  generalize hY:d*2^s=Y at*
  generalize hU:h*2^s+l/2^(64-s)=u at*
  generalize hL:l*2^s%18446744073709551616=L at*
  generalize hy1:Y/4294967296=y1 at*
  generalize hy0:Y%4294967296=y0 at*
  generalize hv1:L/4294967296=w1 at*
  generalize hv0:L%4294967296=w0 at*
  have hYp:0<y1*4294967296+y0:=by omega
  obtain⟨k1,k2,k3⟩:=kn_le y1a y0b hu v1
  have dm1:=Nat.div_add_mod (u*4294967296+w1) (y1*4294967296+y0)
  have ml1:=Nat.mod_lt (u*4294967296+w1) hYp
  obtain⟨q1,hq1⟩: ∃ q,(u*4294967296+w1)/(y1*4294967296+y0)=q:=⟨_,rfl⟩
  obtain⟨r1',hr1⟩: ∃ q,(u*4294967296+w1)%(y1*4294967296+y0)=q:=⟨_,rfl⟩
  rw[hq1,hr1]at dm1
  rw[hr1]at ml1
  rw[hq1]at k1 k3
  have dm2:=Nat.div_add_mod (r1'*4294967296+w0) (y1*4294967296+y0)
  have ml2:=Nat.mod_lt (r1'*4294967296+w0) hYp
  obtain⟨m1,m2,m3⟩:=kn_le y1a y0b ml1 v0
  obtain⟨q0,hq0⟩: ∃ q,(r1'*4294967296+w0)/(y1*4294967296+y0)=q:=⟨_,rfl⟩
  obtain⟨r0,hr0⟩: ∃ q,(r1'*4294967296+w0)%(y1*4294967296+y0)=q:=⟨_,rfl⟩
  rw[hq0,hr0]at dm2
  rw[hr0]at ml2
  rw[hq0]at m1 m3
  have hfin:Ok X (bits_Div64_h3 (Y:Int) (s:Int) (w0:Int) (q1:Int) (r1':Int) (q0:Int)):=by
   refine bits_Div64_w4 hX ⟨by omega, ?_⟩
   have e1:Wu (Wu ((q1:Int)*4294967296)+(q0:Int))=((q1*4294967296+q0:Nat):Int):=by rw[wrapU,wrapU];omega
   have e2:Wu (Wu (Wu ((r1':Int)*4294967296)+(w0:Int))-Wu ((q0:Int)*(Y:Int)))=((r0:Nat):Int):=by
    rw[show(q0:Int)*(Y:Int)=((q0*Y:Nat):Int)by simp]
    have ep:q0*Y=(y1*4294967296+y0)*q0:=by rw[←hYs,Nat.mul_comm]
    rw[wu_sub (by omega) (by omega) v0]
    omega
   rw[e1,e2,shrN (by omega)]
   have hQ:(h*18446744073709551616+l)*2^s=(q1*4294967296+q0)*Y+r0:=by
    rw[hall]
    have x1:(q1*4294967296+q0)*Y=(y1*4294967296+y0)*q1*4294967296+(y1*4294967296+y0)*q0:=by
     rw[←hYs,Nat.add_mul,Nat.mul_comm Y q1,Nat.mul_comm Y q0,Nat.mul_assoc,Nat.mul_comm 4294967296 Y,←Nat.mul_assoc]
    rw[x1]
    omega
   rw[←hY,←Nat.mul_assoc]at hQ
   have hdvd:2^s∣r0:=by
    have a1:2^s∣(q1*4294967296+q0)*d*2^s:=Nat.dvd_mul_left _ _
    have a2:2^s∣(q1*4294967296+q0)*d*2^s+r0:=by rw[←hQ];exact Nat.dvd_mul_left _ _
    exact(Nat.dvd_add_right a1).1 a2
   obtain⟨t,ht⟩:=hdvd
   have hQ2:h*18446744073709551616+l=(q1*4294967296+q0)*d+t:=by
    rw[ht,Nat.mul_comm (2^s) t,←Nat.add_mul]at hQ
    exact Nat.eq_of_mul_eq_mul_right hps hQ
   have htd:t<d:=by
    rw[←hYs,←hY,ht,Nat.mul_comm (2^s)]at ml2
    exact Nat.lt_of_mul_lt_mul_right ml2
   have et:r0/2^s=t:=by rw[ht,Nat.mul_div_cancel_left _ hps]
   have f1:(h*18446744073709551616+l)/d=q1*4294967296+q0:=by
    rw[hQ2,Nat.mul_comm,Nat.mul_add_div (by omega),Nat.div_eq_of_lt htd,Nat.add_zero]
   have f2:(h*18446744073709551616+l)%d=t:=by
    rw[hQ2,Nat.mul_comm,Nat.mul_add_mod,Nat.mod_eq_of_lt htd]
   rw[f1,f2,et]
  have loop2:Ok X (bits_Div64_h2 (Y:Int) (s:Int) (y1:Int) (y0:Int) (w0:Int) (q1:Int) ((r1'%y1:Nat):Int) (r1':Int) ((r1'/y1:Nat):Int)):=by
   refine kn_loop (F:=fun qh r=>Ok X (bits_Div64_h2 (Y:Int) (s:Int) (y1:Int) (y0:Int) (w0:Int) (q1:Int) (r:Int) (r1':Int) (qh:Int))) (J:=fun q=>Ok X (bits_Div64_h3 (Y:Int) (s:Int) (w0:Int) (q1:Int) (r1':Int) (q:Int))) (v:=w0) y1a y1b y0b ml1 v0 (fun qh r c1 c2 c3 c4 c5=> ?_) (by rw[hq0];exact hfin)
   obtain⟨t1,t2,t3,t4⟩:=kn_test (qh:=qh) (r:=r) (y1:=y1) (y0:=y0) (v:=w0) c1 c2 y1b y0b v0
   refine bits_Div64_w3 hX ⟨fun a=> ?_,fun a=> ?_⟩
   ·obtain⟨b1,b2⟩:=c4 (.inl (by omega)) (by omega)
    rw[t1,t2 (by omega)]
    exact⟨fun b=>b1 (by omega),fun b=>b2 (by omega)⟩
   ·rw[t1,t3,t4 (by omega)]
    refine⟨fun a2=> ?_,fun a2=>c5 (fun z=>by rcases z with z|z<;>omega)⟩
    have hq1':1≤qh:=by
     rcases Nat.eq_zero_or_pos qh with z|z
     ·subst z;simp at a2;omega
     ·exact z
    obtain⟨b1,b2⟩:=c4 (.inr (by omega)) hq1'
    rw[t2 hq1']
    exact⟨fun b=>b1 (by omega),fun b=>b2 (by omega)⟩
  have mid:Ok X (bits_Div64_h1 (Y:Int) (s:Int) (y1:Int) (y0:Int) (u:Int) (w1:Int) (w0:Int) (q1:Int)):=by
   have e2:Wu (Wu (Wu ((u:Int)*4294967296)+(w1:Int))-Wu ((q1:Int)*(Y:Int)))=((r1':Nat):Int):=by
    rw[show(q1:Int)*(Y:Int)=((q1*Y:Nat):Int)by simp]
    have ep:q1*Y=(y1*4294967296+y0)*q1:=by rw[←hYs,Nat.mul_comm]
    rw[wu_sub (by omega) (by omega) v1]
    omega
   refine bits_Div64_w2 hX ?_
   rw[e2]
   have hle:r1'/y1*y1≤r1':=Nat.div_mul_le_self _ _
   have e3:Wu ((r1':Int)-Wu ((r1':Int)/(y1:Int)*(y1:Int)))=((r1'%y1:Nat):Int):=by
    rw[show(r1':Int)/(y1:Int)*(y1:Int)=((r1'/y1*y1:Nat):Int)by simp,wrapU,wrapU]
    have:=Nat.div_add_mod r1' y1
    rw[Nat.mul_comm]at this
    omega
   rw[e3]
   refine⟨by omega,by omega, ?_, ?_⟩
   ·simp only[U64,InR];rw[←Int.natCast_ediv];omega
   ·have:=loop2;rwa [Int.natCast_ediv]at this
  have hle:u/y1*y1≤u:=Nat.div_mul_le_self _ _
  have e3:Wu ((u:Int)-Wu ((u:Int)/(y1:Int)*(y1:Int)))=((u%y1:Nat):Int):=by
   rw[show(u:Int)/(y1:Int)*(y1:Int)=((u/y1*y1:Nat):Int)by simp,wrapU,wrapU]
   have:=Nat.div_add_mod u y1
   rw[Nat.mul_comm]at this
   omega
  rw[e3]
  refine⟨by simp only[U64,InR];omega,by simp only[U64,InR];omega,by omega,by omega,by omega,by omega, ?_, ?_⟩
  ·simp only[U64,InR];rw[←Int.natCast_ediv];omega
  ·have:=kn_loop (F:=fun qh r=>Ok X (bits_Div64_h0 (Y:Int) (s:Int) (y1:Int) (y0:Int) (u:Int) (w1:Int) (w0:Int) (qh:Int) (r:Int))) (J:=fun q=>Ok X (bits_Div64_h1 (Y:Int) (s:Int) (y1:Int) (y0:Int) (u:Int) (w1:Int) (w0:Int) (q:Int))) (v:=w1) y1a y1b y0b hu v1 (fun qh r c1 c2 c3 c4 c5=>by
    obtain⟨t1,t2,t3,t4⟩:=kn_test (qh:=qh) (r:=r) (y1:=y1) (y0:=y0) (v:=w1) c1 c2 y1b y0b v1
    refine bits_Div64_w1 hX ⟨fun a=> ?_,fun a=> ?_⟩
    ·obtain⟨b1,b2⟩:=c4 (.inl (by omega)) (by omega)
     rw[t1,t2 (by omega)]
     exact⟨fun b=>b1 (by omega),fun b=>b2 (by omega)⟩
    ·rw[t1,t3,t4 (by omega)]
     refine⟨fun a2=> ?_,fun a2=>c5 (fun z=>by rcases z with z|z<;>omega)⟩
     have hq1':1≤qh:=by
      rcases Nat.eq_zero_or_pos qh with z|z
      ·subst z;simp at a2;omega
      ·exact z
     obtain⟨b1,b2⟩:=c4 (.inr (by omega)) hq1'
     rw[t2 hq1']
     exact⟨fun b=>b1 (by omega),fun b=>b2 (by omega)⟩) (by rw[hq1];exact mid)
   rwa [Int.natCast_ediv]at this
end Go.Proofs.YtelidogcomffkaaGreatDoor
