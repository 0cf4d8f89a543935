/- Texts FloorC, LawN, NodL in one. No conditions. -/
import Derived.Test.YthjdpplgfdihoaaGreatDoorBunBE
import Derived.Test.YthjdpplgfdihoaaGreatDoorBunBC

set_option linter.unusedSimpArgs false
set_option linter.unusedVariables false
set_option maxRecDepth 100000
set_option maxHeartbeats 16000000
namespace Go.Proofs.YthjdpplgfdihoaaGreatDoor
section
open Go Go.RowKit Go.Lib
def Mt.collect (m:Mt) (now grace:Nat):Nat:=if 281474976710656 < m.at_∨281474976710656 - m.at_ < grace∨now < m.at_+grace then 0 else m.cert
theorem uy2 (m:Mt) (now grace:Nat) (w:World):
  Calls Tryz.prog 109 #[m.val,.int .u64 (now:Int),.int .u64 (grace:Int)] w fun e w'=>e=.returned (.int .u64 ((m.collect now grace:Nat):Int))∧Below w.heap.size w w':=by
 obtain⟨fl,ce,a_,le⟩:=m;have hb:=b_ w (.cells #[.int .u64 (fl:Int),.int .u64 (ce:Int),.int .u64 (a_:Int),.int .u64 (le:Int)] 47);obtain⟨R,hR⟩:=n_ (Mt.collect ⟨fl,ce,a_,le⟩ now grace);rw[←hR];unfold Mt.val;simp only;unfold Mt.collect at hR;simp only at hR
 by_cases h1:(281474976710656:Int) < (a_:Int)
 ·rw[if_pos (.inl (by omega))]at hR
  subst hR;go_enter Tryz.func109,Tryz.ntmps109;go_wp2;go_ret;exact⟨rfl,hb⟩
 have hw1:IntKind.u64.wrap (281474976710656 - (a_:Int))=281474976710656 - (a_:Int):=aY_ _ (by omega);have f1:((281474976710656:Int) < (a_:Int))=False:=eq_false h1
 by_cases h2:281474976710656 - (a_:Int) < (grace:Int)
 ·rw[if_pos (.inr (.inl (by omega)))]at hR
  subst hR;go_enter Tryz.func109,Tryz.ntmps109;go_wp2;go_ret;exact⟨rfl,hb⟩
 have f2:(281474976710656 - (a_:Int) < (grace:Int))=False:=eq_false h2;have hw2:IntKind.u64.wrap ((a_:Int)+(grace:Int))=(a_:Int)+(grace:Int):=aY_ _ (by omega)
 by_cases h3:(now:Int) < (a_:Int)+(grace:Int)
 ·rw[if_pos (.inr (.inr (by omega)))]at hR
  subst hR;go_enter Tryz.func109,Tryz.ntmps109;go_wp2;go_ret;exact⟨rfl,hb⟩
 have f3:((now:Int) < (a_:Int)+(grace:Int))=False:=eq_false h3;rw[if_neg (by omega)]at hR;subst hR;go_enter Tryz.func109,Tryz.ntmps109;go_wp2;go_ret;exact⟨rfl,hb⟩
end
section
open Go Go.RowKit Go.Lib Go.Shelf
variable {w w0 w1 w2:World} {X X1 X2:Dw} {S S1 S2:Sd} {Y Y1 Y2:Yw} {V V1 V2:Sv} {nb now grace:Nat} {ni:Int}
structure NdW (w0 w:World) (X:Dw) (S:Sd) (Y:Yw) (V:Sv) (nb:Nat) (ni:Int) (now grace:Nat):Prop where
 at_:NdAt w X S Y V nb ni now grace
 low:∀g∈XY X Y,w0.heap.size≤g
 bel:Below w0.heap.size w0 w
theorem NdW.below (h:NdW w0 w X S Y V nb ni now grace) (hb:Below w.heap.size w w1):NdW w0 w1 X S Y V nb ni now grace:=⟨h.at_.below hb,h.low,az h.bel hb⟩
theorem fx5 {q:Int} (hq:q≤1099511627776) (he:Env w) (hd:DK w1 X (Sd.new q)) (hb:Below w.heap.size w w1) (hf:∀g∈X.foot,w.heap.size≤g):Dm w1 X (Sd.new q):=
 ⟨hd,Sd.ay4 q hq,he.below hb,fun g hg=>h_ he.base (hf g hg)⟩
theorem tw3 {q:Int} (h1:500000≤q) (h2:q≤1099511627776) (he:Env w) (hd:DK w1 X (Sd.new q)) (hb:Below w.heap.size w w1) (hf:∀g∈X.foot,w.heap.size≤g) (ni:Int) (grace:Nat) (hni:0≤ni∧ni < 7) (hgr:grace≤1099511627776):
  Calls Tryz.prog 14 #[.int .i64 ni,.pointer (some ⟨X.d,0,none⟩),.int .u64 (grace:Int)] w1 fun e w'=>∃nb X' Y S',e=.returned (.tuple #[.pointer (some ⟨nb,0,none⟩),.int .i64 0])∧NdW w w' X' S' Y Nd.v0 nb ni 0 grace∧Nd.NS q S' Nd.v0 0 100∧w.heap.size≤nb:=by
 obtain⟨S',hcr,hns⟩:=Nd.born q h1 h2;refine(sy2 (fx5 h2 he hd hb hf) rfl (by rw[show (Sd.new q).list=[] by simp[Sd.list,Sd.new]];intro s hs;cases hs) (by show 0≤_;omega) S' Nd.v0 hcr (by decide) (by decide) ni grace hni hgr).mono ?_;rintro e w' ⟨nb,X',Y,rfl,e1,h3,c,f,hnb⟩;have hlow:∀g∈XY X' Y,w.heap.size≤g:=fun g hg=>by
  rcases f g hg with z|z
  ·exact hf g z
  ·exact h_ hb.size z
 exact⟨nb,X',Y,S',rfl,⟨h3,hlow,hb.trans (c.below hb.size hf)⟩,hns,h_ hb.size hnb⟩
theorem yk3 {q:Int} (h1:500000≤q) (h2:q≤1099511627776) (he:Env w) (hd:DK w1 X (Sd.new q)) (hb:Below w.heap.size w w1) (hf:∀g∈X.foot,w.heap.size≤g) (ni:Int) (grace:Nat) (hni:0≤ni∧ni < 7) (hgr:grace≤1099511627776):
  Calls Tryz.prog 14 #[.int .i64 ni,.pointer (some ⟨X.d,0,none⟩),.int .u64 (grace:Int)] w1 fun e w'=>∃nb X' Y S',e=.returned (.tuple #[.pointer (some ⟨nb,0,none⟩),.int .i64 0])∧NdW w w' X' S' Y Nd.v0 nb ni 0 grace∧Nd.NS q S' Nd.v0 0 100:=
 (tw3 h1 h2 he hd hb hf ni grace hni hgr).mono fun _ _ ⟨nb,X',Y,S',a,b,c,_⟩=>⟨nb,X',Y,S',a,b,c⟩
theorem bz5 (he:Env w):Calls Tryz.prog 19 #[] w fun e w'=>e=.returned (.bool true)∧Below w.heap.size w w':=by
 have HDN:=H_ (jv3 1048576 w);have HE:=H_ he;clear he;go_enter Tryz.func19,Tryz.ntmps19;go_wp2_with fail
 with_reducible refine HDN.out.mono ?_
 rintro e w1 ⟨X0,rfl,hdk,hb1,hfo⟩;have hop:=yk3 (by omega) (by omega) HE.out hdk hb1 hfo 2 5 (by omega) (by omega);rw[show ((5:Nat):Int)=5 from rfl]at hop;have HOP:=H_ hop;clear hop hdk hb1 hfo HDN;go_wp2_with fail
 with_reducible refine HOP.out.mono ?_
 rintro e w2 ⟨nb,X,Y,S,rfl,hw,hns⟩;have hask:=sv4 hw.at_ (hns.nrm (by omega) (by omega) (by simp[Nd.v0])) 1 3 7 none 0 0 [] ⟨by simp,by simp,by simp,by simp,by simp,by simp,rfl,.inl rfl⟩ Row.nil_ (by omega);rw[show ((3:Nat):Int)=3 from rfl,show ((7:Nat):Int)=7 from rfl]at hask;have HASK:=H_ hask;have HWB:=H_ hw.bel;have HLOW:=H_ hw.low;clear hask hw hns HOP;go_wp2_with fail
 with_reducible refine HASK.out.mono ?_
 rintro e w3 ⟨X1,Y1,e1,e2,h3,c3,f3,na3,g,B,n,c,rfl,ha,hg,hr,hB,hgx,hBx⟩;have hn0:n=0:=by
  have:=hr.uz;simpa [Nd.v0] using this.symm
 subst hn0;have a0:=ha.c0;have a2:=ha.c2;have a3:=ha.c3;have a5:=ha.c5;have HNW:=H_ (sj4 h3);have HB3:=H_ (HWB.out.trans (c3.below HWB.out.size HLOW.out));clear HASK e1 e2 h3 c3 f3 na3 ha hg hr hB hgx hBx HWB HLOW;go_wp2_with fail
 with_reducible refine HNW.out.mono ?_
 rintro e w4 ⟨rfl,rfl⟩;go_wp2;go_ret;exact⟨rfl,HB3.out⟩
end
section
open Go Go.RowKit Go.Lib Go.Shelf
variable {w w0 w1 w2:World} {X X1 X2:Dw} {S S1 S2:Sd} {Y Y1 Y2:Yw} {V V1 V2:Sv} {nb now grace:Nat} {ni:Int} {F G:List Nat}
variable {Xa Xb:Dw} {Sa Sb:Sd} {Ya Yb:Yw} {Va Vb:Sv} {na:Nat}
end
end Go.Proofs.YthjdpplgfdihoaaGreatDoor
