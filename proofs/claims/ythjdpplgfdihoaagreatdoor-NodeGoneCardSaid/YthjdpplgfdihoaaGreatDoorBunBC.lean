/- Texts NodK in one. No conditions. -/
import Derived.Test.YthjdpplgfdihoaaGreatDoorBunAY
import Derived.Test.YthjdpplgfdihoaaGreatDoorBunAZ

set_option linter.unusedSimpArgs false
set_option linter.unusedVariables false
set_option maxRecDepth 100000
set_option maxHeartbeats 16000000
namespace Go.Proofs.YthjdpplgfdihoaaGreatDoor
section
open Go Go.RowKit Go.Lib Go.Shelf
variable {w w1 w2:World} {X X1 X2:Dw} {S S1 S2:Sd} {Y Y1 Y2:Yw} {V V1 V2:Sv} {nb now grace:Nat} {ni:Int}
def fv4 (X:Dw) (w:World) (S':Sd) (V':Sv) (ni:Int) (grace:Nat) (e:Ending) (w':World):Prop:=∃nb X' Y,e=.returned (.tuple #[.pointer (some ⟨nb,0,none⟩),.int .i64 0])∧X'.d=X.d∧NdAt w' X' S' Y V' nb ni V'.M.v.at_ grace∧Chg X.foot w w'∧(∀g∈XY X' Y,g∈X.foot∨w.heap.size≤g)∧w.heap.size≤nb
theorem my4 (S':Sd) (V':Sv) (hop:Calls Tryz.prog 31 #[.pointer (some ⟨X.d,0,none⟩)] w (iz2 X w S' V')) (hfl:V'.M.v.files.length≤10000) (hat:V'.M.v.at_≤1099511627776) (ni:Int) (grace:Nat) (hni:0≤ni∧ni < 7) (hgr:grace≤1099511627776):
  Calls Tryz.prog 14 #[.int .i64 ni,.pointer (some ⟨X.d,0,none⟩),.int .u64 (grace:Int)] w (fv4 X w S' V' ni grace):=by
 have HOP:=H_ hop;have e1:(ni < (0:Int))=False:=eq_false (by omega);have e2:((7:Int)≤ni)=False:=eq_false (by omega);have e3:((1099511627776:Int) < (grace:Int))=False:=eq_false (by omega);obtain⟨a,ha⟩:=n_ V'.M.v.at_;have hfd:∀(x1 x2 x3 x4:Int) W',(Instr.field 47 (.agg #[.int .u64 x1,.int .u64 x2,.int .u64 x3,.int .u64 x4]) 2).run Tryz.prog W'=.ok (.int .u64 x3) W':=fun _ _ _ _ _=>rfl;have hmin:min (a:Int) 1099511627776=(a:Int):=by omega
 have HA:=H_ (d_ ha hfl);clear hop hat ha hfl;go_enter Tryz.func14,Tryz.ntmps14;go_wp2_with fail
 with_reducible refine HOP.out.mono ?_
 rintro e w1 ⟨X1,Y,rfl,e4,h1,c1,f1⟩;have hme:=xx h1 HA.out.2;obtain⟨mt,hmt⟩:=n_ (St.oz V');rw[←hmt]at hme;have hma:mt.at_=a:=by rw[HA.out.1,hmt];rfl
 obtain⟨m1,m2,m3,m4⟩:=mt;simp only at hma;subst hma;unfold Mt.val at hme;simp only at hme;have HME:=H_ hme;have H1:=H_ (d_ h1 (d_ e4 (d_ c1 f1)));clear hme h1 e4 c1 f1 hmt;go_wp2_with fail
 with_reducible refine HME.out.mono ?_
 rintro e w2 ⟨rfl,hb2⟩;have hb3:=b_ w2 (.cells #[.int .i64 ni,.pointer (some ⟨Y.s,0,none⟩),.int .u64 (m3:Int),.int .u64 (grace:Int)] 101);have hx:=BoxO.new w2 #[.int .i64 ni,.pointer (some ⟨Y.s,0,none⟩),.int .u64 (m3:Int),.int .u64 (grace:Int)] 101;have HZ:Hid (fv4 X w S' V' ni grace (.returned (.tuple #[.pointer (some ⟨w2.heap.size,0,none⟩),.int .i64 0])) (w2.alloc (.cells #[.int .i64 ni,.pointer (some ⟨Y.s,0,none⟩),.int .u64 (m3:Int),.int .u64 (grace:Int)] 101))):=H_ (by
  obtain⟨h1,e4,c1,f1⟩:=H1.out;have hlt:=h1.lt;have hs:=hb2.size;rw[HA.out.1]at hx ⊢;exact⟨w2.heap.size,X1,Y,rfl,e4,⟨(h1.below hb2).below (by rw[←HA.out.1];exact hb3),hx,fun hm=>by have:=hlt _ hm;omega⟩,c1.trans (Chg.of_below (az hb2 (by rw[←HA.out.1];exact hb3)) X.foot) (fun g hg=>.inl hg),f1,h_ c1.size hs⟩)
 clear hb2 hb3 hx HME;go_wp2;go_ret2;exact HZ.out
theorem sy2 (h:Dm w X S) (hd:S.dead=false) (hno:∀s∈S.list,St.by1 s=false) (hld:S.load≤100000000000) (S':Sd) (V':Sv) (hR:St.create S=(S',some V',0)) (hfl:V'.M.v.files.length≤10000) (hat:V'.M.v.at_≤1099511627776) (ni:Int) (grace:Nat) (hni:0≤ni∧ni < 7) (hgr:grace≤1099511627776):
  Calls Tryz.prog 14 #[.int .i64 ni,.pointer (some ⟨X.d,0,none⟩),.int .u64 (grace:Int)] w (fv4 X w S' V' ni grace):=
 my4 S' V' (iq4 h hd hno hld S' V' hR) hfl hat ni grace hni hgr
theorem gj2 (h:NdAt w X S Y V nb ni now grace) (hn:V.st.length≤1000000):
  Calls Tryz.prog 18 #[.pointer (some ⟨nb,0,none⟩)] w fun e w'=>∃A' c',e=.returned (.slice A' Y.A.n c')∧w'.ownsRow w.heap.size 36 5 (.slice A' Y.A.n c') Y.A.n (itc V.st)∧Below w.heap.size w w':=by
 have k1:=h.box.c1;have HS:=H_ (dz1 h.at_ hn);clear h;go_enter Tryz.func18,Tryz.ntmps18;go_wp2_with fail
 with_reducible refine HS.out.mono ?_
 rintro e w1 ⟨A',c',rfl,h1,h2⟩;have H1:=H_ (d_ h1 h2);clear h1 h2;go_wp2;go_ret;exact⟨_,_,rfl,H1.out⟩
theorem bz4 (h:NdAt w X S Y V nb ni now grace) (hn:V.M.v.files.length≤10000):
  Calls Tryz.prog 37 #[.pointer (some ⟨nb,0,none⟩)] w fun e w'=>e=.returned (St.oz V).val∧Below w.heap.size w w':=by
 have hb1:=b_ w (.cells #[.int .u64 0,.int .u64 0,.int .u64 0,.int .u64 0] 47);have hbx:=BoxO.new w #[.int .u64 0,.int .u64 0,.int .u64 0,.int .u64 0] 47;have h1:=h.below hb1;have k1:=h1.box.c1;have hme:=xx h1.at_ hn;obtain⟨mt,hmt⟩:=n_ (St.oz V);rw[←hmt]at hme ⊢;unfold Mt.val at hme ⊢;have HME:=H_ hme;have HB:=H_ (d_ hb1 hbx);clear hme hmt h h1 hb1 hbx;go_enter Tryz.func37,Tryz.ntmps37;go_wp2_with fail
 with_reducible refine HME.out.mono ?_
 rintro e w2 ⟨rfl,hb2⟩;have hbz:=az HB.out.1 hb2;have hx3:=HB.out.2.below hb2;have f0:=hx3.free 0;have f1:=hx3.free 1;have f2:=hx3.free 2;have f3:=hx3.free 3;have s0:=hx3.c0;have s1:=hx3.c1;have s2:=hx3.c2;have s3:=hx3.c3;have HQ:=H_ hbz;clear HME HB hb2 hx3 hbz;go_wp2;refine bodyPost_ret (v:=.agg #[.int .u64 (mt.floor:Int),.int .u64 (mt.cert:Int),.int .u64 (mt.at_:Int),.int .u64 (mt.lease:Int)]) (by simp[results,go_sem, *]) rfl ⟨rfl,?_⟩;exact(((HQ.out.setCell (p:=⟨w.heap.size,0,none⟩) l_ _).setCell (p:=⟨w.heap.size,1,none⟩) l_ _).setCell (p:=⟨w.heap.size,2,none⟩) l_ _).setCell (p:=⟨w.heap.size,3,none⟩) l_ _
theorem sj4 (h:NdAt w X S Y V nb ni now grace):
  Calls Tryz.prog 50 #[.pointer (some ⟨nb,0,none⟩)] w fun e w'=>e=.returned (.int .u64 (now:Int))∧w'=w:=by
 have k1:=h.box.c2;clear h;go_enter Tryz.func50,Tryz.ntmps50;go_wp2;go_ret;exact⟨rfl,rfl⟩
end
end Go.Proofs.YthjdpplgfdihoaaGreatDoor
