/-
  Parts of the proof. No condition.
-/
import Derived.Test.YtadllffeoibelaaGreatS3
import Derived.Deep.DeepCutAuto
open Go.Proofs.Tryz
namespace Go.Proofs.YtadllffeoibelaaGreat
set_option maxRecDepth 100000
set_option maxHeartbeats 32000000
set_option linter.all false
section
open Go.RowKit
attribute [local go_sem ↓] Go.wp_at_zero Go.wp_at_succ
theorem M5{w:World}{B' b o:Nat}{l:List Nm}(h:Rd w B' (some ⟨b,o,none⟩) (l.flatMap nmc)):Kz w b o l:=by
 intro t nm ht j u hu;obtain⟨b',o',e,_,hc⟩:=h.name ht;injection e with e
 injection e with e1 e2
 subst e1;subst e2;exact hc j u (by simpa using hu)
theorem Blk.put8{w:World}{g:Nat}(x:Nm)(h:Blk w g 24 At):Blk ((((((((w.setCell ⟨g,0,none⟩ (B x.b0)).setCell ⟨g,1,none⟩ (B x.b1)).setCell ⟨g,2,none⟩ (B x.b2)).setCell ⟨g,3,none⟩ (B x.b3)).setCell ⟨g,4,none⟩ (B x.b4)).setCell ⟨g,5,none⟩ (B x.b5)).setCell ⟨g,6,none⟩ (B x.b6)).setCell ⟨g,7,none⟩ (B x.b7)) g 24 x.cells:=by
 have h1:=(((((((h.put 0 (B x.b0)).put 1 (B x.b1)).put 2 (B x.b2)).put 3 (B x.b3)).put 4 (B x.b4)).put 5 (B x.b5)).put 6 (B x.b6)).put 7 (B x.b7);simpa using h1
theorem Yo{B':Nat}{w0 w:World}{g:Nat}(x:Nm)(h:Below B' w0 w)(hg:B'<=g):Below B' w0 ((((((((w.setCell ⟨g,0,none⟩ (B x.b0)).setCell ⟨g,1,none⟩ (B x.b1)).setCell ⟨g,2,none⟩ (B x.b2)).setCell ⟨g,3,none⟩ (B x.b3)).setCell ⟨g,4,none⟩ (B x.b4)).setCell ⟨g,5,none⟩ (B x.b5)).setCell ⟨g,6,none⟩ (B x.b6)).setCell ⟨g,7,none⟩ (B x.b7)):=
 (((((((h.setCell (p:=⟨g,0,none⟩) hg _).setCell (p:=⟨g,1,none⟩) hg _).setCell (p:=⟨g,2,none⟩) hg _).setCell (p:=⟨g,3,none⟩) hg _).setCell (p:=⟨g,4,none⟩) hg _).setCell (p:=⟨g,5,none⟩) hg _).setCell (p:=⟨g,6,none⟩) hg _).setCell (p:=⟨g,7,none⟩) hg _
theorem Blk.c8{w:World}{g:Nat}{x:Nm}(h:Blk w g 24 x.cells):w.cell? ⟨g,0,none⟩=some (B x.b0)/\w.cell? ⟨g,1,none⟩=some (B x.b1)/\w.cell? ⟨g,2,none⟩=some (B x.b2)/\w.cell? ⟨g,3,none⟩=some (B x.b3)/\w.cell? ⟨g,4,none⟩=some (B x.b4)/\w.cell? ⟨g,5,none⟩=some (B x.b5)/\w.cell? ⟨g,6,none⟩=some (B x.b6)/\w.cell? ⟨g,7,none⟩=some (B x.b7):=
 ⟨h.cell 0,h.cell 1,h.cell 2,h.cell 3,h.cell 4,h.cell 5,h.cell 6,h.cell 7⟩
theorem Blk.z8{w:World}{g:Nat}(h:Blk w g 24 At):w.cell? ⟨g,0,none⟩=some (.int .u8 0)/\w.frozen? ⟨g,0,none⟩=false/\w.cell? ⟨g,1,none⟩=some (.int .u8 0)/\w.frozen? ⟨g,1,none⟩=false/\w.cell? ⟨g,2,none⟩=some (.int .u8 0)/\w.frozen? ⟨g,2,none⟩=false/\w.cell? ⟨g,3,none⟩=some (.int .u8 0)/\w.frozen? ⟨g,3,none⟩=false/\w.cell? ⟨g,4,none⟩=some (.int .u8 0)/\w.frozen? ⟨g,4,none⟩=false/\w.cell? ⟨g,5,none⟩=some (.int .u8 0)/\w.frozen? ⟨g,5,none⟩=false/\w.cell? ⟨g,6,none⟩=some (.int .u8 0)/\w.frozen? ⟨g,6,none⟩=false/\w.cell? ⟨g,7,none⟩=some (.int .u8 0)/\w.frozen? ⟨g,7,none⟩=false:=
 ⟨h.cell 0,h.frozen 0,h.cell 1,h.frozen 1,h.cell 2,h.frozen 2,h.cell 3,h.frozen 3,h.cell 4,h.frozen 4,h.cell 5,h.frozen 5,h.cell 6,h.frozen 6,h.cell 7,h.frozen 7⟩
def UP(W:World)(y:Nm)(s:Value)(wx:World):Prop:=∃g,s= .pointer (some ⟨g,0,none⟩)/\W.heap.size<=g/\Blk wx g 24 y.cells/\ZN W wx
theorem Yp{W w2 w3:World}{y:Nm}(hb2:Below W.drew.heap.size W.drew w2)(hb3:ZN w2 w3):UP W y (.pointer (some ⟨w3.heap.size,0,none⟩)) (w3.alloc (.cells y.cells 24)):=by
 have h2:ZN W w2:=(AC _ _).drew.trans hb2;have h3:ZN W w3:=h2.trans (hb3.mono h2.size);exact⟨_,rfl,h3.size,Blk.new _ _ _,h3.alloc h3.size _⟩
theorem Yq{W w2 w3:World}{y:Nm}(hb2:Below W.drew.heap.size W.drew w2)(hb3:Below (w2.alloc (.cells At 24)).heap.size (w2.alloc (.cells At 24)) w3):UP W y (.pointer (some ⟨w2.heap.size,0,none⟩)) ((((((((w3.setCell ⟨w2.heap.size,0,none⟩ (B y.b0)).setCell ⟨w2.heap.size,1,none⟩ (B y.b1)).setCell ⟨w2.heap.size,2,none⟩ (B y.b2)).setCell ⟨w2.heap.size,3,none⟩ (B y.b3)).setCell ⟨w2.heap.size,4,none⟩ (B y.b4)).setCell ⟨w2.heap.size,5,none⟩ (B y.b5)).setCell ⟨w2.heap.size,6,none⟩ (B y.b6)).setCell ⟨w2.heap.size,7,none⟩ (B y.b7)):=by
 have h2:ZN W w2:=(AC _ _).drew.trans hb2;have h2':=h2.alloc h2.size (.cells At 24);have h3:ZN W w3:=h2'.trans (hb3.mono h2'.size);exact⟨_,rfl,h2.size,((Blk.new w2 _ _).below hb3 (Blk.new w2 _ _).lt).put8 y,Yo y h3 h2.size⟩
theorem Yr{W w2 w3:World}{y:Nm}(hb2:Below (W.alloc (.cells At 24)).drew.heap.size (W.alloc (.cells At 24)).drew w2)(hb3:ZN w2 w3):UP W y (.pointer (some ⟨W.heap.size,0,none⟩)) ((((((((w3.setCell ⟨W.heap.size,0,none⟩ (B y.b0)).setCell ⟨W.heap.size,1,none⟩ (B y.b1)).setCell ⟨W.heap.size,2,none⟩ (B y.b2)).setCell ⟨W.heap.size,3,none⟩ (B y.b3)).setCell ⟨W.heap.size,4,none⟩ (B y.b4)).setCell ⟨W.heap.size,5,none⟩ (B y.b5)).setCell ⟨W.heap.size,6,none⟩ (B y.b6)).setCell ⟨W.heap.size,7,none⟩ (B y.b7)):=by
 have h1:ZN W (W.alloc (.cells At 24)).drew:=((AC _ _).alloc (AB _) _).drew;have h2:ZN W w2:=h1.trans (hb2.mono h1.size);have h3:ZN W w3:=h2.trans (hb3.mono h2.size);have hB2:=((Blk.new W 24 At).drew).below hb2 (Blk.new W 24 At).lt;exact⟨_,rfl,AB _,(hB2.below hb3 hB2.lt).put8 y,Yo y h3 (AB _)⟩
theorem OY(A:Option Addr)(c at_ j:Nat)(l:List UInt8)(m:Nm)(w:World)(hr:Rd w w.heap.size A (l.map B))(hlen:l.length<=1000000)(hc:l.length<=c)(hm:c<=maxLen)(h:at_+184<=l.length)(hj:j<32):Calls prog 203 #[.slice A l.length c,.int .i64 (at_:Int),.int .i64 (j:Int),m.val] w (BM w (EF l at_ j m)):=by
 have hN1:∀W,ZN w W->Calls prog 247 #[.slice A l.length c,.int .i64 (at_:Int),.int .i64 18] W (FZ W 18 (B9 l at_ 18)):=fun W hW=>
  MM A c at_ 18 l W ((hr.below hW).more hW.size) hlen hc hm (by omega) (by omega) (by omega)
 have hN2:∀W,ZN w W->Calls prog 247 #[.slice A l.length c,.int .i64 ((at_:Int)+144),.int .i64 5] W (FZ W 5 (B9 l (at_+144) 5)):=fun W hW=>
  MM A c (at_+144) 5 l W ((hr.below hW).more hW.size) hlen hc hm (by omega) (by omega) (by omega)
 have hR1:∀W g,BK W g 18 (B9 l at_ 18)->Calls prog 246 #[m.val,.slice (some ⟨g,0,none⟩) 18 18] W fun e w'=>e= .returned (.tuple #[(OS m (B9 l at_ 18)).val,.bool true])/\ZN W w':=fun W g hg=>
  OX m _ _ 18 W hg.rd (IE _ _ _)
 have hF1:∀W g,BK W g 5 (B9 l (at_+144) 5)->Calls prog 248 #[(OS m (B9 l at_ 18)).val,.int .i64 (j:Int),.int .i64 32,.slice (some ⟨g,0,none⟩) 5 5] W fun e w'=>e= .returned (.tuple #[(EF l at_ j m).val,.bool true])/\ZN W w':=fun W g hg=>
  OR _ _ j 5 g 0 W hj fun W2 hW2=>Fp _ 5 g 0 (B9 l (at_+144) 5) 5 j 32 W2 rfl (by omega) (by rw[IE];omega) (by omega) hj (Nat.lt_of_lt_of_le hg.lt hW2.size) ((M5 hg.rd).below hg.lt hW2)
 have HN1:=AA hN1;clear hN1;have HN2:=AA hN2;clear hN2;have HR1:=AA hR1;clear hR1;have HF1:=AA hF1;clear hF1;clear hr;generalize B9 l at_ 18=n1 at*;generalize B9 l (at_+144) 5=n2 at*;generalize OS m n1=key at*;obtain⟨r,hr⟩:=ZH (EF l at_ j m);rw[<-hr]at HF1;rw[<-hr];clear hr;go_enter func203,ntmps203;go_upto_region 1 with fail
 have hX:Blk ((w.alloc (Obj.cells m.cells 24)).alloc (Obj.cells At 24)) w.heap.size 24 m.cells:=(Blk.new w _ _).alloc _;have hR:Blk ((w.alloc (Obj.cells m.cells 24)).alloc (Obj.cells At 24)) (w.heap.size+1) 24 At:=by
  have:=Blk.new (w.alloc (Obj.cells m.cells 24)) 24 At;simpa using this
 have hbW:ZN w ((w.alloc (Obj.cells m.cells 24)).alloc (Obj.cells At 24)):=((AC _ _).alloc (AB _) _).alloc (by simp) _;generalize ((w.alloc (Obj.cells m.cells 24)).alloc (Obj.cells At 24))=W at*;go_cut[9] (fun s9 wx=>UP W key s9 wx)
 case first=>
  have x0:W.cell? ⟨w.heap.size,0,none⟩=some (B m.b0):=hX.cell 0;have x1:W.cell? ⟨w.heap.size,1,none⟩=some (B m.b1):=hX.cell 1;have x2:W.cell? ⟨w.heap.size,2,none⟩=some (B m.b2):=hX.cell 2;have x3:W.cell? ⟨w.heap.size,3,none⟩=some (B m.b3):=hX.cell 3;have x4:W.cell? ⟨w.heap.size,4,none⟩=some (B m.b4):=hX.cell 4;have x5:W.cell? ⟨w.heap.size,5,none⟩=some (B m.b5):=hX.cell 5;have x6:W.cell? ⟨w.heap.size,6,none⟩=some (B m.b6):=hX.cell 6;have x7:W.cell? ⟨w.heap.size,7,none⟩=some (B m.b7):=hX.cell 7;have xq:=hX.lt;have e0:¬W.heap.size=w.heap.size:=Nat.ne_of_gt hX.lt;have e1:¬w.heap.size=W.heap.size:=Nat.ne_of_lt hX.lt
  go_region_held3 (fun w'=>w'.cell? ⟨w.heap.size,0,none⟩=some (B m.b0)/\w'.cell? ⟨w.heap.size,1,none⟩=some (B m.b1)/\w'.cell? ⟨w.heap.size,2,none⟩=some (B m.b2)/\w'.cell? ⟨w.heap.size,3,none⟩=some (B m.b3)/\w'.cell? ⟨w.heap.size,4,none⟩=some (B m.b4)/\w'.cell? ⟨w.heap.size,5,none⟩=some (B m.b5)/\w'.cell? ⟨w.heap.size,6,none⟩=some (B m.b6)/\w'.cell? ⟨w.heap.size,7,none⟩=some (B m.b7)) (go_keep)
   ((first
    |(go_at_call 247;refine(HN1.out _ (by first|exact hbW.drew|exact(hbW.alloc hbW.size _).drew)).mono ?_;rintro en w2 ⟨g2,rfl,hN2,hb2⟩;have hX2:Blk w2 (w.heap.size) 24 m.cells:=(by first|exact hX.drew.below hb2 hX.lt|exact((hX.alloc _).drew).below hb2 (hX.alloc _).lt);have ne2:¬w2.heap.size=w.heap.size:=Nat.ne_of_gt hX2.lt;have ne2':¬w.heap.size=w2.heap.size:=Nat.ne_of_lt hX2.lt;obtain⟨p0,p1,p2,p3,p4,p5,p6,p7⟩:=hX2.c8)
    |(go_at_call 246;refine(HR1.out _ _ (by first|exact hN2|exact hN2.alloc _)).mono ?_;rintro en w3 ⟨rfl,hb3⟩;have hX3:Blk w3 (w.heap.size) 24 m.cells:=(by first|exact hX2.below hb3 hX2.lt|exact(hX2.alloc _).below hb3 (hX2.alloc _).lt);have ne3:¬w3.heap.size=w.heap.size:=Nat.ne_of_gt hX3.lt;have ne3':¬w.heap.size=w3.heap.size:=Nat.ne_of_lt hX3.lt;obtain⟨q0,q1,q2,q3,q4,q5,q6,q7⟩:=hX3.c8;(try (obtain⟨z0,f0,z1,f1,z2,f2,z3,f3,z4,f4,z5,f5,z6,f6,z7,f7⟩:=Blk.z8 ((((Blk.new W 24 At).drew).below hb2 (Blk.new W 24 At).lt).below hb3 (((Blk.new W 24 At).drew).below hb2 (Blk.new W 24 At).lt).lt)));(try (obtain⟨z0,f0,z1,f1,z2,f2,z3,f3,z4,f4,z5,f5,z6,f6,z7,f7⟩:=Blk.z8 ((Blk.new w2 24 At).below hb3 (Blk.new w2 24 At).lt))))))
  all_goals (go_wp2_with fail)
  all_goals go_meet
  ·exact Yp hb2 hb3
  ·exact Yq hb2 hb3
  ·exact Yr hb2 hb3
 case rest=>
  obtain⟨g,rfl,hg,hK,hb1⟩:=hcut;replace hR:=hR.below hb1 hR.lt;replace hbW:=hbW.trans (hb1.mono hbW.size);clear hb1 hX;go_upto_region 2 with fail
  have hsz:W.heap.size<=wc.heap.size:=AG hg (Nat.le_of_lt hK.lt);go_cut[11] (fun s wx=>UP wc r s wx)
  case first=>
   have hw:IntKind.i64.wrap ((at_:Int)+144)=(at_:Int)+144:=BI _ (by omega);have x0:wc.cell? ⟨g,0,none⟩=some (B key.b0):=hK.cell 0;have x1:wc.cell? ⟨g,1,none⟩=some (B key.b1):=hK.cell 1;have x2:wc.cell? ⟨g,2,none⟩=some (B key.b2):=hK.cell 2;have x3:wc.cell? ⟨g,3,none⟩=some (B key.b3):=hK.cell 3;have x4:wc.cell? ⟨g,4,none⟩=some (B key.b4):=hK.cell 4;have x5:wc.cell? ⟨g,5,none⟩=some (B key.b5):=hK.cell 5;have x6:wc.cell? ⟨g,6,none⟩=some (B key.b6):=hK.cell 6;have x7:wc.cell? ⟨g,7,none⟩=some (B key.b7):=hK.cell 7;have xq:=hK.lt;have e0:¬wc.heap.size=g:=Nat.ne_of_gt hK.lt;have e1:¬g=wc.heap.size:=Nat.ne_of_lt hK.lt
   go_region_held3 (fun w'=>w'.cell? ⟨g,0,none⟩=some (B key.b0)/\w'.cell? ⟨g,1,none⟩=some (B key.b1)/\w'.cell? ⟨g,2,none⟩=some (B key.b2)/\w'.cell? ⟨g,3,none⟩=some (B key.b3)/\w'.cell? ⟨g,4,none⟩=some (B key.b4)/\w'.cell? ⟨g,5,none⟩=some (B key.b5)/\w'.cell? ⟨g,6,none⟩=some (B key.b6)/\w'.cell? ⟨g,7,none⟩=some (B key.b7)) (go_keep)
    ((first
     |(go_at_call 247;refine(HN2.out _ (by first|exact hbW.drew|exact(hbW.alloc hbW.size _).drew)).mono ?_;rintro en w2 ⟨g2,rfl,hN2,hb2⟩;have hX2:Blk w2 (g) 24 key.cells:=(by first|exact hK.drew.below hb2 hK.lt|exact((hK.alloc _).drew).below hb2 (hK.alloc _).lt);have ne2:¬w2.heap.size=g:=Nat.ne_of_gt hX2.lt;have ne2':¬g=w2.heap.size:=Nat.ne_of_lt hX2.lt;obtain⟨p0,p1,p2,p3,p4,p5,p6,p7⟩:=hX2.c8)
     |(go_at_call 248;refine(HF1.out _ _ (by first|exact hN2|exact hN2.alloc _)).mono ?_;rintro en w3 ⟨rfl,hb3⟩;have hX3:Blk w3 (g) 24 key.cells:=(by first|exact hX2.below hb3 hX2.lt|exact(hX2.alloc _).below hb3 (hX2.alloc _).lt);have ne3:¬w3.heap.size=g:=Nat.ne_of_gt hX3.lt;have ne3':¬g=w3.heap.size:=Nat.ne_of_lt hX3.lt;obtain⟨q0,q1,q2,q3,q4,q5,q6,q7⟩:=hX3.c8;(try (obtain⟨z0,f0,z1,f1,z2,f2,z3,f3,z4,f4,z5,f5,z6,f6,z7,f7⟩:=Blk.z8 ((((Blk.new wc 24 At).drew).below hb2 (Blk.new wc 24 At).lt).below hb3 (((Blk.new wc 24 At).drew).below hb2 (Blk.new wc 24 At).lt).lt)));(try (obtain⟨z0,f0,z1,f1,z2,f2,z3,f3,z4,f4,z5,f5,z6,f6,z7,f7⟩:=Blk.z8 ((Blk.new w2 24 At).below hb3 (Blk.new w2 24 At).lt))))))
   all_goals (go_wp2_with fail)
   all_goals go_meet
   ·exact Yp hb2 hb3
   ·exact Yq hb2 hb3
   ·exact Yr hb2 hb3
  case rest=>
   obtain⟨g',rfl,hg',hK',hb1⟩:=hcut;have hR2:=hR.below hb1 hR.lt;have xB:=hbW.trans (hb1.mono hbW.size);clear hb1 hR hbW hK;have hltg:=hK'.lt;go_wp2_with (first
    |(refine wpList_load_row rfl 24 _ rfl g' rfl 24 r.cells (0,0) _ hK' underlying24 rfl Ag ?_)
    |(refine AI rfl 24 (.tmp 8) (.tmp 31) rfl (w.heap.size+1) _ rfl rfl 24 _ hR2 rfl Ag ?s3 ?_))
   case s3=>exact⟨rfl,rfl,rfl,rfl,rfl,rfl,rfl,rfl⟩
   intro w4 hR4 hg4 hs4;go_wp2;have xE:ZN w w4:=xB.grown hg4 xB.size (by rintro j ⟨⟩;omega);exact bodyPost_ret (results_cell_row (g:=w.heap.size+1) rfl _ _ _ _ _ _ rfl hR4 underlying24 rfl Ag) rfl ⟨rfl,xE⟩
end
section
open Go.RowKit
theorem Ei(w:World):Calls prog 78 #[.int .i64 2] w fun e w'=>e= .returned (.int .i64 1024)/\w'=w:=by
 go_enter func78,ntmps78;go_wp2;go_ret;exact⟨rfl,rfl⟩
theorem OZ(p m:Nm)(l:List UInt8)(h:¬l.length=370):J5 p m l=false:=by unfold J5;simp[h]
theorem SN(p m:Nm)(l:List UInt8)(h:1024<=Cv l):J5 p m l=false:=by
 unfold J5;rw[decide_eq_false (show¬Cv l<1024 by omega)];simp
theorem UQ(p m:Nm)(l:List UInt8)(h:l.length=370)(h2:Cv l<1024):J5 p m l=decide (EF l 186 (Cv l/32) (EF l 2 (Cv l%32) m)=p):=by
 unfold J5;rw[decide_eq_true h,decide_eq_true h2];rfl
def Ac(w:World)(b:Bool)(e:Ending)(w':World):Prop:=e= .returned (.bool b)/\ZN w w'
theorem UR(p m:Nm)(A:Option Addr)(n c:Nat)(w:World)(h:n<2):Calls prog 159 #[p.val,.int .i64 2,m.val,.slice A n c] w (Ac w false):=by
 have HL:=AA (fun W=>WR A n c W h);go_enter func159,ntmps159;go_wp2_with ((go_at_call 202;refine(HL.out _).mono ?_;rintro en w' ⟨rfl,rfl⟩))
 go_ret;exact⟨rfl,((AC _ _).alloc (AB _) _).alloc (by simp) _⟩
theorem US(p m:Nm)(A:Option Addr)(c v:Nat)(l:List UInt8)(w:World)(h2:((l.length:Int) !=370)=true)(hl:∀W,ZN w W->Calls prog 202 #[.slice A l.length c] W fun e w'=>e= .returned (.tuple #[.int .i64 (v:Int),.bool true])/\w'=W):Calls prog 159 #[p.val,.int .i64 2,m.val,.slice A l.length c] w (Ac w false):=by
 have HL:=AA hl;clear hl;go_enter func159,ntmps159;go_wp2_with (first
  |(go_at_call 202;refine(HL.out _ (((AC _ _).alloc (AB _) _).alloc (by simp) _)).mono ?_;rintro en w' ⟨rfl,rfl⟩)
  |(go_at_call 199;refine(FT _).mono ?_;rintro en w' ⟨rfl,rfl⟩))
 go_ret;exact⟨rfl,((AC _ _).alloc (AB _) _).alloc (by simp) _⟩
theorem UT(p m:Nm)(A:Option Addr)(c v:Nat)(w:World)(h2:1024<=v)(hl:∀W,ZN w W->Calls prog 202 #[.slice A 370 c] W fun e w'=>e= .returned (.tuple #[.int .i64 (v:Int),.bool true])/\w'=W):Calls prog 159 #[p.val,.int .i64 2,m.val,.slice A 370 c] w (Ac w false):=by
 have HL:=AA hl;clear hl;have hd:decide ((1024:Int)<=(v:Int))=true:=by simp;omega
 go_enter func159,ntmps159;go_wp2_with (first
  |(go_at_call 202;refine(HL.out _ (((AC _ _).alloc (AB _) _).alloc (by simp) _)).mono ?_;rintro en w' ⟨rfl,rfl⟩)
  |(go_at_call 199;refine(FT _).mono ?_;rintro en w' ⟨rfl,rfl⟩)
  |(go_at_call 78;refine(Ei _).mono ?_;rintro en w' ⟨rfl,rfl⟩))
 go_ret;exact⟨rfl,((AC _ _).alloc (AB _) _).alloc (by simp) _⟩
theorem UU(p m x y:Nm)(A:Option Addr)(c v:Nat)(w:World)(h2:v<1024)(hl:∀W,ZN w W->Calls prog 202 #[.slice A 370 c] W fun e w'=>e= .returned (.tuple #[.int .i64 (v:Int),.bool true])/\w'=W)(hc1:∀W,ZN w W->Calls prog 203 #[.slice A 370 c,.int .i64 2,.int .i64 ((v:Int)%32),m.val] W (BM W x))(hc2:∀W,ZN w W->Calls prog 203 #[.slice A 370 c,.int .i64 186,.int .i64 ((v:Int)/32),x.val] W (BM W y)):Calls prog 159 #[p.val,.int .i64 2,m.val,.slice A 370 c] w (Ac w (decide (y=p))):=by
 have HL:=AA hl;clear hl;have HC1:=AA hc1;clear hc1;have HC2:=AA hc2;clear hc2;have hd:decide ((1024:Int)<=(v:Int))=false:=by simp;omega
 go_enter func159,ntmps159;go_wp2_with (first
  |(go_at_call 202;refine(HL.out _ (((AC _ _).alloc (AB _) _).alloc (by simp) _)).mono ?_;rintro en w' ⟨rfl,rfl⟩)
  |(go_at_call 199;refine(FT _).mono ?_;rintro en w' ⟨rfl,rfl⟩)
  |(go_at_call 78;refine(Ei _).mono ?_;rintro en w' ⟨rfl,rfl⟩)
  |(refine wpList_load_row rfl 24 (.tmp 6) rfl (w.heap.size+1) rfl 24 m.cells (0,0) _ (by have:=Blk.new (w.alloc (Obj.cells p.cells 24)) 24 m.cells;simpa using this) underlying24 rfl Ag ?_))
 have hP:Blk ((w.alloc (Obj.cells p.cells 24)).alloc (Obj.cells m.cells 24)) w.heap.size 24 p.cells:=(Blk.new w _ _).alloc _;have hbW:ZN w ((w.alloc (Obj.cells p.cells 24)).alloc (Obj.cells m.cells 24)):=((AC _ _).alloc (AB _) _).alloc (by simp) _;generalize ((w.alloc (Obj.cells p.cells 24)).alloc (Obj.cells m.cells 24))=W at*;refine(HC1.out _ hbW).mono ?_;rintro en w1 ⟨rfl,hb1⟩;replace hP:=hP.below hb1 hP.lt;replace hbW:=hbW.trans (hb1.mono hbW.size);clear hb1;have hltP:=hP.lt;have hle1:=hbW.size;go_wp2_with (refine AI rfl 24 (.tmp 11) (.tmp 36) rfl w1.heap.size _ rfl rfl 24 _ (Blk.new w1 _ _) rfl Ag ?s1 ?_)
 case s1=>exact⟨rfl,rfl,rfl,rfl,rfl,rfl,rfl,rfl⟩
 intro w2 hV2 hg2 hs2;have hb2:ZN w w2:=(hbW.alloc hbW.size _).grown hg2 (by have:=hbW.size;simp;omega) (by rintro j ⟨⟩;exact hbW.size);have hP2:=(hP.alloc _).kept hg2 (by simp;omega);clear hP hbW hg2 hs2;have hl1:=hb2.size;go_wp2_with (refine wpList_load_row rfl 24 (.tmp 11) rfl w1.heap.size rfl 24 x.cells (0,0) _ hV2 underlying24 rfl Ag ?_)
 refine(HC2.out _ hb2).mono ?_;rintro en w3 ⟨rfl,hb3⟩;have hV3:=hV2.below hb3 hV2.lt;have hP3:=hP2.below hb3 hP2.lt;have xJ:=hb2.trans (hb3.mono hb2.size);clear hV2 hP2 hb2 hb3;go_wp2_with (refine AI rfl 24 (.tmp 11) (.tmp 43) rfl w1.heap.size _ rfl rfl 24 _ hV3 rfl Ag ?s2 ?_)
 case s2=>exact⟨rfl,rfl,rfl,rfl,rfl,rfl,rfl,rfl⟩
 intro w4 hV4 hg4 hs4;have hP4:=hP3.kept hg4 (by simp;omega);have xE:ZN w w4:=xJ.grown hg4 xJ.size (by rintro j ⟨⟩;omega);clear hV3 hP3 xJ hg4 hs4;have e0:=fun w=>ED y p w 9998
 go_wp2_with (first
  |(refine wpList_load_row rfl 24 (.tmp 11) rfl w1.heap.size rfl 24 y.cells (0,0) _ hV4 underlying24 rfl Ag ?_)
  |(refine wpList_load_row rfl 24 (.tmp 4) rfl w.heap.size rfl 24 p.cells (0,0) _ hP4 underlying24 rfl Ag ?_))
 go_ret;exact⟨rfl,xE⟩
theorem UV(p m:Nm)(A:Option Addr)(c:Nat)(l:List UInt8)(w:World)(hr:Rd w w.heap.size A (l.map B))(hlen:l.length<=140737488351232)(hc:l.length<=c)(hm:c<=maxLen):Calls prog 159 #[p.val,.int .i64 2,m.val,.slice A l.length c] w (Ac w (J5 p m l)):=by
 by_cases h1:l.length<2
 ·rw[OZ p m l (by omega)];exact UR p m A l.length c w h1
 ·have hl:∀W,ZN w W->Calls prog 202 #[.slice A l.length c] W fun e w'=>e= .returned (.tuple #[.int .i64 (Cv l:Int),.bool true])/\w'=W:=fun W hW=>
   UN A c l W ((hr.below hW).more hW.size) hlen hc hm (by omega)
  by_cases h2:l.length=370
  ·have hcl:∀(at_ j:Nat) (x:Nm),at_+184<=370->j<32->∀W,ZN w W->Calls prog 203 #[.slice A l.length c,.int .i64 (at_:Int),.int .i64 (j:Int),x.val] W (BM W (EF l at_ j x)):=fun at_ j x ha hj W hW=>
    OY A c at_ j l x W ((hr.below hW).more hW.size) (by omega) hc hm (by omega) hj
   by_cases h3:Cv l<1024
   ·rw[UQ p m l h2 h3];rw[h2]at hl hcl ⊢;exact UU p m _ _ A c (Cv l) w h3 hl (hcl 2 (Cv l%32) m (by omega) (by omega)) (hcl 186 (Cv l/32) _ (by omega) (by omega))
   ·rw[SN p m l (by omega)];rw[h2]at hl ⊢;exact UT p m A c (Cv l) w (by omega) hl
  ·rw[OZ p m l h2];exact US p m A c (Cv l) l w (by rw[bne_iff_ne];omega) hl
def Jp(a b:Vt):Prop:=a.kind=b.kind/\a.parent=b.parent/\a.slot=b.slot/\a.round=b.round/\a.signer=b.signer
instance (a b:Vt):Decidable (Jp a b):=by unfold Jp;infer_instance
def CN(a b:Vt):Prop:=a≠b/\Jp a b/\Ab a/\Ab b
instance (a b:Vt):Decidable (CN a b):=by unfold CN;infer_instance
theorem CN.symm{a b:Vt}(h:CN a b):CN b a:=
 ⟨fun e=>h.1 e.symm,⟨h.2.1.1.symm,h.2.1.2.1.symm,h.2.1.2.2.1.symm,h.2.1.2.2.2.1.symm,h.2.1.2.2.2.2.symm⟩,h.2.2.2,h.2.2.1⟩
def Dm(a b:Nm):Bool:=decide (Cf a.bytes<Cf b.bytes)
def BU(a b:Vt):Bool:=
 if a.parent=b.parent then
  if a.slot=b.slot then
   if a.round=b.round then
    if a.kind=b.kind then
     if a.signer=b.signer then
      if a.choice=b.choice then
       if a.value=b.value then decide (a.support<b.support)else Dm a.value b.value
      else decide (a.choice<b.choice)
     else decide (a.signer<b.signer)
    else decide (a.kind<b.kind)
   else decide (a.round<b.round)
  else decide (a.slot<b.slot)
 else Dm a.parent b.parent
abbrev Bi:Vt:=⟨0,0,0,0,0,0,Nm.zero,Nm.zero⟩
def Oa(l:List UInt8):Vt:=⟨((l.getD 0 0).toNat:Int),((l.getD 1 0).toNat:Int),((l.getD 2 0).toNat:Int),((l.getD 3 0).toNat:Int),((l.getD 4 0).toNat:Int),
 (((l.getD 5 0).toNat*256+(l.getD 6 0).toNat:Nat):Int),Nm.ofList (l.drop 7),Nm.ofList (l.drop 15)⟩
theorem M6(l:List UInt8):(Oa l).ok:=by
 have h1:=(l.getD 5 0).toNat_lt;have h2:=(l.getD 6 0).toNat_lt;unfold Vt.ok Oa;simp only;omega
def Cp(l:List UInt8):Vt×Int:=
 if l.length<23 then(Bi,2)else if 23<l.length then(Bi,3)else if Ab (Oa l)then(Oa l,0)else(Bi,11)
def DU(v:Vt):Nm:=Dh (64::Ef v)
def Er(key:Nm)(v:Vt)(sig:List UInt8):Bool:=decide (Ab v)&&J5 key (DU v) sig
theorem Ob(v:Vt):(Ef v).length=23:=by simp[Ef,Nm.bytes]
theorem JN(v:Vt)(w:World)(hv:v.ok)(hy:Ab v):Calls prog 113 #[v.val] w (BM w (DU v)):=by
 have Hy:=AA hy;clear hy;obtain⟨r,hr⟩:=ZH (DU v);have Hr:=AA hr;clear hr;go_enter func113,ntmps113;go_wp2_with (refine wpList_load_row rfl 46 _ rfl w.heap.size rfl 46 v.cells (0,0) _ ((Blk.new w _ _).alloc _) underlying46 rfl Bk ?_)
 have hR:Blk ((w.alloc (Obj.cells v.cells 46)).alloc (Obj.cells At 24)) (w.heap.size+1) 24 At:=by
  have:=Blk.new (w.alloc (Obj.cells v.cells 46)) 24 At;simpa using this
 have hbW:ZN w ((w.alloc (Obj.cells v.cells 46)).alloc (Obj.cells At 24)):=((AC _ _).alloc (AB _) _).alloc (by simp) _;generalize ((w.alloc (Obj.cells v.cells 46)).alloc (Obj.cells At 24))=W at*;refine(Kh v _ hv Hy.out).mono ?_;rintro e w1 ⟨A1,c1,rfl,xA,hb1⟩;have hR1:=hR.below hb1 hR.lt;have xQ:=hbW.trans (hb1.mono hbW.size);have xO:Calls prog 50 #[.int .u8 64,.slice A1 23 c1] w1 (BM w1 r):=by
  have h:=CE 64 A1 c1 (Ef v) r w1 (Rd.of_own xA) (by rw[Ob];omega) (by rw[Hr.out];rfl);rw[Ob]at h;exact h
 have HC:=AA xO;clear xO hR hbW hb1 xA;go_wp2_with fail
 refine HC.out.mono ?_;rintro en w3 ⟨rfl,hb3⟩;have hR3:=hR1.below hb3 hR1.lt;have xJ:=xQ.trans (hb3.mono xQ.size);clear hR1 xQ hb3 HC;go_wp2_with (refine AI rfl 24 (.tmp 2) (.tmp 14) rfl (w.heap.size+1) _ rfl rfl 24 _ hR3 rfl Ag ?s2 ?_)
 case s2=>exact⟨rfl,rfl,rfl,rfl,rfl,rfl,rfl,rfl⟩
 intro w4 hR4 hg4 hs4;have xE:ZN w w4:=xJ.grown hg4 xJ.size (by rintro j ⟨⟩;omega);go_wp2;exact bodyPost_ret (results_cell_row (g:=w.heap.size+1) rfl _ _ _ _ _ _ rfl hR4 underlying24 rfl Ag) rfl ⟨by rw[<-Hr.out],xE⟩
def IF(w:World)(b:Nat):Nat->Nat->Option (List Value)
 |_,0=>some []
 |o,n+1=>match w.cell? ⟨b,o,none⟩,IF w b (o+1) n with
  |some u,some r=>some (u::r)
  |_,_=>none
def AJ(w:World)(b o n:Nat):Option (Array Value):=(IF w b o n).map List.toArray
theorem RD{w:World}{b:Nat}:∀(l:List Value) (o:Nat),w.rangeAt b o l->IF w b o l.length=some l
 |[],_,_=>rfl
 |u::r,o,h=>by
  have h0:w.cell? ⟨b,o,none⟩=some u:=by simpa using h 0 u rfl
  have h1:=RD r (o+1) (fun j v hv=>by
   have:=h (j+1) v (by simpa using hv);rwa[show o+(j+1)=o+1+j from by omega]at this)
  rw[Ah,IF,h0,h1]
theorem MN{w:World}{b:Nat}:∀(n o:Nat) (l:List Value),IF w b o n=some l->l.length=n/\w.rangeAt b o l
 |0,o,l,h=>by
  injection h with h;subst h
  exact⟨rfl,fun j v hv=>by simp at hv⟩
 |n+1,o,l,h=>by
  rw[IF]at h;split at h
  ·rename_i u r hu hr
   injection h with h;subst h
   obtain⟨h1,h2⟩:=MN n (o+1) r hr;refine⟨by simp[h1],fun j v hv=>?_⟩;cases j with
   |zero=>simp at hv;subst hv;simpa using hu
   |succ j=>
    have:=h2 j v (by simpa using hv);rwa[show o+1+j=o+(j+1)from by omega]at this
  ·cases h
theorem Bq{w:World}{b o n:Nat}{cs:Array Value}(h:w.rangeAt b o cs.toList)(hn:cs.size=n):AJ w b o n=some cs:=by
 subst hn;unfold AJ;rw[show cs.size=cs.toList.length from by simp,RD _ _ h];simp
theorem Ds{w:World}{b o n:Nat}{cs:Array Value}(h:AJ w b o n=some cs):cs.size=n/\w.rangeAt b o cs.toList:=by
 unfold AJ at h;cases hr:IF w b o n with
 |none=>rw[hr]at h;cases h
 |some l=>
  rw[hr]at h;injection h with h;subst h
  obtain⟨h1,h2⟩:=MN n o l hr;exact⟨by simpa using h1,by simpa using h2⟩
theorem AR(w:World)(b o n:Nat):AJ w.drew b o n=AJ w b o n:=by
 have:∀n o,IF w.drew b o n=IF w b o n:=by
  intro n
  induction n with
  |zero=>intro o;rfl
  |succ n ih=>intro o;rw[IF,IF,ih];rfl
 unfold AJ;rw[this]
theorem AN(w:World)(k b o n:Nat):AJ (w.drewN k) b o n=AJ w b o n:=by
 have:∀n o,IF (w.drewN k) b o n=IF w b o n:=by
  intro n
  induction n with
  |zero=>intro o;rfl
  |succ n ih=>intro o;rw[IF,IF,ih];rfl
 unfold AJ;rw[this]
theorem Blk.row{w:World}{g t:Nat}{cs:Array Value}(h:Blk w g t cs)(n:Nat)(hn:cs.size=n):AJ w g 0 n=some cs:=
 Bq (fun j u hu=>by rw[Nat.zero_add,h.cell];simpa using hu) hn
theorem Blk.part{w:World}{g t:Nat}{cs:Array Value}(h:Blk w g t cs)(o:Nat)(ds:Array Value)(hd:∀j u,ds[j]? =some u->cs[o+j]? =some u):AJ w g o ds.size=some ds:=
 Bq (fun j u hu=>by rw[h.cell];exact hd j u (by simpa using hu)) rfl
theorem BH{w w':World}{B' b o n:Nat}{cs:Array Value}(h:AJ w b o n=some cs)(hb:Below B' w w')(hg:b<B'):AJ w' b o n=some cs:=by
 obtain⟨h1,h2⟩:=Ds h;exact Bq (fun j u hu=>(hb.cell (p:=⟨b,o+j,none⟩) hg).trans (h2 j u hu)) h1
noncomputable def CQ(t:TypeId)(p:Value):Sem Value:=Instr.loadAt t p
noncomputable def WT(t:TypeId)(b o:Nat)(w:World):Result Value:=(Instr.loadAt t (.pointer (some ⟨b,o,none⟩))).run prog w
noncomputable def DC(t:TypeId)(b o:Nat)(w:World):Option (Array Value)->Result Value
 |some cs=>.ok (.agg cs) w
 |none=>WT t b o w
theorem AK(t:TypeId)(b o:Nat)(w:World)(cs:Array Value):DC t b o w (some cs)= .ok (.agg cs) w:=rfl
theorem CX(t n b o:Nat)(w:World)(d:TypeDesc)(hu:prog.underlying t=some d)(hd:d.isRow=true)(hi:(prog.info? t).map (·.size)=some n):(CQ t (.pointer (some ⟨b,o,none⟩))).run prog w=DC t b o w (AJ w b o n):=by
 cases hr:AJ w b o n with
 |none=>rfl
 |some cs=>
  obtain⟨h1,h2⟩:=Ds hr;have:=run_loadAt_mid (P:=prog) w b o t cs.toList d h2 hu hd (by simpa[h1]using hi);simpa[CQ,DC]using this
theorem Aj(p:Value):Instr.loadAt 24 p=CQ 24 p:=rfl
theorem Ao(p:Value):Instr.loadAt 46 p=CQ 46 p:=rfl
theorem Ap(p:Value):Instr.loadAt 62 p=CQ 62 p:=rfl
theorem Aq(p:Value):Instr.loadAt 125 p=CQ 125 p:=rfl
theorem Ax(b o:Nat)(w:World):(CQ 24 (.pointer (some ⟨b,o,none⟩))).run prog w=DC 24 b o w (AJ w b o 8):=CX _ 8 b o w _ underlying24 rfl Ag
theorem BB(b o:Nat)(w:World):(CQ 46 (.pointer (some ⟨b,o,none⟩))).run prog w=DC 46 b o w (AJ w b o 22):=CX _ 22 b o w _ underlying46 rfl Bk
theorem BC(b o:Nat)(w:World):(CQ 62 (.pointer (some ⟨b,o,none⟩))).run prog w=DC 62 b o w (AJ w b o 23):=CX _ 23 b o w _ underlying62 rfl (by kernel_rfl)
theorem BD(b o:Nat)(w:World):(CQ 125 (.pointer (some ⟨b,o,none⟩))).run prog w=DC 125 b o w (AJ w b o 46):=CX _ 46 b o w _ underlying125 rfl (by kernel_rfl)
theorem Sg.row_vote{w:World}{g t:Nat}(s:Sg)(h:Blk w g t s.cells):AJ w g 0 22=some s.vote.cells:=
 Blk.part h 0 s.vote.cells (fun j u hu=>by rw[Nat.zero_add];exact s.cell_vote j u hu)
theorem BN{P:Program}{op:Oper}{a:Act}{w:World}{K:Act->World->Prop}{Q:Exit->Act->World->Prop}(ty:TypeId)(x y:Operand)(ho:op.op= .store ty x y)(g:Nat)(cs:Array Value)(hx:a.eval x= .pointer (some ⟨g,0,none⟩))(hy:a.eval y= .agg cs)(t:TypeId)(old:Array Value)(hB:Blk w g t old)(hsz:old.size=cs.size)(hi:(P.info? ty).map (·.size)=some cs.size)(h1:∀u∈cs.toList,u.oneCell'=true)(hd:op.dst=none)(h:∀w',Blk w' g t cs->w.grownBy w' (some g)->w'.heap.size=w.heap.size->K a w'):op.wp P a w K Q:=by
 have hth:w.there g 0 cs.size:=fun j hj=>⟨by
  rw[Nat.zero_add,hB.cell];rw[Array.getElem?_eq_getElem (by omega)];rfl,hB.frozen _⟩
 refine wp_store_mid ty x y ho g 0 cs hx hy hth hi (Array.all_eq_true_iff_forall_mem.2 fun v hv=>h1 v (by simpa using hv)) ?_;obtain⟨⟨cur',h2,h3⟩,h4,h5⟩:=C1 g t cs.toList 0 w old hB;have e:cur'=cs:=by
  apply Array.ext (by omega);intro i hi1 hi2;have:=World.rangeAt_setCells_same w g 0 cs.toList (by simpa using hth) i cs[i] (by simp[hi2]);rw[Nat.zero_add,h2.cell,Array.getElem?_eq_getElem hi1]at this;exact Option.some.inj this
 subst e;rw[hd];exact h _ h2 h4 h5
theorem M7{P:Program}{ops:Array Oper}{Q:Exit->Act->World->Prop}{md:Region.Mode}{S:World->Prop}{i:Nat}{oi:Oper}{fuel:Nat}{listed:Array Bool}{a:Act}{w:World}(d:Option Tmp)(hi:ops[i]? =some oi)(hd:oi.dst=d)(hs:Region.noSelect ops=true)(hf:Region.free md ops listed i=true)(hr:(Region.ready md ops listed).contains i=true)(hQ:∀c a w,Q (.panic c) (a.put oi.dst undef) w->Q (.panic c) a w)(hw:Region.wanted oi (yielded ops a.tmps)=false)(hS:S w)(h:wpAnyH P md ops Q S fuel (listed.setIfInBounds i true) (a.put d undef) w):wpAnyH P md ops Q S (fuel+1) listed a w:=by
 subst hd;exact wpAnyH_take hi hs hf hr hQ (Or.inr ⟨hw,rfl⟩) hS h
theorem BA{P:Program}{ops:Array Oper}{Q:Exit->Act->World->Prop}{md:Region.Mode}{S:World->Prop}{i:Nat}{oi:Oper}{v:Value}{fuel:Nat}{listed:Array Bool}{a:Act}{w:World}(d:Option Tmp)(hi:ops[i]? =some oi)(hd:oi.dst=d)(hs:Region.noSelect ops=true)(hf:Region.free md ops listed i=true)(hr:(Region.ready md ops listed).contains i=true)(hQ:∀c a w,Q (.panic c) (a.put oi.dst v) w->Q (.panic c) a w)(hw:Region.wanted oi (yielded ops a.tmps)=true)(hy:∀w,S w->(execOp a.eval oi).run P w= .ok (.value v) w)(hS:S w)(h:wpAnyH P md ops Q S fuel (listed.setIfInBounds i true) (a.put d v) w):wpAnyH P md ops Q S (fuel+1) listed a w:=by
 subst hd;exact wpAnyH_take hi hs hf hr hQ (Or.inl ⟨hw,hy⟩) hS h
section
variable {P:Program}{ops:Array Oper}{Q:Exit->Act->World->Prop}{md:Region.Mode}{S:World->Prop}{oi o2:Oper}{v:Value}{fuel:Nat}{listed:Array Bool}{a:Act}{w:World}
theorem tkD(d i:Nat)(h:wpAnyH P md ops (NoPanic Q) S fuel (listed.setIfInBounds i true) (a.put (some d) v) w)(hi:ops[i]? =some oi:=by rfl)(hd:oi.dst=some d:=by rfl)(hs:Region.noSelect ops=true:=by kernel_rfl)(hf:Region.free md ops listed i=true:=by kernel_rfl)(hr:(Region.ready md ops listed).contains i=true:=by kernel_rfl)
  (hw:Region.wanted oi (yielded ops a.tmps)=true:=by rfl) (hy:∀w,S w->(execOp a.eval oi).run P w= .ok (.value v) w:=by(intros;go_simp;(try (with_reducible rfl)))) (hS:S w:=by assumption):wpAnyH P md ops (NoPanic Q) S (fuel+1) listed a w:=
 BA (some d) hi hd hs hf hr (fun _ _ _ h=>h.elim) hw hy hS h
theorem tkA{d i:Nat}(h:wpAnyH P md ops (NoPanic Q) S fuel (listed.setIfInBounds i true) (a.put (some d) v) w)(hn:listed.toList.findIdx? (fun b=>!b)=some i:=by rfl)(hi:ops[i]? =some oi:=by rfl)(hd:oi.dst=some d:=by rfl)(hs:Region.noSelect ops=true:=by kernel_rfl)(hf:Region.free md ops listed i=true:=by kernel_rfl)(hr:(Region.ready md ops listed).contains i=true:=by kernel_rfl)
  (hw:Region.wanted oi (yielded ops a.tmps)=true:=by rfl) (hy:∀w,S w->(execOp a.eval oi).run P w= .ok (.value v) w:=by(intros;go_simp;(try (with_reducible rfl)))) (hS:S w:=by assumption):wpAnyH P md ops (NoPanic Q) S (fuel+1) listed a w:=
 have _t:=hn
 BA (some d) hi hd hs hf hr (fun _ _ _ h=>h.elim) hw hy hS h
theorem tkV(d i:Nat)(v:Value)(hy:∀w,S w->(execOp a.eval oi).run P w= .ok (.value v) w)(h:wpAnyH P md ops (NoPanic Q) S fuel (listed.setIfInBounds i true) (a.put (some d) v) w)(hi:ops[i]? =some oi:=by rfl)(hd:oi.dst=some d:=by rfl)(hs:Region.noSelect ops=true:=by kernel_rfl)(hf:Region.free md ops listed i=true:=by kernel_rfl)(hr:(Region.ready md ops listed).contains i=true:=by kernel_rfl)
  (hw:Region.wanted oi (yielded ops a.tmps)=true:=by rfl) (hS:S w:=by assumption):wpAnyH P md ops (NoPanic Q) S (fuel+1) listed a w:=
 BA (some d) hi hd hs hf hr (fun _ _ _ h=>h.elim) hw hy hS h
theorem skD(d i:Nat)(h:wpAnyH P md ops (NoPanic Q) S fuel (listed.setIfInBounds i true) (a.put (some d) undef) w)(hi:ops[i]? =some oi:=by rfl)(hd:oi.dst=some d:=by rfl)(hs:Region.noSelect ops=true:=by kernel_rfl)(hf:Region.free md ops listed i=true:=by kernel_rfl)(hr:(Region.ready md ops listed).contains i=true:=by kernel_rfl)
  (hw:Region.wanted oi (yielded ops a.tmps)=false:=by rfl) (hS:S w:=by assumption):wpAnyH P md ops (NoPanic Q) S (fuel+1) listed a w:=
 M7 (some d) hi hd hs hf hr (fun _ _ _ h=>h.elim) hw hS h
theorem rgD{id:Nat}(S:World->Prop)(hS:S w.drew)(h:S w.drew->wpAnyH P .any ops (NoPanic Q) S ops.size (Array.replicate ops.size false) a w.drew)(hm:P.follows .mixedOrders=true:=by kernel_rfl):(Code.region id ops true).wp P Q a w:=
 wp_region_noPanic (wp_region_held_drew hm hS h)
theorem dnD(h:Q .normal a w)(hr:Region.ready md ops listed=[]:=by kernel_rfl):wpAnyH P md ops (NoPanic Q) S fuel listed a w:=wpAnyH_done hr (NoPanic.normal h) _
theorem rd1(i:Nat)(h:∀K':Act->World->Prop,Shut (∀a w,S w->(S w->wpAnyH P md ops (NoPanic Q) S fuel (listed.setIfInBounds i true) a w)->K' a w)->if Region.wanted oi (yielded ops a.tmps)=true then Oper.wp P oi a w K' (NoPanic Q)else K' (a.put oi.dst undef) w)(hr:Region.ready md ops listed=[i]:=by kernel_rfl)(ho:ops[i]? =some oi:=by rfl):wpAnyH P md ops (NoPanic Q) S (fuel+1) listed a w:=
 wpAnyH_ready hr (by simp) (AllReadyH.cons ho h AllReadyH.nil)
theorem rd2(i j:Nat)(h:∀K':Act->World->Prop,Shut (∀a w,S w->(S w->wpAnyH P md ops (NoPanic Q) S fuel (listed.setIfInBounds i true) a w)->K' a w)->if Region.wanted oi (yielded ops a.tmps)=true then Oper.wp P oi a w K' (NoPanic Q)else K' (a.put oi.dst undef) w)(h2:∀K':Act->World->Prop,Shut (∀a w,S w->(S w->wpAnyH P md ops (NoPanic Q) S fuel (listed.setIfInBounds j true) a w)->K' a w)->if Region.wanted o2 (yielded ops a.tmps)=true then Oper.wp P o2 a w K' (NoPanic Q)else K' (a.put o2.dst undef) w)(hr:Region.ready md ops listed=[i,j]:=by kernel_rfl)(ho:ops[i]? =some oi:=by rfl)(ho2:ops[j]? =some o2:=by rfl):wpAnyH P md ops (NoPanic Q) S (fuel+1) listed a w:=
 wpAnyH_ready hr (by simp) (AllReadyH.cons ho h (AllReadyH.cons ho2 h2 AllReadyH.nil))
end
end
section
open Go.RowKit
attribute [local go_sem ↓] Go.wp_at_zero Go.wp_at_succ Aj Ao Ap Aq
attribute [local go_sem] Ax BB BC BD AK AR AN
def GA(s:Sg):Prop:=s.sig.length<=s.cap/\s.cap<=maxLen
theorem UW(key nm:Nm)(s:Sg)(r:Bool)(w:World)(hv:s.vote.ok)(hy:Ab s.vote)(hnm:∀W,Calls prog 113 #[s.vote.val] W (BM W nm))(hCr:∀W,ZN w W->Calls prog 159 #[key.val,.int .i64 2,nm.val,.slice s.A s.sig.length s.cap] W (Ac W r)):Calls prog 110 #[key.val,s.val] w (Ac w r):=by
 have HV:=AA (fun W=>FR s.vote W hv hy);have HN:=AA hnm;clear hnm;have HM:=AA hCr;clear hCr;clear hv hy;go_enter func110,ntmps110;go_wp2;have hX:Blk ((w.alloc (Obj.cells key.cells 24)).alloc (Obj.cells s.cells 62)) w.heap.size 24 key.cells:=(Blk.new w _ _).alloc _;have hR:Blk ((w.alloc (Obj.cells key.cells 24)).alloc (Obj.cells s.cells 62)) (w.heap.size+1) 62 s.cells:=by
  have:=Blk.new (w.alloc (Obj.cells key.cells 24)) 62 s.cells;simpa using this
 have hbW:ZN w ((w.alloc (Obj.cells key.cells 24)).alloc (Obj.cells s.cells 62)):=((AC _ _).alloc (AB _) _).alloc (by simp) _;generalize ((w.alloc (Obj.cells key.cells 24)).alloc (Obj.cells s.cells 62))=W at*;have x0:=hX.row 8 rfl;have r0:=s.row_vote hR;have l0:W.cell? ⟨w.heap.size+1,22,none⟩=some (.slice s.A s.sig.length s.cap):=(hR.cell 22).trans s.cell_sig
 go_region_held3 (fun w'=>AJ w' (w.heap.size+1) 0 22=some s.vote.cells/\w'.cell? ⟨w.heap.size+1,22,none⟩=some (.slice s.A s.sig.length s.cap)/\AJ w' w.heap.size 0 8=some key.cells) (first|exact⟨r0,l0,x0⟩|exact⟨r2,l2,x2⟩|exact⟨r3,l3,x3⟩|exact⟨r4,l4,x4⟩)
  ((first
   |(go_at_call 49;refine(HV.out _).mono ?_;rintro en w2 ⟨rfl,hb2⟩;have hX2:=hX.drew.below hb2 hX.lt;have hR2:=hR.drew.below hb2 hR.lt;have x2:=hX2.row 8 rfl;have r2:=s.row_vote hR2;have l2:=(hR2.cell 22).trans s.cell_sig;have xB:=hbW.trans (((AC _ _).drew.trans hb2).mono hbW.size))
   |(go_at_call 113;refine(HN.out _).mono ?_;rintro en w3 ⟨rfl,hb3⟩;have hX3:=hX2.below hb3 hX2.lt;have hR3:=hR2.below hb3 hR2.lt;have x3:=hX3.row 8 rfl;have r3:=s.row_vote hR3;have l3:=(hR3.cell 22).trans s.cell_sig;have xJ:=xB.trans (hb3.mono xB.size))
   |(go_at_call 159;refine(HM.out _ xJ).mono ?_;rintro en w4 ⟨rfl,hb4⟩;have hX4:=hX3.below hb4 hX3.lt;have hR4:=hR3.below hb4 hR3.lt;have x4:=hX4.row 8 rfl;have r4:=s.row_vote hR4;have l4:=(hR4.cell 22).trans s.cell_sig;have xE:=xJ.trans (hb4.mono xJ.size))))
 go_wp2;go_ret;exact⟨rfl,xE⟩
theorem WU(key:Nm)(s:Sg)(w:World)(hv:s.vote.ok)(hy:¬Ab s.vote):Calls prog 110 #[key.val,s.val] w (Ac w false):=by
 have HV:=AA (fun W=>Id s.vote W hv hy);clear hv hy;go_enter func110,ntmps110;go_wp2;have hX:Blk ((w.alloc (Obj.cells key.cells 24)).alloc (Obj.cells s.cells 62)) w.heap.size 24 key.cells:=(Blk.new w _ _).alloc _;have hR:Blk ((w.alloc (Obj.cells key.cells 24)).alloc (Obj.cells s.cells 62)) (w.heap.size+1) 62 s.cells:=by
  have:=Blk.new (w.alloc (Obj.cells key.cells 24)) 62 s.cells;simpa using this
 have hbW:ZN w ((w.alloc (Obj.cells key.cells 24)).alloc (Obj.cells s.cells 62)):=((AC _ _).alloc (AB _) _).alloc (by simp) _;generalize ((w.alloc (Obj.cells key.cells 24)).alloc (Obj.cells s.cells 62))=W at*;refine rgD (fun w'=>AJ w' (w.heap.size+1) 0 22=some s.vote.cells) (s.row_vote hR.drew) fun _=>?_
 iterate 2 (refine tkA ?_;go_frame)
 refine rd1 2 fun K hK=>?_
 go_simp;refine(HV.out _).mono ?_;rintro en w2 ⟨rfl,hb2⟩;have hR2:=hR.drew.below hb2 hR.lt;have r2:=s.row_vote hR2;have xB:=hbW.trans (((AC _ _).drew.trans hb2).mono hbW.size);go_wp2_with fail
 refine hK.out _ _ (r2) (fun _=>?_);clear hK K;try go_frame
 refine tkD 8 3 ?_;go_frame;refine skD 9 4 ?_;go_frame;refine skD 10 5 ?_;go_frame;refine skD 11 6 ?_;go_frame;refine skD 12 7 ?_;go_frame;refine skD 13 8 ?_;go_frame;refine skD 14 9 ?_;go_frame;refine skD 15 10 ?_;go_frame
 iterate 2 (refine tkA ?_;go_frame)
 refine dnD ?_;go_wp2;go_ret;exact⟨rfl,xB⟩
theorem K7(key:Nm)(s:Sg)(w:World)(hs:D3 w w.heap.size s)(hc:GA s):Calls prog 110 #[key.val,s.val] w (Ac w (Er key s.vote s.sig)):=by
 by_cases hy:Ab s.vote
 ·have e:Er key s.vote s.sig=J5 key (DU s.vote) s.sig:=by unfold Er;rw[decide_eq_true hy];rfl
  rw[e];exact UW key (DU s.vote) s _ w hs.1 hy (fun W=>JN s.vote W hs.1 hy) (fun W hW=>UV key _ s.A s.cap s.sig W ((hs.2.1.below hW).more hW.size) hs.2.2 hc.1 hc.2)
 ·have e:Er key s.vote s.sig=false:=by unfold Er;rw[decide_eq_false hy];rfl
  rw[e];exact WU key s w hs.1 hy
end
section
open Go.RowKit
theorem UX(a b:Vt)(w:World):Calls prog 48 #[a.val,b.val] w (Ac w (decide (Jp a b))):=by
 obtain⟨k1,hk1⟩:=ZH (decide (a.kind=b.kind));obtain⟨k2,hk2⟩:=ZH (decide (a.parent=b.parent));obtain⟨k3,hk3⟩:=ZH (decide (a.slot=b.slot));obtain⟨k4,hk4⟩:=ZH (decide (a.round=b.round));obtain⟨k5,hk5⟩:=ZH (decide (a.signer=b.signer));have hr:decide (Jp a b)=(k1&&(k2&&(k3&&(k4&&k5)))):=by
  rw[hk1,hk2,hk3,hk4,hk5,Bool.eq_iff_iff];simp only[decide_eq_true_eq,Bool.and_eq_true];exact Iff.rfl
 have e1:(a.kind==b.kind)=k1:=by rw[hk1];rfl
 have e2:∀W,(Op.equalIn 10000 24 a.parent.val b.parent.val).run prog W= .ok k2 W:=fun W=>by rw[hk2];exact ED a.parent b.parent W 9998
 have e3:(a.slot==b.slot)=k3:=by rw[hk3];rfl
 have e4:(a.round==b.round)=k4:=by rw[hk4];rfl
 have e5:(a.signer==b.signer)=k5:=by rw[hk5];rfl
 have Hr:=AA hr;clear hk1 hk2 hk3 hk4 hk5 hr;cases k1
 ·go_enter func48,ntmps48;go_wp2;go_ret;exact⟨by rw[Hr.out];rfl,((AC _ _).alloc (AB _) _).alloc (by simp) _⟩
 ·skip
  cases k2
  ·go_enter func48,ntmps48;go_wp2;go_ret;exact⟨by rw[Hr.out];rfl,((AC _ _).alloc (AB _) _).alloc (by simp) _⟩
  ·skip
   cases k3
   ·go_enter func48,ntmps48;go_wp2;go_ret;exact⟨by rw[Hr.out];rfl,((AC _ _).alloc (AB _) _).alloc (by simp) _⟩
   ·skip
    cases k4
    ·go_enter func48,ntmps48;go_wp2;go_ret;exact⟨by rw[Hr.out];rfl,((AC _ _).alloc (AB _) _).alloc (by simp) _⟩
    ·skip
     cases k5
     ·go_enter func48,ntmps48;go_wp2;go_ret;exact⟨by rw[Hr.out];rfl,((AC _ _).alloc (AB _) _).alloc (by simp) _⟩
     ·go_enter func48,ntmps48;go_wp2;go_ret;exact⟨by rw[Hr.out];rfl,((AC _ _).alloc (AB _) _).alloc (by simp) _⟩
attribute [local go_sem ↓] Go.wp_at_zero Go.wp_at_succ Aj Ao Ap Aq
attribute [local go_sem] Ax BB BC BD AK AR AN
theorem UY(a b:Nm)(w:World)(hne:¬a=b):Calls prog 158 #[a.val,b.val] w (Ac w (Dm a b)):=by
 have e0:∀W,(Op.equalIn 10000 24 a.val b.val).run prog W= .ok false W:=fun W=>by
  have:=ED a b W 9998;rwa[decide_eq_false hne]at this
 have hA:Blk ((w.alloc (Obj.cells a.cells 24)).alloc (Obj.cells b.cells 24)) w.heap.size 24 a.cells:=(Blk.new w _ _).alloc _;have hB:Blk ((w.alloc (Obj.cells a.cells 24)).alloc (Obj.cells b.cells 24)) (w.heap.size+1) 24 b.cells:=by
  have:=Blk.new (w.alloc (Obj.cells a.cells 24)) 24 b.cells;simpa using this
 have hbW:ZN w ((w.alloc (Obj.cells a.cells 24)).alloc (Obj.cells b.cells 24)):=((AC _ _).alloc (AB _) _).alloc (by simp) _;have x0:=hA.row 8 rfl;have y0:=hB.row 8 rfl;go_enter func158,ntmps158;go_wp2;generalize ((w.alloc (Obj.cells a.cells 24)).alloc (Obj.cells b.cells 24))=W at*;obtain⟨na,hna⟩:=ZH (Cf a.bytes);obtain⟨nb,hnb⟩:=ZH (Cf b.bytes);have HA:Hid (∀W,Calls prog 182 #[a.val] W (Gb W na)):=fun W=>by rw[hna];exact Hi a W
 have HB:Hid (∀W,Calls prog 182 #[b.val] W (Gb W nb)):=fun W=>by rw[hnb];exact Hi b W
 have hr:Dm a b=decide (na<nb):=by rw[hna,hnb];rfl
 have Hr:=AA hr;clear hr hna hnb
 go_region_held3 (fun w'=>AJ w' w.heap.size 0 8=some a.cells/\AJ w' (w.heap.size+1) 0 8=some b.cells) (first|exact⟨x2,y2⟩|exact⟨x0,y0⟩)
  ((first
   |(go_at_call 182;(first|(with_reducible refine(HA.out _).mono ?_)|(with_reducible refine(HB.out _).mono ?_));rintro en w2 ⟨rfl,hb2⟩;have hA2:Blk w2 w.heap.size 24 a.cells:=(by first|exact hA2.below hb2 hA2.lt|exact hA.drew.below hb2 hA.lt);have hB2:Blk w2 (w.heap.size+1) 24 b.cells:=(by first|exact hB2.below hb2 hB2.lt|exact hB.drew.below hb2 hB.lt);have xB:ZN w w2:=(by first|exact xB.trans (hb2.mono xB.size)|exact hbW.trans (((AC _ _).drew.trans hb2).mono hbW.size));have x2:=hA2.row 8 rfl;have y2:=hB2.row 8 rfl)))
 all_goals
  go_wp2;go_ret;exact⟨by rw[Hr.out];exact Eb (by simp),xB⟩
theorem Fb(a b:Nm)(w:World):Calls prog 158 #[a.val,b.val] w (Ac w (Dm a b)):=by
 by_cases hne:a=b
 ·subst hne;have e0:∀W,(Op.equalIn 10000 24 a.val a.val).run prog W= .ok true W:=fun W=>by
   have:=ED a a W 9998;rwa[decide_eq_true rfl]at this
  have hr:Dm a a=false:=by simp[Dm]
  have Hr:=AA hr;clear hr;have hA:Blk ((w.alloc (Obj.cells a.cells 24)).alloc (Obj.cells a.cells 24)) w.heap.size 24 a.cells:=(Blk.new w _ _).alloc _;have hB:Blk ((w.alloc (Obj.cells a.cells 24)).alloc (Obj.cells a.cells 24)) (w.heap.size+1) 24 a.cells:=by
   have:=Blk.new (w.alloc (Obj.cells a.cells 24)) 24 a.cells;simpa using this
  have x0:=hA.row 8 rfl;have y0:=hB.row 8 rfl;clear hA hB;go_enter func158,ntmps158;go_wp2;go_ret;exact⟨by rw[Hr.out];rfl,((AC _ _).alloc (AB _) _).alloc (by simp) _⟩
 ·exact UY a b w hne
end
section
open Go.RowKit
attribute [local go_sem ↓] Go.wp_at_zero Go.wp_at_succ Aj Ao Ap Aq
attribute [local go_sem] Ax BB BC BD AK AR AN
theorem UZ(a b:Vt)(w:World)(ha:a.ok)(hb:b.ok):Calls prog 26 #[a.val,b.val] w (Ac w (decide (CN a b))):=by
 obtain⟨k1,hk1⟩:=ZH (decide (a=b));obtain⟨k2,hk2⟩:=ZH (decide (Jp a b));obtain⟨k3,hk3⟩:=ZH (decide (Ab a));obtain⟨k4,hk4⟩:=ZH (decide (Ab b));have hr:decide (CN a b)=(!k1&&(k2&&(k3&&k4))):=by
  rw[hk1,hk2,hk3,hk4,Bool.eq_iff_iff];simp only[decide_eq_true_eq,Bool.and_eq_true,Bool.not_eq_true',decide_eq_false_iff_not];exact Iff.rfl
 have e1:∀W,(Op.equalIn 10000 46 (.agg a.cells) (.agg b.cells)).run prog W= .ok k1 W:=fun W=>by rw[hk1];exact U1 a b W
 have HS:Hid (∀W,Calls prog 48 #[a.val,b.val] W (Ac W k2)):=fun W=>by rw[hk2];exact UX a b W
 have HA:Hid (∀W,Calls prog 49 #[a.val] W (Ac W k3)):=fun W=>by rw[hk3];exact DA a W ha
 have HB:Hid (∀W,Calls prog 49 #[b.val] W (Ac W k4)):=fun W=>by rw[hk4];exact DA b W hb
 have Hr:=AA hr;clear hk1 hk2 hk3 hk4 hr ha hb;have hA:Blk ((w.alloc (Obj.cells a.cells 46)).alloc (Obj.cells b.cells 46)) w.heap.size 46 a.cells:=(Blk.new w _ _).alloc _;have hB:Blk ((w.alloc (Obj.cells a.cells 46)).alloc (Obj.cells b.cells 46)) (w.heap.size+1) 46 b.cells:=by
  have:=Blk.new (w.alloc (Obj.cells a.cells 46)) 46 b.cells;simpa using this
 have hbW:ZN w ((w.alloc (Obj.cells a.cells 46)).alloc (Obj.cells b.cells 46)):=((AC _ _).alloc (AB _) _).alloc (by simp) _;have x0:=hA.row 22 rfl;have y0:=hB.row 22 rfl;by_cases g0:k1=true
 ·subst g0;go_enter func26,ntmps26;go_wp2_with ((first|(go_at_call 48;refine(HS.out _).mono ?_)|(go_at_call 49;(first|(with_reducible refine(HA.out _).mono ?_)|(with_reducible refine(HB.out _).mono ?_))));rintro en w2 ⟨rfl,hb2⟩;have hA2:Blk w2 w.heap.size 46 a.cells:=(by first|exact hA2.below hb2 hA2.lt|exact hA.below hb2 hA.lt);have hB2:Blk w2 (w.heap.size+1) 46 b.cells:=(by first|exact hB2.below hb2 hB2.lt|exact hB.below hb2 hB.lt);have xB:ZN w w2:=(by first|exact xB.trans (hb2.mono xB.size)|exact hbW.trans (hb2.mono hbW.size));have x2:=hA2.row 22 rfl;have y2:=hB2.row 22 rfl)
  go_ret;exact⟨by rw[Hr.out];simp,by first|exact xB|exact hbW⟩
 ·obtain rfl:k1=false:=by simpa using g0
  clear g0;by_cases g1:k2=false
  ·subst g1;go_enter func26,ntmps26;go_wp2_with ((first|(go_at_call 48;refine(HS.out _).mono ?_)|(go_at_call 49;(first|(with_reducible refine(HA.out _).mono ?_)|(with_reducible refine(HB.out _).mono ?_))));rintro en w2 ⟨rfl,hb2⟩;have hA2:Blk w2 w.heap.size 46 a.cells:=(by first|exact hA2.below hb2 hA2.lt|exact hA.below hb2 hA.lt);have hB2:Blk w2 (w.heap.size+1) 46 b.cells:=(by first|exact hB2.below hb2 hB2.lt|exact hB.below hb2 hB.lt);have xB:ZN w w2:=(by first|exact xB.trans (hb2.mono xB.size)|exact hbW.trans (hb2.mono hbW.size));have x2:=hA2.row 22 rfl;have y2:=hB2.row 22 rfl)
   go_ret;exact⟨by rw[Hr.out];simp,by first|exact xB|exact hbW⟩
  ·obtain rfl:k2=true:=by simpa using g1
   clear g1;by_cases g2:k3=false
   ·subst g2;go_enter func26,ntmps26;go_wp2_with ((first|(go_at_call 48;refine(HS.out _).mono ?_)|(go_at_call 49;(first|(with_reducible refine(HA.out _).mono ?_)|(with_reducible refine(HB.out _).mono ?_))));rintro en w2 ⟨rfl,hb2⟩;have hA2:Blk w2 w.heap.size 46 a.cells:=(by first|exact hA2.below hb2 hA2.lt|exact hA.below hb2 hA.lt);have hB2:Blk w2 (w.heap.size+1) 46 b.cells:=(by first|exact hB2.below hb2 hB2.lt|exact hB.below hb2 hB.lt);have xB:ZN w w2:=(by first|exact xB.trans (hb2.mono xB.size)|exact hbW.trans (hb2.mono hbW.size));have x2:=hA2.row 22 rfl;have y2:=hB2.row 22 rfl)
    go_ret;exact⟨by rw[Hr.out];simp,by first|exact xB|exact hbW⟩
   ·obtain rfl:k3=true:=by simpa using g2
    clear g2;by_cases g3:k4=false
    ·subst g3;go_enter func26,ntmps26;go_wp2_with ((first|(go_at_call 48;refine(HS.out _).mono ?_)|(go_at_call 49;(first|(with_reducible refine(HA.out _).mono ?_)|(with_reducible refine(HB.out _).mono ?_))));rintro en w2 ⟨rfl,hb2⟩;have hA2:Blk w2 w.heap.size 46 a.cells:=(by first|exact hA2.below hb2 hA2.lt|exact hA.below hb2 hA.lt);have hB2:Blk w2 (w.heap.size+1) 46 b.cells:=(by first|exact hB2.below hb2 hB2.lt|exact hB.below hb2 hB.lt);have xB:ZN w w2:=(by first|exact xB.trans (hb2.mono xB.size)|exact hbW.trans (hb2.mono hbW.size));have x2:=hA2.row 22 rfl;have y2:=hB2.row 22 rfl)
     go_ret;exact⟨by rw[Hr.out];simp,by first|exact xB|exact hbW⟩
    ·obtain rfl:k4=true:=by simpa using g3
     clear g3;go_enter func26,ntmps26;go_wp2_with ((first|(go_at_call 48;refine(HS.out _).mono ?_)|(go_at_call 49;(first|(with_reducible refine(HA.out _).mono ?_)|(with_reducible refine(HB.out _).mono ?_))));rintro en w2 ⟨rfl,hb2⟩;have hA2:Blk w2 w.heap.size 46 a.cells:=(by first|exact hA2.below hb2 hA2.lt|exact hA.below hb2 hA.lt);have hB2:Blk w2 (w.heap.size+1) 46 b.cells:=(by first|exact hB2.below hb2 hB2.lt|exact hB.below hb2 hB.lt);have xB:ZN w w2:=(by first|exact xB.trans (hb2.mono xB.size)|exact hbW.trans (hb2.mono hbW.size));have x2:=hA2.row 22 rfl;have y2:=hB2.row 22 rfl)
     go_ret;exact⟨by rw[Hr.out];simp,by first|exact xB|exact hbW⟩
def EG(v:Vt):List Int:=[v.slot,v.round,v.kind,v.signer,v.choice]
theorem MO(v:Vt)(k:Nat)(h:k<5):(#[I v.slot,I v.round,I v.kind,I v.signer,I v.choice]:Array Value)[k]? =some (I ((EG v).getD k 0)):=by
 rcases(by omega:k=0∨k=1∨k=2∨k=3∨k=4)with rfl|rfl|rfl|rfl|rfl <;> rfl
theorem Ua(a b:Vt)(k:Nat)(hk:k<5)(hp:a.parent=b.parent)(h:∀j,j<k->(EG a).getD j 0=(EG b).getD j 0)(hne:¬(EG a).getD k 0=(EG b).getD k 0):BU a b=decide ((EG a).getD k 0<(EG b).getD k 0):=by
 have h0:0<k->a.slot=b.slot:=fun hh=>h 0 hh
 have h1:1<k->a.round=b.round:=fun hh=>h 1 hh
 have h2:2<k->a.kind=b.kind:=fun hh=>h 2 hh
 have h3:3<k->a.signer=b.signer:=fun hh=>h 3 hh
 clear h;unfold BU;rw[if_pos hp];rcases(by omega:k=0∨k=1∨k=2∨k=3∨k=4)with rfl|rfl|rfl|rfl|rfl
 ·have hAo:¬a.slot=b.slot:=hne;rw[if_neg hAo];rfl
 ·have hAo:¬a.round=b.round:=hne;rw[if_pos (h0 (by omega)),if_neg hAo];rfl
 ·have hAo:¬a.kind=b.kind:=hne;rw[if_pos (h0 (by omega)),if_pos (h1 (by omega)),if_neg hAo];rfl
 ·have hAo:¬a.signer=b.signer:=hne;rw[if_pos (h0 (by omega)),if_pos (h1 (by omega)),if_pos (h2 (by omega)),if_neg hAo];rfl
 ·have hAo:¬a.choice=b.choice:=hne;rw[if_pos (h0 (by omega)),if_pos (h1 (by omega)),if_pos (h2 (by omega)),if_pos (h3 (by omega)),if_neg hAo];rfl
theorem SO(a b:Vt)(hp:a.parent=b.parent)(h:∀j,j<5->(EG a).getD j 0=(EG b).getD j 0):BU a b=if a.value=b.value then decide (a.support<b.support)else Dm a.value b.value:=by
 have h0:a.slot=b.slot:=h 0 (by omega);have h1:a.round=b.round:=h 1 (by omega);have h2:a.kind=b.kind:=h 2 (by omega);have h3:a.signer=b.signer:=h 3 (by omega);have h4:a.choice=b.choice:=h 4 (by omega);unfold BU;rw[if_pos hp,if_pos h0,if_pos h1,if_pos h2,if_pos h3,if_pos h4]
theorem Vt.row_parent{w:World}{g t:Nat}(v:Vt)(h:Blk w g t v.cells):AJ w g 6 8=some v.parent.cells:=
 Blk.part h 6 v.parent.cells (fun j u hu=>by
  have hj:j<8:=(Aa.1 hu).1;rcases(by omega:j=0∨j=1∨j=2∨j=3∨j=4∨j=5∨j=6∨j=7)with rfl|rfl|rfl|rfl|rfl|rfl|rfl|rfl <;> exact hu)
theorem Vt.row_value{w:World}{g t:Nat}(v:Vt)(h:Blk w g t v.cells):AJ w g 14 8=some v.value.cells:=
 Blk.part h 14 v.value.cells (fun j u hu=>by
  have hj:j<8:=(Aa.1 hu).1;rcases(by omega:j=0∨j=1∨j=2∨j=3∨j=4∨j=5∨j=6∨j=7)with rfl|rfl|rfl|rfl|rfl|rfl|rfl|rfl <;> exact hu)
theorem Ub(a b:Vt)(w:World)(hp:¬a.parent=b.parent):Calls prog 109 #[a.val,b.val] w (Ac w (BU a b)):=by
 have e1:∀W,(Op.equalIn 10000 24 a.parent.val b.parent.val).run prog W= .ok false W:=fun W=>by
  have:=ED a.parent b.parent W 9998;rwa[decide_eq_false hp]at this
 have hr:BU a b=Dm a.parent b.parent:=by unfold BU;rw[if_neg hp]
 have Hr:=AA hr;clear hr hp;have hA:Blk ((w.alloc (Obj.cells a.cells 46)).alloc (Obj.cells b.cells 46)) w.heap.size 46 a.cells:=(Blk.new w _ _).alloc _;have hB:Blk ((w.alloc (Obj.cells a.cells 46)).alloc (Obj.cells b.cells 46)) (w.heap.size+1) 46 b.cells:=by
  have:=Blk.new (w.alloc (Obj.cells a.cells 46)) 46 b.cells;simpa using this
 have hbW:ZN w ((w.alloc (Obj.cells a.cells 46)).alloc (Obj.cells b.cells 46)):=((AC _ _).alloc (AB _) _).alloc (by simp) _;have x0:=a.row_parent hA;have y0:=b.row_parent hB;go_enter func109,ntmps109;go_wp2_with fail
 refine(Fb a.parent b.parent _).mono ?_;rintro en w2 ⟨rfl,hb2⟩;go_wp2;go_ret;exact⟨by rw[Hr.out];rfl,hbW.trans (hb2.mono hbW.size)⟩
theorem Uc(a b:Vt)(w:World)(hp:a.parent=b.parent):Calls prog 109 #[a.val,b.val] w (Ac w (BU a b)):=by
 have e1:∀W,(Op.equalIn 10000 24 a.parent.val b.parent.val).run prog W= .ok true W:=fun W=>by
  have:=ED a.parent b.parent W 9998;rwa[decide_eq_true hp]at this
 have Hp:=AA hp;clear hp;have hA:Blk ((w.alloc (Obj.cells a.cells 46)).alloc (Obj.cells b.cells 46)) w.heap.size 46 a.cells:=(Blk.new w _ _).alloc _;have hB:Blk ((w.alloc (Obj.cells a.cells 46)).alloc (Obj.cells b.cells 46)) (w.heap.size+1) 46 b.cells:=by
  have:=Blk.new (w.alloc (Obj.cells a.cells 46)) 46 b.cells;simpa using this
 have hbW:ZN w ((w.alloc (Obj.cells a.cells 46)).alloc (Obj.cells b.cells 46)):=((AC _ _).alloc (AB _) _).alloc (by simp) _;have x0:=a.row_parent hA;have y0:=b.row_parent hB;clear hA hB hbW;go_enter func109,ntmps109;go_wp2_with fail
 clear x0 y0 e1;have hA:Blk ((((w.alloc (Obj.cells a.cells 46)).alloc (Obj.cells b.cells 46)).alloc (Obj.cells #[I a.slot,I a.round,I a.kind,I a.signer,I a.choice] 206)).alloc (Obj.cells #[I b.slot,I b.round,I b.kind,I b.signer,I b.choice] 206)) w.heap.size 46 a.cells:=(((Blk.new w _ _).alloc _).alloc _).alloc _;have hB:Blk ((((w.alloc (Obj.cells a.cells 46)).alloc (Obj.cells b.cells 46)).alloc (Obj.cells #[I a.slot,I a.round,I a.kind,I a.signer,I a.choice] 206)).alloc (Obj.cells #[I b.slot,I b.round,I b.kind,I b.signer,I b.choice] 206)) (w.heap.size+1) 46 b.cells:=by
  have:=((Blk.new (w.alloc (Obj.cells a.cells 46)) 46 b.cells).alloc (Obj.cells #[I a.slot,I a.round,I a.kind,I a.signer,I a.choice] 206)).alloc (Obj.cells #[I b.slot,I b.round,I b.kind,I b.signer,I b.choice] 206);simpa using this
 have hX:Blk ((((w.alloc (Obj.cells a.cells 46)).alloc (Obj.cells b.cells 46)).alloc (Obj.cells #[I a.slot,I a.round,I a.kind,I a.signer,I a.choice] 206)).alloc (Obj.cells #[I b.slot,I b.round,I b.kind,I b.signer,I b.choice] 206)) (w.heap.size+1+1) 206 #[I a.slot,I a.round,I a.kind,I a.signer,I a.choice]:=by
  have:=(Blk.new ((w.alloc (Obj.cells a.cells 46)).alloc (Obj.cells b.cells 46)) 206 #[I a.slot,I a.round,I a.kind,I a.signer,I a.choice]).alloc (Obj.cells #[I b.slot,I b.round,I b.kind,I b.signer,I b.choice] 206);simpa using this
 have hY:Blk ((((w.alloc (Obj.cells a.cells 46)).alloc (Obj.cells b.cells 46)).alloc (Obj.cells #[I a.slot,I a.round,I a.kind,I a.signer,I a.choice] 206)).alloc (Obj.cells #[I b.slot,I b.round,I b.kind,I b.signer,I b.choice] 206)) (w.heap.size+1+1+1) 206 #[I b.slot,I b.round,I b.kind,I b.signer,I b.choice]:=by
  have:=Blk.new (((w.alloc (Obj.cells a.cells 46)).alloc (Obj.cells b.cells 46)).alloc (Obj.cells #[I a.slot,I a.round,I a.kind,I a.signer,I a.choice] 206)) 206 #[I b.slot,I b.round,I b.kind,I b.signer,I b.choice];simpa using this
 have hbW:ZN w ((((w.alloc (Obj.cells a.cells 46)).alloc (Obj.cells b.cells 46)).alloc (Obj.cells #[I a.slot,I a.round,I a.kind,I a.signer,I a.choice] 206)).alloc (Obj.cells #[I b.slot,I b.round,I b.kind,I b.signer,I b.choice] 206)):=((((AC _ _).alloc (AB _) _).alloc (by simp) _).alloc (by simp;omega) _).alloc (by simp;omega) _;generalize ((((w.alloc (Obj.cells a.cells 46)).alloc (Obj.cells b.cells 46)).alloc (Obj.cells #[I a.slot,I a.round,I a.kind,I a.signer,I a.choice] 206)).alloc (Obj.cells #[I b.slot,I b.round,I b.kind,I b.signer,I b.choice] 206))=W at*
 go_loopw [40] (fun i wr=>∃k n:Nat,k<=5/\i= .int .i64 k/\wr=W.drewN n/\∀j,j<k->(EG a).getD j 0=(EG b).getD j 0) (fun i _=>5-(intOf i).toNat)
 case atStart=>exact⟨0,0,by omega,rfl,rfl,fun j hj=>by omega⟩
 case round=>
  obtain⟨k,n,hk,rfl,rfl,heq⟩:=hrel;have Heq:=AA heq;clear heq;by_cases hlt:k<5
  ·have c1:W.cell? ⟨w.heap.size+1+1,k,none⟩=some (I ((EG a).getD k 0)):=(hX.cell k).trans (MO a k hlt);have c2:W.cell? ⟨w.heap.size+1+1+1,k,none⟩=some (I ((EG b).getD k 0)):=(hY.cell k).trans (MO b k hlt);have i1:(0:Int)<=(k:Int):=by omega
   have i2:(k:Int)<5:=by omega
   by_cases hne:(EG a).getD k 0=(EG b).getD k 0
   ·have E:Hid (∀j,j<k+1->(EG a).getD j 0=(EG b).getD j 0):=fun j hj=>by
     rcases Nat.lt_or_ge j k with h|h
     ·exact Heq.out j h
     ·obtain rfl:j=k:=by omega
      exact hne
    have hb:(((EG a).getD k 0) !=((EG b).getD k 0))=false:=by rw[hne];exact bne_self_eq_false _
    clear hne;generalize (EG a).getD k 0=x at*;generalize (EG b).getD k 0=y at*;go_wp2
    go_quiet (fail)
    go_wp2;go_roundw
    case rel=>exact⟨k+1,_,by omega,by go_num,rfl,E.out⟩
    case measure=>simp[intOf];omega
   ·have hr:=Ua a b k hlt Hp.out Heq.out hne;have Hr:=AA hr;have hb:(((EG a).getD k 0) !=((EG b).getD k 0))=true:=by simpa using hne
    clear hne hr;generalize (EG a).getD k 0=x at*;generalize (EG b).getD k 0=y at*;go_wp2
    go_quiet (fail)
    go_wp2
    go_quiet (fail)
    go_wp2;go_ret;exact⟨by rw[Hr.out];rfl,BL (BL (BL hbW _) _) _⟩
  ·obtain rfl:k=5:=by omega
   have hr:=SO a b Hp.out Heq.out;have x0:=a.row_value hA;have y0:=b.row_value hB;have s1:W.cell? ⟨w.heap.size,5,none⟩=some (I a.support):=hA.cell 5;have s2:W.cell? ⟨w.heap.size+1,5,none⟩=some (I b.support):=hB.cell 5;by_cases hv:a.value=b.value
   ·have e2:∀W,(Op.equalIn 10000 24 a.value.val b.value.val).run prog W= .ok true W:=fun W=>by
     have:=ED a.value b.value W 9998;rwa[decide_eq_true hv]at this
    rw[if_pos hv]at hr;have Hr:=AA hr;clear hr hv;go_wp2;go_ret;exact⟨by rw[Hr.out];rfl,BL hbW _⟩
   ·have e2:∀W,(Op.equalIn 10000 24 a.value.val b.value.val).run prog W= .ok false W:=fun W=>by
     have:=ED a.value b.value W 9998;rwa[decide_eq_false hv]at this
    rw[if_neg hv]at hr;have Hr:=AA hr;clear hr hv;go_wp2_with fail
    refine(Fb a.value b.value _).mono ?_;rintro en w2 ⟨rfl,hb2⟩;have hbw:=BL hbW n;go_wp2;go_ret;exact⟨by rw[Hr.out];rfl,hbw.trans (hb2.mono hbw.size)⟩
theorem Gl(a b:Vt)(w:World):Calls prog 109 #[a.val,b.val] w (Ac w (BU a b)):=by
 by_cases hp:a.parent=b.parent
 ·exact Uc a b w hp
 ·exact Ub a b w hp
end
end Go.Proofs.YtadllffeoibelaaGreat
