/-
  What these parts of the proof come to, functions walked and plain laws: Out2, Vl1, In1, Asc3, Acc2. No condition.
-/
import Derived.Test.YtadllffeoibelaaGreatS19
import Derived.Test.YtadllffeoibelaaGreatS26
import Derived.Test.YtadllffeoibelaaGreatS10
import Derived.Test.YtadllffeoibelaaGreatS11
import Derived.Test.YtadllffeoibelaaGreatS6
import Derived.Test.YtadllffeoibelaaGreatS22
import Derived.Deep.DeepCutAuto
import Derived.ScopeJumps
namespace Go.Proofs.YtadllffeoibelaaGreat
set_option maxRecDepth 100000
set_option maxHeartbeats 32000000
set_option linter.all false
section
open Go.RowKit Go.Shelf
def DA(M:Int)(O:List Vt)(k:Oc)(S:Nat):Prop:=
 S<1024∧∀i,i<10→S.testBit i=true→(xOf M).testBit i=true∧∃w∈O,w.signer=(i:Int)∧w.kind=4∧w.round=k.round∧w.choice=k.choice∧w.value=k.value
theorem DA.zero(M:Int)(O:List Vt)(k:Oc):DA M O k 0:=⟨by decide,fun i _ h=>by simp at h⟩
theorem DA.or{M:Int}{O:List Vt}{k:Oc}{S s:Nat}(h:DA M O k S)(hs:s≤9)(hm:(xOf M).testBit s=true)(hw:∃w∈O,w.signer=(s:Int)∧w.kind=4∧w.round=k.round∧w.choice=k.choice∧w.value=k.value):DA M O k (S|||2^s):=by
 refine⟨IK S s h.1 hs,fun i hi hb=>?_⟩;rw[Nat.testBit_or,Bool.or_eq_true,Nat.testBit_two_pow]at hb;rcases hb with hb|hb
 ·exact h.2 i hi hb
 ·have:s=i:=by simpa using hb
  subst this;exact⟨hm,hw⟩
def Cg(M:Int)(s:Int)(O:List Vt)(kl:List (Oc×Value)):Prop:=
 ∀p∈kl,p.1.slot=s∧p.1.choice≠2∧∃S:Nat,p.2= .int .i64 (S:Int)∧DA M O p.1 S
theorem Cg.nil(M s:Int)(O:List Vt):Cg M s O []:=fun p h=>by cases h
theorem Cg.upd{M s:Int}{O:List Vt}{kl kl':List (Oc×Value)}{k:Oc}{S:Nat}(h:Cg M s O kl)(hu:Upd k (.int .i64 (S:Int)) kl kl')(hk:k.slot=s)(hc:k.choice≠2)(hS:DA M O k S):Cg M s O kl':=by
 intro p hp;rcases hu p hp with h1|rfl
 ·exact h p h1
 ·exact⟨hk,hc,S,rfl,hS⟩
theorem EZ{κ:Type}[DecidableEq κ](k:κ)(v:Value):∀l:List (κ×Value),BR k l=some v→(k,v)∈l
 |[],h=>by simp[BR]at h
 |p::r,h=>by
  rw[BR]at h;split at h
  ·rename_i hk
   injection h with h
   rw[hk,←h];exact BB
  ·exact List.mem_cons_of_mem _ (EZ k v r h)
theorem Cg.look{M s:Int}{O:List Vt}{kl:List (Oc×Value)}(h:Cg M s O kl)(k:Oc):∃S:Nat,(BR k kl).getD (.int .i64 0)= .int .i64 (S:Int)∧DA M O k S:=by
 rcases ha:BR k kl with _|v
 ·exact⟨0,rfl,DA.zero M O k⟩
 ·obtain⟨_,_,S,hS,hm⟩:=h (k,v) (EZ k v kl ha);exact⟨S,by rw[Option.getD_some];exact hS,hm⟩
theorem Cg.out{M s:Int}{O:List Vt}{kl:List (Oc×Value)}(h:Cg M s O kl){k:Oc}{S:Nat}(hk:(k,Value.int .i64 (S:Int))∈kl)(hq:B9 (At (xOf M) 10)≤At (xOf (S:Int)) 10):k.slot=s∧KN (xOf M) O k.round k.choice k.value:=by
 obtain⟨h1,h2,S',hS',hm⟩:=h _ hk;have e:S=S':=by
  simp only[Value.int.injEq,true_and]at hS';omega
 subst e;rw[FT S hm.1]at hq;exact⟨h1,h2,S,fun i hi hb=>(hm.2 i hi hb).1,hq,fun i hi hb=>(hm.2 i hi hb).2⟩
theorem Fb(w:World):(zeroValue 22).run Tryz.prog w= .ok (.int .i64 0) w:=by kernel_rfl
theorem LZ{o:Oper}{a:Act}(s r c:Int)(v:Nm)(x0 x1 x2 x3:Operand)(ho:o.op= .build 142 #[(0,x0),(1,x1),(2,x2),(3,x3)])(h0:a.eval x0=I s)(h1:a.eval x1=I r)(h2:a.eval x2=I c)(h3:a.eval x3= .agg v.cells)(w:World):(execOp a.eval o).run Tryz.prog w= .ok (.value (Oc.mk s r c v).val) w:=by
 unfold execOp;rw[ho];simp only[List.map_toArray,List.map_cons,List.map_nil,h0,h1,h2,h3];go_simp
theorem GW{o:Oper}{a:Act}(x:Operand)(s:Nat)(ho:o.op= .binOp .shl 22 (.const (.int .i64 1)) x 3)(hx:a.eval x= .int .i64 (s:Int))(hs:s≤9)(w:World):(execOp a.eval o).run Tryz.prog w= .ok (.value (.int .i64 ((2^s:Nat):Int))) w:=by
 have he:a.eval (.const (.int .i64 1))= .int .i64 1:=rfl;unfold execOp;rw[ho];simp only[hx,he];go_simp;clear ho hx he;rcases(by omega:s=0∨s=1∨s=2∨s=3∨s=4∨s=5∨s=6∨s=7∨s=8∨s=9)with rfl|rfl|rfl|rfl|rfl|rfl|rfl|rfl|rfl|rfl <;> rfl
theorem GX{o:Oper}{a:Act}(x y:Operand)(m s:Nat)(ho:o.op= .binOp .or 22 x y 22)(hx:a.eval x= .int .i64 (m:Int))(hy:a.eval y= .int .i64 ((2^s:Nat):Int))(hm:m<1024)(hs:s≤9)(w:World):(execOp a.eval o).run Tryz.prog w= .ok (.value (.int .i64 ((m|||2^s:Nat):Int))) w:=by
 have h2:2^s<1024:=Nat.pow_lt_pow_right (n:=10) (by omega) (by omega);have h:=KM m (2^s) (by omega) (by omega);obtain⟨z,hz⟩:∃z:Int,z=((2^s:Nat):Int):=⟨_,rfl⟩;obtain⟨z2,hz2⟩:∃z:Int,z=((m|||2^s:Nat):Int):=⟨_,rfl⟩;rw[←hz,←hz2]at h;rw[←hz]at hy;rw[←hz2];unfold execOp;rw[ho];simp only[hx,hy];clear hz hz2;go_simp
theorem B5{op:Oper}{a:Act}{w w':World}{K:Act→World→Prop}{Q:Exit→Act→World→Prop}(v:Value)(hr:(execOp a.eval op).run Tryz.prog w= .ok (.value v) w')(hK:K (a.put op.dst v) w'):op.wp Tryz.prog a w K Q:=by
 unfold Oper.wp;rw[hr,Oper.upon_value];exact hK
theorem KW{op:Oper}{a:Act}{w w':World}{K:Act→World→Prop}{Q:Exit→Act→World→Prop}(hr:(execOp a.eval op).run Tryz.prog w= .ok .skip w')(hK:K (a.put op.dst undef) w'):op.wp Tryz.prog a w K Q:=by
 unfold Oper.wp;rw[hr];exact hK
theorem J3{o:Oper}{a:Act}(x y:Operand)(ho:o.op= .lookup 178 x y false)(m:Nat)(k:Oc)(hx:a.eval x= .map (some m))(hy:a.eval y=k.val){w:World}{kl:List (Oc×Value)}(h:Bh Oc.val w m kl):(execOp a.eval o).run Tryz.prog w= .ok (.value ((BR k kl).getD (.int .i64 0))) w:=by
 have hr:=h.is.look SS Tryz.underlying178 (.int .i64 0) (Fb w) k false;unfold execOp;rw[ho];simp only[hx,hy];simp only[Bool.false_eq_true,if_false]at hr;simp[hr,Result.andThen]
theorem Rng.le{enc:Oc→Value}{w:World}{m r cnt:Nat}{l:List (Oc×Value)}(h:Rng enc w m r l cnt):cnt≤l.length:=by
 obtain⟨es,c,s,c0,seen,_,_,h3,_,_,_,_,h8⟩:=h;rw[h8];unfold leftOf;have h4:=congrArg List.length h3;simp only[AY,Array.length_toList]at h4;rw[←h4];exact Array.size_filter_le
theorem Rng.ne_row{enc:Oc→Value}{w:World}{m r cnt base n size:Nat}{e:TypeId}{v:Value}{xs:List Value}{l:List (Oc×Value)}(h:Rng enc w m r l cnt)(ho:w.ownsRow base e size v n xs):some m≠v.ownBlock∧some r≠v.ownBlock:=by
 obtain⟨es,c,s,c0,seen,h1,h2,_⟩:=h;rcases ho.2 with⟨rfl,_⟩|⟨g,cap,cur,rfl,_,hh,_⟩
 ·exact⟨by simp[Value.ownBlock],by simp[Value.ownBlock]⟩
 ·refine⟨fun he=>?_,fun he=>?_⟩
  ·have:m=g:=by simpa[Value.ownBlock]using he
   subst this;rw[h1]at hh;cases hh
  ·have:r=g:=by simpa[Value.ownBlock]using he
   subst this;rw[h2]at hh;cases hh
def S0(D:List Oc)(w:World)(pb:Nat)(v:Value)(e:Ending)(w3:World):Prop:=
 e= .returned (.tuple #[])∧Blk w3 pb 103 #[v]∧Below w.heap.size w w3∧∃(l3:List Oc),l3.Perm D∧w3.ownsRow w.heap.size 142 11 v l3.length (l3.flatMap occ)
theorem Ha{w:World}{b n:Nat}{e:TypeId}{v:Value}{m:Nat}{xs:List Value}(h:w.ownsRow b e m v n xs):(v= .slice none 0 0∧n=0∧xs=[])∨∃g cap T,v= .slice (some ⟨g,0,none⟩) n cap∧b≤g∧Blk w g e (xs++T).toArray∧n≤cap∧cap≤maxLen∧xs.length+T.length=cap*m:=by
 rcases h.2 with⟨hv,h0⟩|⟨g,cap,cur,hv,hg,hh,h1,h2,h3,ht⟩
 ·exact .inl ⟨hv,h0,AV (by rw[h.1,h0,Nat.zero_mul])⟩
 ·refine .inr ⟨g,cap,cur.toList.drop (n*m),hv,hg,?_,h1,h2,?_⟩
  ·rw[←ht,Aj];exact hh
  ·rw[←ht,←AI,Aj,Array.length_toList,h3]
theorem RY(w W:World)(pb:Nat)(v:Value)(D:List Oc)(hown:W.ownsRow w.heap.size 142 11 v D.length (D.flatMap occ))(hb:Below w.heap.size w W)(hpb:Blk W pb 103 #[v])(hsm:D.length≤1000000):Calls Tryz.prog 116 #[.iface 103 v,.func (.func 117) #[] #[.pointer (some ⟨pb,0,none⟩)]] W (S0 D w pb v):=by
 rcases Ha hown with⟨rfl,h0,_⟩|⟨g,cap,T,rfl,hg,hblk,hcap,hcap2,hlen⟩
 ·refine(Gx Pe 0 W).mono ?_;rintro e w3 ⟨rfl,hb3⟩;have hD:D=[]:=AV h0;subst hD;exact⟨rfl,hpb.below hb3 hpb.lt,hb.trans (hb3.mono hb.size),[],List.Perm.refl _,by simp,.inl ⟨rfl,rfl⟩⟩
 ·have hne:pb≠g:=by
   intro e;subst e;unfold Blk at hpb hblk;rw[hpb]at hblk;injection hblk with hh
   injection hh with _ ht
   exact absurd ht (by decide)
  refine(Gw Pe ⟨occ,T⟩ (fun _=>rfl) (by decide) (fun x v hv=>KL x hv) (fun args W=>MY args W) D g D.length cap W (MX T pb g D.length cap D W hpb hne rfl) hblk rfl hsm).mono ?_;rintro e w3 ⟨rfl,l3,hr3,hp3⟩;have hl3:=hp3.length_eq;have f3:=AX occ 11 l3 (GG l3);have fD:=AX occ 11 D (GG D);refine⟨rfl,hr3.box hpb hne,hb.grown hr3.kept hb.size (fun k hk=>by injection hk with hk;subst hk;exact hg),l3,hp3,f3,.inr ⟨g,cap,_,by rw[hl3],hg,hr3.blk,by rw[hl3];exact hcap,hcap2,?_,?_⟩⟩
  ·show(l3.flatMap occ++T).length=_;rw[AI,f3,←hlen,fD,hl3]
  ·show(l3.flatMap occ++T).take (l3.length*11)=_;rw[←f3,List.take_left]
end
section
open Go.RowKit
attribute [local go_sem ↓] Go.wp_at_zero Go.wp_at_succ An Au Av Aw DK
attribute [local go_sem] BD BH BI BJ EO AN AW AQ
instance:Inhabited Vl:=⟨Vl.zero⟩
theorem Bx.vl{T:List Value}{w0 W:World}{g i:Nat}{l:List Vl}{x:Vl}(h:Bx ⟨vlc,T⟩ 258 w0 g l W)(hx:l[i]? =some x):AK W g (i*9) 9=some x.cells:=by
 refine Bo (fun j u hu=>?_) rfl;have:=D3 (c:=⟨vlc,T⟩) (m:=9) (fun _=>rfl) h.blk i j x u hx (by simpa using hu);rwa[Nat.zero_add]at this
theorem OX(T:List Value)(B g n c:Nat)(l0:List Vl)(w0:World)(hB:Blk w0 B 261 #[.slice (some ⟨g,0,none⟩) n c])(hne:B≠g)(hn:l0.length=n):Fr ⟨vlc,T⟩ 258 w0 g l0 Fs 251 #[.pointer (some ⟨B,0,none⟩)]:=by
 intro W l i j x y hr hp hx hy;have hi:i<n:=by rw[←hn,←hp.length_eq];exact(AG.1 hx).1
 have hj:j<n:=by rw[←hn,←hp.length_eq];exact(AG.1 hy).1
 have hc0:W.cell? ⟨B,0,none⟩=some (.slice (some ⟨g,0,none⟩) n c):=(hr.box hB hne).cell 0;have HRows:Hid (∀V,Below W.heap.size W V→V.cell? ⟨B,0,none⟩=some (.slice (some ⟨g,0,none⟩) n c)∧AK V g (i*9) 9=some x.cells∧AK V g (j*9) 9=some y.cells):=
  fun V hV=>⟨(hV.cell (p:=⟨B,0,none⟩) (hr.box hB hne).lt).trans hc0,Ay (hr.vl hx) hV hr.blk.lt,Ay (hr.vl hy) hV hr.blk.lt⟩
 have HL:Hid (∀V,Below W.heap.size W V→Calls Tryz.prog 252 #[x.val,y.val] V (Al V (Fs x y))):=
  fun V hV=>MN x y V
 obtain⟨r,hrr⟩:∃r,r=Fs x y:=⟨_,rfl⟩;rw[←hrr]at HL ⊢;clear hrr hc0 hr hp hx hy hB hn;have hbw:Below W.heap.size W W:=AC _ _;show Calls Tryz.prog 251 #[.int .i64 (i:Int),.int .i64 (j:Int),.pointer (some ⟨B,0,none⟩)] W _;go_enter Tryz.func251,Tryz.ntmps251;go_upto_region 1 with fail
 refine rgD (fun w'=>w'.cell? ⟨B,0,none⟩=some (.slice (some ⟨g,0,none⟩) n c)∧AK w' g (i*9) 9=some x.cells∧AK w' g (j*9) 9=some y.cells) (HRows.out _ hbw.drew) fun hHeld=>?_
 refine tkD 6 0 ?_;go_frame;refine tkD 7 1 ?_;go_frame;refine tkD 8 2 ?_;go_frame;refine tkD 9 3 ?_;go_frame;refine tkD 10 4 ?_;go_frame;refine tkD 11 5 ?_;go_frame;refine tkD 12 6 ?_;go_frame;refine tkD 13 7 ?_;go_frame;refine rd1 8 fun K hK=>?_
 go_simp;refine(HL.out _ hbw.drew).mono ?_;rintro en w2 ⟨rfl,hb2⟩;have hbw2:=hbw.drew.trans (hb2.mono hbw.size);go_wp2_with fail
 refine hK.out _ _ (HRows.out _ hbw2) (fun hHeld=>?_);clear hK K;try go_frame
 refine tkD 5 9 ?_;go_frame;refine dnD ?_;go_wp2;go_ret;exact⟨rfl,hbw2⟩
noncomputable def vlT:TypeInfo:=(Tryz.prog.info? 261).get (by kernel_rfl)
noncomputable def vlE:TypeInfo:=(Tryz.prog.info? 258).get (by kernel_rfl)
theorem Tq(n:Nat)(h:2≤n):Lib.swapperK n vlE 25=9:=by
 have a:vlE.hasPointers=false:=by kernel_rfl
 have b:vlE.bytes=16:=by kernel_rfl
 have c0:(n==0)=false:=by simp;omega
 have c1:(n==1)=false:=by simp;omega
 unfold Lib.swapperK;rw[a,b,c0,c1];rfl
theorem S1:Tryz.prog.info? 261=some vlT:=by kernel_rfl
theorem S3:Tryz.prog.info? 258=some vlE:=by kernel_rfl
theorem Pz:vlT.desc= .slice 258:=by kernel_rfl
theorem P7:vlE.size=9:=by kernel_rfl
theorem P8:SlT 261 258 9:=
 ⟨⟨vlT,S1,Pz⟩,by kernel_rfl,⟨vlE,S3,P7,Tq⟩,fun _=>by kernel_rfl,fun _=>by kernel_rfl⟩
theorem Mq(args:Array Value)(W:World):(callFunc 251 args).run Tryz.prog W= .ok (.enter 251 args) W:=enters_of Tryz.func251 (by kernel_rfl) rfl args W
def Tr(D:List Vl)(w:World)(pb:Nat)(v:Value)(e:Ending)(w3:World):Prop:=
 e= .returned (.tuple #[])∧Blk w3 pb 261 #[v]∧Below w.heap.size w w3∧∃(l3:List Vl),l3.Perm D∧w3.ownsRow w.heap.size 258 9 v l3.length (l3.flatMap vlc)
theorem S4(w W:World)(pb:Nat)(v:Value)(D:List Vl)(hown:W.ownsRow w.heap.size 258 9 v D.length (D.flatMap vlc))(hb:Below w.heap.size w W)(hpb:Blk W pb 261 #[v])(hsm:D.length≤1000000):Calls Tryz.prog 116 #[.iface 261 v,.func (.func 251) #[] #[.pointer (some ⟨pb,0,none⟩)]] W (Tr D w pb v):=by
 rcases Ha hown with⟨rfl,h0,_⟩|⟨g,cap,T,rfl,hg,hblk,hcap,hcap2,hlen⟩
 ·refine(Gx P8 0 W).mono ?_;rintro e w3 ⟨rfl,hb3⟩;have hD:D=[]:=AV h0;subst hD;exact⟨rfl,hpb.below hb3 hpb.lt,hb.trans (hb3.mono hb.size),[],List.Perm.refl _,by simp,.inl ⟨rfl,rfl⟩⟩
 ·have hne:pb≠g:=by
   intro e;subst e;unfold Blk at hpb hblk;rw[hpb]at hblk;injection hblk with hh
   injection hh with _ ht
   exact absurd ht (by decide)
  refine(Gw P8 ⟨vlc,T⟩ (fun _=>rfl) (by decide) (fun x v hv=>EF x hv) (fun args W=>Mq args W) D g D.length cap W (OX T pb g D.length cap D W hpb hne rfl) hblk rfl hsm).mono ?_;rintro e w3 ⟨rfl,l3,hr3,hp3⟩;have hl3:=hp3.length_eq;have f3:=AX vlc 9 l3 (Ef l3);have fD:=AX vlc 9 D (Ef D);refine⟨rfl,hr3.box hpb hne,hb.grown hr3.kept hb.size (fun k hk=>by injection hk with hk;subst hk;exact hg),l3,hp3,f3,.inr ⟨g,cap,_,by rw[hl3],hg,hr3.blk,by rw[hl3];exact hcap,hcap2,?_,?_⟩⟩
  ·show(l3.flatMap vlc++T).length=_;rw[AI,f3,←hlen,fD,hl3]
  ·show(l3.flatMap vlc++T).take (l3.length*9)=_;rw[←f3,List.take_left]
end
section
open Go.RowKit Go.Shelf
section
variable {α:Type}{c:Be α}{t:TypeId}{w0:World}{g n f F:Nat}{sb lb:Array Value}{lt:α→α→Bool}{l0:List α}
def P9(c:Be α)(t:TypeId)(w0:World)(g n:Nat)(f:Nat)(sb:Array Value):Prop:=
 ∀(W:World) (l:List α) (i j:Nat),Bx c t w0 g l W→l.length=n→i<n→j<n→i≠j→
  ∃W',(callFunc f (#[.int .i64 (i:Int),.int .i64 (j:Int)]++sb)).run Tryz.prog W= .ok (.value (.tuple #[])) W'∧Bx c t W g (CO l i j) W'
def QA(c:Be α)(t:TypeId)(g:Nat)(lt:α→α→Bool)(l:List α)(a b:Nat)(w:World)(e:Ending)(w':World):Prop:=
 e= .returned (.tuple #[])∧∃l',Bx c t w g l' w'∧CB l l' a b∧Asc lt (seg l' a b)
theorem La(eg:∀args w,(callFunc F args).run Tryz.prog w= .ok (.enter F args) w)(ho:Ord lt)(hle:Fr c t w0 g l0 lt F lb)(hsw:P9 c t w0 g n f sb)(a b:Nat)(l:List α)(w:World)(hrow:Bx c t w0 g l w)(hp:l.Perm l0)(hn:l.length=n)(hsmall:n≤1000000)(hab:a≤b)(hb:b≤n):Calls Tryz.prog 179 #[.agg #[.func (.func F) #[] lb,.func (.func f) #[] sb],.int .i64 (a:Int),.int .i64 (b:Int)] w (QA c t g lt l a b w):=by
 have HO:=AA ho;clear ho;have HLe:=AA hle;clear hle;have HSw:=AA hsw;clear hsw;have HRow:=AA hrow;clear hrow;have HP:=AA hp;clear hp;have HN:=AA hn;clear hn;have hgw:g<w.heap.size:=HRow.out.blk.lt;go_enter Tryz.func179,Tryz.ntmps179;go_wp2
 go_loopw [6] (fun iv wr=>∃(i:Nat) (l':List α),iv= .int .i64 (i:Int)∧a<i∧(i≤b∨b=a)∧Bx c t (w.alloc (.cells #[.func (.func F) #[] lb,.func (.func f) #[] sb] 190)) g l' wr∧CB l l' a b∧Asc lt (seg l' a i)) (fun iv _=>b+1-(intOf iv).toNat)
 case atStart=>
  refine⟨a+1,l,by go_num,by omega,by omega,Bx.self (HRow.out.blk.alloc _),CB.refl _ _ _,?_⟩;rcases hs:seg l a (a+1)with _|⟨x,_|⟨y,r⟩⟩
  ·exact Asc.nil
  ·exact Asc.one _
  ·have:=congrArg List.length hs;unfold seg at this;rw[List.length_drop,AZ]at this;simp at this;omega
 case round=>
  obtain⟨i,l',rfl,hai,hib,hr,hk,hs⟩:=hrel;have HR:=AA hr;have HK:=AA hk;have HS:=AA hs;clear hr hk hs;by_cases hi:i<b
  ·have di:decide ((i:Int)<(b:Int))=true:=by simp;omega
   have HL':Hid (l'.length=n):=HK.out.len.trans HN.out;go_wp2
   go_loopw [7] (fun jv wr=>∃(j:Nat) (lj:List α),jv= .int .i64 (j:Int)∧a≤j∧j≤i∧Bx c t (w.alloc (.cells #[.func (.func F) #[] lb,.func (.func f) #[] sb] 190)) g lj wr∧C0 lt l' a i j lj) (fun jv _=>(intOf jv).toNat)
   case atStart=>exact⟨i,l',rfl,by omega,by omega,HR.out,C0.start (by omega) (by rw[HL'.out];omega) HS.out⟩
   case round=>
    obtain⟨j,lj,rfl,haj,hji,hr,hins⟩:=hrel;have hlj:lj.length=n:=hins.len.1.trans HL'.out;have HLj:=AA hlj;have HI:=AA hins;have HRj:=AA hr;have c0:wr.cell? ⟨w.heap.size,0,none⟩=some (.func (.func F) #[] lb):=(HRj.out.box (Blk.new w _ _) (by omega)).cell 0;clear hr hins hlj;have HPj:Hid (lj.Perm l0):=(HI.out.perm.perm.trans HK.out.perm).trans HP.out;have HKj:Hid (CB l lj a b):=HK.out.trans (HI.out.perm.wider (AB _) (by omega));by_cases hja:a<j
    ·have dj:decide ((a:Int)<(j:Int))=true:=by simp;omega
     obtain⟨x,y,hx,hy,hstep⟩:=HI.out.two hja;have hl:=fun W (hW:Bx c t (w.alloc (.cells #[.func (.func F) #[] lb,.func (.func f) #[] sb] 190)) g lj W)=>HLe.out W lj j (j-1) x y (HRow.out.trans hW.off) HPj.out hx hy
     rw[show(((j-1:Nat):Int))=(j:Int)-1 from by omega]at hl;have HL:=AA hl;have HSt:=AA hstep;have HX:=AA hx;have HY:=AA hy;clear hl hstep hx hy;cases hlv:lt x y with
     |true=>
      rw[hlv]at HL;go_wp2_with fail
      refine(HL.out _ HRj.out).mono ?_;rintro e w2 ⟨rfl,hb2⟩;have HR2:=AA (HRj.out.below hb2);have c1:w2.cell? ⟨w.heap.size,1,none⟩=some (.func (.func f) #[] sb):=(HR2.out.box (Blk.new w _ _) (by omega)).cell 1;obtain⟨W3,hrun,hrow3⟩:=HSw.out w2 lj j (j-1) (HRow.out.trans HR2.out.off) HLj.out (by omega) (by omega) (by omega);rw[show(((j-1:Nat):Int))=(j:Int)-1 from by omega]at hrun;have HR3:=AA (HR2.out.trans hrow3);clear hrow3 hb2;go_wp2;go_roundw
      case rel=>exact⟨j-1,CO lj j (j-1),by go_num,by omega,by omega,HR3.out,HSt.out hlv⟩
      case measure=>simp[intOf];omega
     |false=>
      rw[hlv]at HL;go_wp2_with fail
      refine(HL.out _ HRj.out).mono ?_;rintro e w2 ⟨rfl,hb2⟩;have HR2:=AA (HRj.out.below hb2);clear hb2;go_wp2;go_roundw
      case rel=>exact⟨i+1,lj,by go_num,by omega,by omega,HR2.out,HKj.out,HI.out.done HO.out (.inr ⟨x,y,HX.out,HY.out,hlv⟩)⟩
      case measure=>simp[intOf];omega
    ·have dj:decide ((a:Int)<(j:Int))=false:=by simp;omega
     go_wp2;go_roundw
     case rel=>exact⟨i+1,lj,by go_num,by omega,by omega,HRj.out,HKj.out,HI.out.done HO.out (.inl (by omega))⟩
     case measure=>simp[intOf];omega
  ·have di:decide ((i:Int)<(b:Int))=false:=by simp;omega
   go_wp2;go_end0;refine⟨rfl,l',HR.out.off,HK.out,?_⟩;rcases Nat.lt_or_ge b i with h|h
   ·rw[Bu l' (.inr (by omega))];exact Asc.nil
   ·have e:b=i:=by omega
    rw[e];exact HS.out
theorem Lb(eg:∀args w,(callFunc F args).run Tryz.prog w= .ok (.enter F args) w)(ho:Ord lt)(hle:Fr c t w0 g l0 lt F lb)(hsw:P9 c t w0 g n f sb)(l:List α)(w:World)(hrow:Bx c t w0 g l w)(hp:l.Perm l0)(hn:l.length=n)(hsmall:n≤12)(L:Int):Calls Tryz.prog 169 #[.agg #[.func (.func F) #[] lb,.func (.func f) #[] sb],.int .i64 0,.int .i64 (n:Int),.int .i64 L] w (QA c t g lt l 0 n w):=by
 obtain⟨B,hB⟩:∃B,B=w.alloc (.cells #[.func (.func F) #[] lb,.func (.func f) #[] sb] 190):=⟨_,rfl⟩;have hrB:Bx c t w0 g l B:=by rw[hB];exact hrow.alloc _
 have hBx:Blk B w.heap.size 190 #[.func (.func F) #[] lb,.func (.func f) #[] sb]:=by rw[hB];exact Blk.new _ _ _
 have HI:=AA (La eg ho hle hsw 0 n l B hrB hp hn (by omega) (Nat.zero_le _) (AB _));have HOff:Hid (∀V l',Bx c t B g l' V→Bx c t w g l' V):=fun V l' h=>by rw[hB]at h;exact h.off
 have c0:B.cell? ⟨w.heap.size,0,none⟩=some (.func (.func F) #[] lb):=hBx.cell 0;have c1:B.cell? ⟨w.heap.size,1,none⟩=some (.func (.func f) #[] sb):=hBx.cell 1;have HB:=AA hB;clear eg ho hle hsw hrow hp hn hB hrB hBx;have d12:decide ((n:Int)≤12)=true:=by simp;omega
 have d12':decide ((n:Int)-0≤12)=true:=by simp;omega
 go_enter Tryz.func169,Tryz.ntmps169;go_upto_region 1 with fail
 simp only[←HB.out];go_upto_region 3 with fail
 go_loopw [1,2,3,8,9] (fun av bv lv xv yv wr=>av= .int .i64 0∧bv= .int .i64 (n:Int)∧lv= .int .i64 L∧xv= .bool true∧yv= .bool true∧wr=B) (fun _ _ _ _ _ _=>0)
 case atStart=>exact⟨rfl,rfl,rfl,rfl,rfl,rfl⟩
 case round=>
  obtain⟨rfl,rfl,rfl,rfl,rfl,hwr⟩:=hrel;subst hwr;go_wp2_with fail
  refine HI.out.mono ?_;rintro en w2 ⟨rfl,l',h1,h2⟩;go_wp2;refine bodyPost_ret (results_none rfl _ _ _) rfl ?_;exact⟨rfl,l',HOff.out _ _ h1,h2⟩
end
theorem OY{α:Type}[Inhabited α](n cap:Nat){c:Be α}{m g:Nat}{e:TypeId}{f:Nat}{gS:Bool}(H:Lit c.enc m e f gS)(t:TypeId)(w0:World):P9 c t w0 g n f #[.slice (some ⟨g,0,none⟩) n cap,typeHandle Tryz.prog e]:=by
 intro W l i j hr hn hi hj _;have hi':i<l.length:=by omega
 have hj':j<l.length:=by omega
 have hm:=H.len;have hrun:=Kz (g:=g) (n:=n) (cap:=cap) H W l i j hi' hj' hi hj (fun k u z v=>D3 hm hr.blk k u z v) (fun k _ u _=>hr.blk.frozen _);obtain⟨b1,k1⟩:=Gn hm hr.blk i l[j] hi';obtain⟨b2,k2⟩:=Gn hm b1 j l[i] (by rw[List.length_set];exact hj');refine⟨_,by rw[hrun,Nat.zero_add,Nat.zero_add],?_,k1.trans k2⟩;unfold CO;rw[AE hi',AE hj'];exact b2
theorem Mr{α:Type}[Inhabited α]{F:Nat}{lb:Array Value}{lt:α→α→Bool}{t e:TypeId}{m:Nat}(S:SlT t e m)(c:Be α)(hl:∀x,(c.enc x).length=m)(h1:∀x,∀v∈c.enc x,v.oneCell'=true)(ho:Ord lt)(eg:∀args w,(callFunc F args).run Tryz.prog w= .ok (.enter F args) w)(l:List α)(g n cap:Nat)(w:World)(hle:Fr c e w g l lt F lb)(hblk:Blk w g e (l.flatMap c.enc++c.tail).toArray)(hn:l.length=n)(hsm:n≤12):Calls Tryz.prog 116 #[.iface t (.slice (some ⟨g,0,none⟩) n cap),.func (.func F) #[] lb] w fun e' w'=>e'= .returned (.tuple #[])∧∃l',Bx c e w g l' w'∧l'.Perm l∧Asc lt l':=by
 obtain⟨i,hi,hd⟩:=S.info;obtain⟨ie,h2,h3,h4⟩:=S.elem;have hrow:Bx c e w g l (sliceWorld Tryz.prog Jb t (some ⟨g,0,none⟩) n cap w):=((Bx.self hblk).alloc _).alloc _;have H9:=LM (enc:=c.enc) S hl h1;have fin:∀e' w',QA c e g lt l 0 n (sliceWorld Tryz.prog Jb t (some ⟨g,0,none⟩) n cap w) e' w'→e'= .returned (.tuple #[])∧∃l',Bx c e w g l' w'∧l'.Perm l∧Asc lt l':=fun e' w' h=>by
  obtain⟨h5,l',h6,h7,h8⟩:=h;refine⟨h5,l',hrow.trans h6,h7.perm,?_⟩;have hl':l'.length=n:=h7.perm.length_eq.trans hn;have e1:seg l' 0 n=l':=by unfold seg;rw[List.drop_zero,AT (by omega)]
  rwa[e1]at h8
 refine Any.sort_Slice_of_pdq Ho t e i ie hi hd S.packed h2 25 S.kind (some ⟨g,0,none⟩) n cap (by omega) (Fo n) (Gv h4 n) (.func F) #[] lb w (fun w'=>∃l',Bx c e w g l' w'∧l'.Perm l∧Asc lt l') ?_;by_cases h:2≤n
 ·have e1:Fo n=178:=by unfold Fo;rw[if_neg (by omega),if_neg (by omega)]
  have e2:sliceBound Tryz.prog e ie 25 (some ⟨g,0,none⟩) n cap=#[.slice (some ⟨g,0,none⟩) n cap,typeHandle Tryz.prog e]:=by unfold sliceBound;rw[h4 n h];rfl
  rw[e1,e2];exact(Lb (w0:=w) (n:=n) eg ho hle (OY n cap H9 e w) l _ hrow (List.Perm.refl _) hn hsm _).mono fin
 ·exact(Lb (w0:=w) (n:=n) eg ho hle (fun _ _ i j _ _ hi hj hne=>absurd hne (by omega)) l _ hrow (List.Perm.refl _) hn hsm _).mono fin
end
section
open Go.RowKit Go.Shelf
attribute [local go_sem ↓] Go.wp_at_zero Go.wp_at_succ An Au Av Aw
attribute [local go_sem] BD BH BI BJ AN AW AQ
def Lc(p:Nm)(l:List Vt):List Vt:=(CD ((l.filter fun s=>decide (s.parent=p)).map fun v=>(v,([]:List UInt8)))).map (·.1)
theorem J4(a b:Vt):DH (a,([]:List UInt8)) (b,[])=Bg a b:=by
 unfold DH;by_cases h:a=b
 ·subst h;rw[if_pos rfl,CT];rfl
 ·rw[if_neg h]
theorem UR:Ord Bg:=⟨fun _ _ h=>K7 h,fun x y z h h'=>by
 rw[←J4]at h h' ⊢;exact Gr.trans _ _ _ h h'⟩
theorem QB{p:Nm}{l s:List Vt}(hp:s.Perm (l.filter fun s=>decide (s.parent=p)))(hs:Asc Bg s):DF id s s.length=Lc p l:=by
 have h1:=Ii (f:=id) (f':=Prod.fst) (k:=fun v:Vt=>(v,([]:List UInt8))) (fun _=>rfl) s s.length;have h2:=LB (l:=(l.filter fun s=>decide (s.parent=p)).map fun v=>(v,([]:List UInt8))) (s:=s.map fun v=>(v,([]:List UInt8))) (hp.map _) (by
  unfold Asc at hs ⊢;rw[List.pairwise_map];exact hs.imp fun h=>by rw[J4];exact h)
 rw[AY]at h2;unfold Lc;rw[←h2,←h1,List.map_map];exact(List.map_id' _).symm
def RZ(l:List Vt)(p:Nm)(w:World)(q pb:Nat)(iv:Value)(wr:World):Prop:=
 ∃(i:Nat) (v:Value) (D:List Vt),iv= .int .i64 (i:Int)∧i≤l.length∧D.length≤i∧D=(l.take i).filter (fun s=>decide (s.parent=p))∧wr.ownsRow w.heap.size 46 22 v D.length (D.flatMap vtc)∧Below w.heap.size w wr∧Blk wr q 24 p.cells∧Blk wr pb 56 #[v]
def QC(D:List Vt)(w3:World)(v iv:Value)(wr:World):Prop:=
 ∃(i:Nat) (O:List Vt),iv= .int .i64 (i:Int)∧i≤D.length∧O.length≤i∧O=DF id D i∧wr.ownsRow w3.heap.size 46 22 v O.length (O.flatMap vtc)∧Below w3.heap.size w3 wr
end
section
open Go.RowKit
attribute [local go_sem ↓] Go.wp_at_zero Go.wp_at_succ An Au Av Aw
attribute [local go_sem] BD BH BI BJ AN AW AQ
def I0(M:Int)(O:List Vt)(v:Vt):Bool:=(xOf M).testBit v.signer.toNat&&Dc M (B9 (At (xOf M) 10)) v O
def Fl(M:Int)(D:List Vt):List Vt:=D.foldl (fun O v=>if I0 M O v=true then O++[v]else O) []
theorem OZ{M:Int}{D:List Vt}{v:Vt}{b:Bool}(hm:¬(v.kind=4∧v.choice=2))(h:Cq M (B9 (At (xOf M) 10)) v (Fl M D) b):Fl M (D++[v])=if b=true then Fl M D++[v]else Fl M D:=by
 unfold Cq at h;rw[if_neg hm]at h;unfold Fl;rw[List.foldl_append];show(if I0 M _ v=true then _ else _)=_;unfold I0;rw[h];rfl
end
end Go.Proofs.YtadllffeoibelaaGreat
