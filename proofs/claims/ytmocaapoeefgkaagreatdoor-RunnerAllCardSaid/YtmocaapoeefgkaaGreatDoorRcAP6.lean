/-
  Part 6 of the texts that prove this claim, merged.
-/
import Derived.Test.YtmocaapoeefgkaaGreatDoorRcAP5
set_option linter.all false
set_option maxRecDepth 40000
set_option maxHeartbeats 16000000
namespace Cp
open Go Go.RowKit Go.Great
section
variable {P:Program} {L:Lg P} {n:Fm} {fz:Nat} {E:Env} {I:C1} {M0:Av} {w0:World} {S:Nat→Prop} {rs:List At} {Q:Exit→Act→World→Prop} {c:Code}
abbrev GV (l D:Nat) (rec:Obj) (M1:Av) (w1:World) (rs:List At):List At:=BN l rec::BN D (.deferred (some []))::Ai M1 w1::rs
theorem Tr.ABF {α:Type} {p gf:Nat} {g:Operand} {lb:Array Value} {enc:α→Value} {xs:List α} {own:List α→List At} {assign body:Code} (q:Nat) (K:Env) (hK:Co E K) (R:List α→List At)
  (hIt:Ns P gf lb enc xs own) (eg:Entry P gf) (hg:VL E g (is (.func (.func gf) #[] lb))) (Po:rs.Perm (own []++R [])) (hp:K.lookup p=none) (hpn:p<n.sz)
  (hassign:∀l D rec M1 w1 pre x,(pre++[x])<+:xs→Tr (gM P (some l)) ⟨n.sz,[]⟩ ((p,is (enc x))::K) (Hp M0 w0 S (own (pre++[x])++GV l D rec M1 w1 (R pre))) assign (Exit.then (St ⟨n.sz,[]⟩ ((q,is (enc x))::K) (Hp M0 w0 S (own (pre++[x])++GV l D rec M1 w1 (R pre)))) (fun _ _ _=>False)))
  (hbody : ∀ l D rec M1 w1 pre x, (pre ++ [x]) <+: xs → Tr (gM P (some l)) ⟨n.sz, []⟩ ((q, is (enc x)) :: K) (Hp M0 w0 S (own (pre ++ [x]) ++ GV l D rec M1 w1 (R pre))) body
   (Jo M0 w0 S (fun _:Unit=>own (pre++[x])++GV l D rec M1 w1 (R (pre++[x]))) (fun _ _=>own (pre++[x])++GV l D rec M1 w1 [CT False])))
  (hdone:∀l D rec M1 w1,Fin ⟨n.sz,mark D::n.df⟩ E (Hp M0 w0 S (own xs++GV l D rec M1 w1 (R xs))) Q .normal):
  Tr (ZK P) n E (Hp M0 w0 S rs) (.rangeFunc g #[p] assign body) Q:=by
 refine Tr.rD (fun x=>(q,is (enc x))::K) (fun pre (_:Unit)=>R pre) (fun _ _ _=>[CT False]) () hIt (fun args w=>DD eg args w) hg Po ?_ ?_ (fun l D rec M1 w1 _=>hdone l D rec M1 w1) ?_
 ·
  intro l D rec M1 w1 pre x d hpre a hsz hE M w hI
  have hx:Ext M1 w1 M w:=(hI.hold (Ai M1 w1) AO).1
  refine hassign l D rec M1 w1 pre x hpre _ w ⟨M,by simpa using hsz,rfl,fun s z hq=> ?_,hI⟩
  simp only [List.lookup] at hq
  by_cases hs:s=p
  ·
   subst hs
   simp only [beq_self_eq_true,Option.some.injEq] at hq
   subst hq
   show (a.tmps.setIfInBounds s (enc x)).getD s undef=enc x
   simp [Array.getD_eq_getD_getElem?,hsz,hpn]
  ·
   rw [show (s==p)=false by simpa using hs] at hq
   obtain ⟨z',Ex,JN⟩:=hK.spec s z hq
   have h2:=z.st _ _ _ _ _ hx (JN _ _ _ (hE s z' Ex))
   show z.h M w ((a.tmps.setIfInBounds p (enc x)).getD s undef)
   have e1:(a.tmps.setIfInBounds p (enc x)).getD s undef=a.tmps.getD s undef:=by
    simp only [Array.getD_eq_getD_getElem?]
    rw [Array.getElem?_setIfInBounds_ne (fun e=>hs e.symm)]
   rw [e1];exact h2
 ·
  intro l D rec M1 w1 pre x d hpre
  exact hbody l D rec M1 w1 pre x hpre
 ·
  intro l D rec M1 w1 c pre d hpre a w ⟨M,_,_,_,h⟩
  have h:A7 M0 w0 S (own pre++GV l D rec M1 w1 [CT False]) M w:=h
  exact ((h.hold (CT False) AO).1).elim
theorem Fin.st {E1:Env} {Q':Exit→Act→World→Prop} (hs:Co E E1):Fin n E I (Exit.then (St n E1 I) Q') .normal:=fun _ _ h=>h.sub hs (fun _ _ h=>h)
theorem Fin.rnd {β:Type} {rr:β→List At} {rx:Code→β→List At} (d:β) (hp:rs.Perm (rr d)):Fin n E (Hp M0 w0 S rs) (Jo M0 w0 S rr rx) .normal:=fun _ _ ⟨M,_,_,_,h⟩=>⟨d,M,A7.perm hp h⟩
theorem Tr.ABG {α β:Type} (K:Env) (hK:Co E K) (ni:α→β→Fm) (Ei:α→β→Env) (Ii:α→β→C1) (C:α→β→Prop) (μ:α→β→Nat) (x0:α) (y0:β) (hn:ni x0 y0=n) (h0:C x0 y0) (hs:Co E (Ei x0 y0)) (hI:∀M w,I.h M w→(Ii x0 y0).h M w)
  (k:∀x y,C x y→Tr L (ni x y) (Ei x y++K) (Ii x y) c (Exit.then (fun a w=>∃x' y',(C x' y'∧μ x' y'<μ x y)∧St (ni x' y') (Ei x' y'++K) (Ii x' y') a w) Q)):Tr L n E I (.loop c) Q:=
 Tr.AFd (fun p : α × β => ni p.1 p.2) (fun p => Ei p.1 p.2 ++ K) (fun p => Ii p.1 p.2) (fun p => C p.1 p.2) (fun p => μ p.1 p.2) (x0, y0) hn h0 (NH hs hK) hI
  fun ⟨x,y⟩ hC a w hst=>L.mono (fun e a w hq=>by
   cases e with
   |normal=>obtain ⟨x',y',h1,h2⟩:=hq;exact ⟨(x',y'),h1,h2⟩
   |_=>exact hq) (k x y hC a w hst)
theorem Fin.AFe {α β:Type} {ni:α→β→Fm} {E1:α→β→Env} {I1:α→β→C1} {C:α→β→Prop} (i:α) (j:β) (hn:ni i j=n) (hC:C i j) (hs:Co E (E1 i j)) (hI:∀M w,I.h M w→(I1 i j).h M w):Fin n E I (Exit.then (fun a w=>∃x y,C x y∧St (ni x y) (E1 x y) (I1 x y) a w) Q) .normal:=
 fun _ _ hst=>⟨i,j,hC,by rw [hn];exact hst.sub hs hI⟩
end
section
variable {P:Program} {fz:Nat} {E:Env} {M0 M1:Av} {w0 w1:World} {S:Nat→Prop} {g:Func} {α β:Type} {xs:List α} {own:List α→List At} {R Rx:List α→β→List At}
theorem Fin.AFf {d:β} (hr:g.results= #[]):Fin ⟨fz,[]⟩ E (Hp M0 w0 S (own xs++Ai M1 w1::R xs d)) (J9 P g fun e w'=>(∃v,e= .returned v)∧∃M' d',Ext M1 w1 M' w'∧(A7 M0 w0 S (own xs++R xs d') M' w'∨∃pre,pre<+:xs∧A7 M0 w0 S (own pre++Rx pre d') M' w')) .normal:=by
 refine Fin.AA_ (Fin.Sj ?_)
 rintro a w ⟨M,_,hd,he,hi⟩
 obtain ⟨h1,h2⟩:=GR hi
 exact ⟨hd,_,results0 hr,⟨_,rfl⟩,M,d,h1,.inl h2⟩
theorem Fin.ABH {d:β} {pre:List α} (hr:g.results= #[]) (hp:pre<+:xs):Fin ⟨fz,[]⟩ E (Hp M0 w0 S (own pre++Ai M1 w1::Rx pre d)) (J9 P g fun e w'=>(∃v,e= .returned v)∧∃M' d',Ext M1 w1 M' w'∧(A7 M0 w0 S (own xs++R xs d') M' w'∨∃pre,pre<+:xs∧A7 M0 w0 S (own pre++Rx pre d') M' w')) .ret:=by
 refine Fin.Sj ?_
 rintro a w ⟨M,_,hd,he,hi⟩
 obtain ⟨h1,h2⟩:=GR hi
 exact ⟨hd,_,results0 hr,⟨_,rfl⟩,M,d,h1,.inr ⟨pre,hp,h2⟩⟩
theorem BP.ABI {f:FuncId} {args:List Pr} {form:Nat→Value} {r':Value→At} (h:Ef P f args [] (fun _=>True) (fun b=>is (form b)) (fun b=>[r' (form b)])):BP P f args (Cp.ex fun b=>is (form b)) Bf r':=by
 refine ⟨h.1,fun M0 w0 S rs M w vs hI hv=>(h.2 M0 w0 S rs M w vs (A7.J0 hI) hv).mono ?_⟩
 rintro e w' ⟨v,M',b,rfl,_,h1,h2,h3⟩
 obtain rfl:v=form b:=h1
 exact ⟨_,M',rfl,⟨b,rfl⟩,h2,h3⟩
end
end Cp
namespace Go.Proofs.YtmocaapoeefgkaaGreatDoor
open Go Go.RowKit Cp Go.Proofs.Tryz
variable {B:List (BitVec 32)} {d:List Int} {ps qs:List Pr} {b i k n:Nat} {p:Pr}
theorem Wc {b:BitVec 32}:A0 prog 184 [u32 b,int ((i:Nat):Int)] (bool (b.getLsbD i)):=by
 refine fo func184 rfl ⟨rfl,rfl⟩ fun M0 w0=> ?_
 refine a2 ?_
 refine co rfl (rJ rfl vq vq (Int.natCast_nonneg _)) ?_
 refine co rfl (Sc (c:=1#32) rfl vq vq) ?_
 refine co rfl (ABB rfl vq vq) ?_
 refine a2 ?_
 · exact Lr
abbrev Qp:TypeId:=181
abbrev j_ (b:Nat):Value:= .func (.func 222) #[] #[.pointer (some ⟨b,0,none⟩)]
def AIx (s:BitVec 32) (v:Value):At:=match v with| .func _ _ #[.pointer (some a)]=>AF true a.block Qp [u32 s]|_=>Bf
def Jq (s:BitVec 32) (pre:List Nat):BitVec 32:=pre.foldl j7 s
theorem On (s:BitVec 32) (pre:List Nat) (x:Nat):Jq s (pre++[x])=j7 (Jq s pre) x:=by unfold Jq;rw [List.foldl_append];rfl
theorem ABJ {s:BitVec 32}  :Ef (α:=Nat) prog 181 [u32 s] [] (fun _=>True) (fun b=>is (j_ b)) (fun b=>[AF true b Qp [u32 s]]):=by
 refine Ef.of func181 rfl rfl Am fun M0 w0 S rs M1 w1=>(Tr.seq (Tr.BE ?_))
 refine TO.Vk rfl rfl AB rfl F7 (fun b1=> ?_)
 refine ap ?_
 refine Tr.seq (Tr.Bt (co rfl (xH rfl vq) ?_))
 refine ac ?_
 refine Tr.ret (Fin.yx (b1) rfl (AL.tmp rfl Lr) trivial ?_ (List.Perm.refl _))
 · exact Lr
theorem gV {s:BitVec 32}:BP Tryz.prog 181 [u32 s] (Cp.ex fun b=>is (j_ b)) Bf (AIx s):=BP.ABI ABJ
theorem Qq {s:BitVec 32}:Ns prog 222 #[.pointer (some ⟨b,0,none⟩)] (fun i:Nat=> .int .i64 (i:Int)) (JC s) (fun pre=>[CE,AF true b Qp [u32 (Jq s pre)]]):=by
 refine Ns.of (ps:=[is (.pointer (some ⟨b,0,none⟩))]) func222 rfl Am (fun _ _=>⟨rfl,trivial⟩) ?_
 intro M0 w0 S l β R Rx M1 w1 hy d
 refine Tr.block (Tr.DI _ (kk [1,0] rfl) (fun (pre:List Nat) (d2:β)=>[]) (fun (pre:List Nat) (d2:β)=>Hp M0 w0 S (CE::AF true b Qp [u32 (Jq s pre)]::Ai M1 w1::R pre d2)) (fun (pre:List Nat) (d2:β)=>pre++JC (Jq s pre)=JC s) (fun (pre:List Nat) (d2:β)=>(JC (Jq s pre)).length) ([]) (d)  (rfl) trivial (fun _ _ h=>h) ?_)
 rintro pre d2  hpe
 refine Tr.seq (Tr.seq (Tr.Bt (co rfl (CC 1 rfl (BT rfl IZ vq rfl)) (co rfl (rQ rfl vq vq) ?_))))
 refine ac ?_
 refine Tr.cn rfl ?_ ?_<;>intro h1 q1
 have hne:Jq s pre≠0#32:=by simpa using h1
 have rW:=Sf hne
 have Mu:=bF hne
 have hpx:(pre++[KI (Jq s pre)])<+:JC s:=⟨JC (j7 (Jq s pre) (KI (Jq s pre))),by rw [←hpe,rW];simp⟩
 refine ac ?_
 refine ap ?_
 refine TO.F0 0 rfl rfl AB (Ae rfl rfl AB rfl (ABC hne) kz) ?_
 refine ap ?_
 refine Tr.seq (Tr.rx ?_)
 refine ay ?_
 refine xo rfl (fun _=>JB (b:=1#32) rfl vq vq (Int.natCast_nonneg _)) ?_
 refine xo rfl (fun _=>K1 rfl vq vq) (Cx.DP 1 rfl rfl (BF rfl rfl vq F7 Ff rfl Am rfl) ?_)
 refine Cx.nil ⟨by kernel_rfl,?_⟩
 refine Aw.done al3 (Fin.go (Tr.seq ?_))
 refine Tr.G9 1 [u32 (Jq s (pre++[KI (Jq s pre)]))] rfl ⟨Pr.le_of_eq (by rw [On];rfl),trivial⟩ ?_
 refine Tr.rT (own:=fun pre=>[CE,AF true b Qp [u32 (Jq s pre)]]) (pre:=pre) (x:=KI (Jq s pre)) (d:=d2) hy hpx rfl rfl rfl rfl rfl rfl rfl rfl rfl rfl rfl rfl Am Am Am Am AB rfl rfl rfl rfl rfl (fun d3=> ?_) (fun d3=> ?_)
 refine Fin.go (Tr.cond rfl (fun h=>nomatch h) (fun _=> ?_))
 refine Tr.skip (Fin.block ?_)
 exact Fin.Cu (pre++[KI (Jq s pre)]) (d3)  (⟨by rw [On,List.append_assoc,←hpe,rW];rfl,by rw [On,rW];simp⟩) ⟨kq,kz⟩ (fun _ _ h=>h)
 refine Fin.go (Tr.cond rfl (fun _=> ?_) (fun h=>nomatch h))
 refine Tr.ret (Fin.AU (Fin.AE (Fin.AU (Fin.ABH (g:=f222) (own:=fun pre=>[CE,AF true b Qp [u32 (Jq s pre)]]) (R:=R) (Rx:=Rx) (d:=d3) rfl hpx))))
 have hz:Jq s pre=0#32:=by simpa using h1
 obtain rfl:pre=JC s:=by rw [hz,rK,List.append_nil] at hpe;exact hpe
 refine Tr.exit (Fin.BA (Fin.BA (Fin.Bn (Fin.AFf (g:=f222) (own:=fun pre=>[CE,AF true b Qp [u32 (Jq s pre)]]) (xs:=JC s) (R:=R) (Rx:=Rx) (d:=d2) rfl))))
theorem Qr:Entry Tryz.prog 222:=⟨_,Tryz.func222,rfl,rfl⟩
-- bits as AKG are AFg (behind AKH.lean)
def bvF (p:Nat→Bool):Nat→BitVec 32
 |0=>0#32
 |k+1=>if p k then XI (bvF p k) k else bvF p k
theorem bN (p:Nat→Bool):∀(k:Nat) {j:Nat},k≤32→(bvF p k).getLsbD j=(decide (j<k)&&p j)
 |0,j,_=>by simp [bvF]
 |k+1,j,hk=>by
  have ih:= @bN p k j AA
  unfold bvF
  split
  next h=>
   rw [Sd AA,ih]
   by_cases hj:k=j
   · subst hj;simp [h]
   ·
    by_cases h2:j<k
    ·
     have:j<k+1:=by omega
     simp [h2,this,hj]
    ·
     have:¬j<k+1:=by omega
     simp [h2,this,hj]
  next h=>
   rw [ih]
   by_cases hj:k=j
   · subst hj;simp at h;simp [h]
   ·
    by_cases h2:j<k
    ·
     have:j<k+1:=by omega
     simp [h2,this]
    ·
     have:¬j<k+1:=by omega
     simp [h2,this]
def EF (n:Nat) (l:List BM):List (BitVec 32):=(List.range n).map fun b=>bvF (fun a=>DU l n a b) n
theorem C9 (n:Nat) (l:List BM):(EF n l).length=n:=by unfold EF;simp
theorem FZ {l:List BM} (hn:n≤32):D_ n (EF n l) (DU l n):=by
 refine ⟨C9 n l,fun b x hx a=> ?_⟩
 unfold EF at hx
 rw [List.getElem?_map] at hx
 rcases Nat.lt_or_ge b n with hb|hb
 ·
  rw [List.getElem?_range hb] at hx
  simp only [Option.map_some,Option.some.injEq] at hx
  subst hx
  exact bN _ n hn
 · rw [List.getElem?_eq_none HD] at hx;cases hx
theorem bO {C:List (BitVec 32)} {M:Nat→Nat→Bool} (h:D_ n B M) (h':D_ n C M):B=C:=by
 apply List.ext_getElem?
 intro b
 rcases Nat.lt_or_ge b n with hb|hb
 ·
  obtain ⟨x,hx⟩:=at_ (l:=B) (k:=b) (by rw [h.1];exact hb)
  obtain ⟨y,hy⟩:=at_ (l:=C) (k:=b) (by rw [h'.1];exact hb)
  rw [hx,hy]
  congr 1
  exact BitVec.eq_of_getLsbD_eq fun i _=>by rw [h.2 b x hx,h'.2 b y hy]
 · rw [List.getElem?_eq_none (by rw [h.1];exact hb),List.getElem?_eq_none (by rw [h'.1];exact hb)]
theorem kA {l:List BM} {r:BM} (h:l[k]? =some r) (a b:Nat):GI (l.take (k+1)) a b=(GI (l.take k) a b||(decide (r.fst=(a:Int))&&decide (r.thn=(b:Int)))):=by
 unfold GI;rw [List.take_add_one,h,List.any_append];simp
theorem bP {l:List BM} {r:BM} {x:BitVec 32} (h:D_ n B (GI (l.take k))) (hr:l[k]? =some r) (hf:0≤r.fst∧r.fst<n) (ht:0≤r.thn) (hx:B[r.thn.toNat]? =some x) (hn:n≤32):D_ n (B.set r.thn.toNat (XI x r.fst.toNat)) (GI (l.take (k+1))):=by grind [Gv,YU,kA]
def IP (i:Nat) (A:List (BitVec 32)) (k:Nat):List (BitVec 32):=A.set k (XI (A.getD k 0#32) i)
def HK (B:List (BitVec 32)):Nat→List (BitVec 32)
 |0=>List.replicate B.length 0#32
 |i+1=>(JC (B.getD i 0#32)).foldl (IP i) (HK B i)
theorem Oo (i:Nat):∀(ks:List Nat) (A:List (BitVec 32)),(ks.foldl (IP i) A).length=A.length
 |[],_=>rfl
 |k::ks,A=>by rw [List.foldl_cons,Oo i ks];unfold IP;rw [List.length_set]
theorem JE (B:List (BitVec 32)):∀i,(HK B i).length=B.length
 |0=>List.length_replicate
 |i+1=>by unfold HK;rw [Oo,JE B i]
theorem Ui {x:BitVec 32} (h:B[i]? =some x):HK B (i+1)=(JC x).foldl (IP i) (HK B i):=by
 rw [HK,List.getD_eq_getElem?_getD,h];rfl
theorem Sl {n i:Nat} (hi:i<n) (hn:n≤32):∀(ks:List Nat) {A:List (BitVec 32)} {M:Nat→Nat→Bool},D_ n A M→(∀k∈ks,k<n)→D_ n (ks.foldl (IP i) A) (fun b a=>M b a||(decide (b=i)&&ks.contains a))
 |[],A,M,h,_=>Gv h fun a b _ _=>by simp
 |k::ks,A,M,h,hk=>by
  rw [List.foldl_cons]
  obtain ⟨x,hx⟩:=at_ (l:=A) (k:=k) (by rw [h.1];exact hk k AO)
  have h1:D_ n (IP i A k) (fun b a=>M b a||(decide (i=b)&&decide (k=a))):=by
   unfold IP
   rw [List.getD_eq_getElem?_getD,hx]
   exact YU h hx hi hn
  refine Gv (Sl hi hn ks h1 (fun j hj=>hk j (List.mem_cons_of_mem _ hj))) fun b a _ _=> ?_
  by_cases hb:b=i
  ·
   subst hb
   by_cases ha:k=a
   · subst ha;simp
   ·
    have:¬a=k:=fun e=>ha e.symm
    simp [ha,this]
  ·
   have:¬i=b:=fun e=>hb e.symm
   simp [hb,this]
theorem Uj {n:Nat} {B:List (BitVec 32)} {M:Nat→Nat→Bool} (h:D_ n B M) (hn:n≤32):∀(i:Nat),i≤n→D_ n (HK B i) (fun b a=>M a b&&decide (b<i))
 |0,_=>by
  rw [HK,h.1]
  exact Gv (Sg n) fun a b _ _=>by simp
 |i+1,hi=>by
  obtain ⟨x,hx⟩:=at_ (l:=B) (k:=i) (by rw [h.1];omega)
  rw [Ui hx]
  have hlt:∀k∈JC x,k<n:=fun k hk=>by
   have:=F_.1 hk
   rw [h.2 i x hx,Bool.and_eq_true,decide_eq_true_eq] at this
   exact this.1
  refine Gv (Sl AA hn (JC x) (Uj h hn i AA) hlt) fun b a hb ha=> ?_
  by_cases e:b=i
  ·
   subst e
   have hc:(JC x).contains a=M a b:=by
    rw [Bool.eq_iff_iff,List.contains_iff_mem,F_,h.2 b x hx,Bool.and_eq_true,decide_eq_true_eq]
    exact ⟨fun g=>g.2,fun g=>⟨ha,g⟩⟩
   rw [hc];simp
  ·
   by_cases h2:b<i
   ·
    have:b<i+1:=by omega
    simp [e,h2,this]
   ·
    have:¬b<i+1:=by omega
    simp [e,h2,this]
theorem gW {l:List BM} (hn:n≤32):AFc n l (EF n l) (HK (EF n l) n):=
 ⟨FZ hn,Gv (Uj (FZ hn) hn n (Nat.le_refl _)) fun a b ha _=>by simp [ha]⟩
def Ml (B:List (BitVec 32)) (s:BitVec 32):Nat→BitVec 32
 |0=>0#32
 |k+1=>if (!s.getLsbD k&&(B.getD k 0#32&&&~~~s==0#32))=true then XI (Ml B s k) k else Ml B s k
theorem rX {s x:BitVec 32} (hx:B[k]? =some x) (h1:s.getLsbD k=false) (h2:(x&&&~~~s==0#32)=true):Ml B s (k+1)=XI (Ml B s k) k:=by grind [Ml]
theorem xJ {s x:BitVec 32} (hx:B[k]? =some x) (h:s.getLsbD k=true∨(x&&&~~~s==0#32)=false):Ml B s (k+1)=Ml B s k:=by grind [Ml]
theorem rY (B:List (BitVec 32)) (s:BitVec 32):∀k,Ml B s k=bvF (fun j=> !s.getLsbD j&&(B.getD j 0#32&&&~~~s==0#32)) k
 |0=>rfl
 |k+1=>by unfold Ml bvF;rw [rY B s k]
theorem xL {n:Int} {l:List BM} {s:BitVec 32} (hv:BD n l=0) (hs:L7 n.toNat s d) (hc:CK l d=true) (j:Nat):(Ml (EF n.toNat l) s n.toNat).getLsbD j=(decide (j<n.toNat)&&Jm l d true j):=by
 obtain ⟨h0,_⟩:=Cm hv
 rw [rY,bN _ _ AA]
 by_cases hj:j<n.toNat
 ·
  obtain ⟨x,hx⟩:=at_ (l:=EF n.toNat l) (k:=j) (by rw [C9];exact hj)
  rw [xC hv (FZ AA) hs hc hx hj,List.getD_eq_getElem?_getD,hx];rfl
 · simp [hj]
abbrev bits (B:List (BitVec 32)):Pr:=slice 1 (B.map fun x=>[u32 x])
def ABK (a b:BM):Int:=orF [KH a.fst b.fst,KH a.thn b.thn]
theorem Wd {a b:BM}:decide (ABK a b≥0)= !E5 a b:=by grind [ABK,E5,orF,KH]
theorem Lh {i:Int} {x:BitVec 32} (h:B[i.toNat]? =some x):(B.map fun x=>u32 x)[0+i.toNat*1]? =some (u32 x):=by rw [Nat.zero_add,Nat.mul_one,List.getElem?_map,h];rfl
theorem Sm {i:Int} {x y:BitVec 32} (h:B[i.toNat]? =some x):(B.map fun x=>u32 x).take (0+i.toNat*1)++[u32 y]++(B.map fun x=>u32 x).drop (0+i.toNat*1+1)=(B.set i.toNat y).map fun x=>u32 x:=by
 have hl:i.toNat<B.length:=by rcases Nat.lt_or_ge i.toNat B.length with h2|h2;exact h2;rw [List.getElem?_eq_none h2] at h;cases h
 rw [Nat.zero_add,Nat.mul_one,List.set_eq_take_append_cons_drop,if_pos hl]
 simp [List.map_take,List.map_drop]
theorem Uk (B:List (BitVec 32)):(B.map fun x=>u32 x)=(B.map fun x=>[u32 x]).flatten++([]:List Value).map is:=by
 induction B with
 |nil=>rfl
 |cons x B ih=>simp at ih ⊢;exact ih
theorem Ul (n:Nat):(List.replicate n (Value.int .u32 0)).map is=(List.replicate n 0#32).map fun x=>u32 x:=by rw [List.map_replicate,List.map_replicate];rfl
theorem Nu {x:BitVec 32} (h:B[i]? =some x):(B.map fun x=>[u32 x])[((i:Nat):Int).toNat]? =some [u32 x]:=by rw [Int.toNat_natCast,List.getElem?_map,h];rfl
theorem kB {pre:List Nat} {A:List (BitVec 32)} {y:BitVec 32} (h:(pre.foldl (IP i) A)[k]? =some y):(pre.foldl (IP i) A).set k (XI y i)=(pre++[k]).foldl (IP i) A:=by grind [IP,XI]
theorem ABL {r:BM} (h:Ft n r=false):(0≤r.fst∧r.fst<n)∧(0≤r.thn∧r.thn<n)∧r.fst≠r.thn:=by
 unfold Ft at h;rw [decide_eq_false_iff_not] at h;omega
theorem ABM (h:Rd ps qs):Pr.le (ref ps) (ref qs):=fun M w v ⟨a,h1,h2⟩=>⟨a,h1,fun i q hq=>by
 obtain ⟨p,hp,hle⟩:=h.at_ i q hq
 obtain ⟨u,g1,g2⟩:=h2 i p hp
 exact ⟨u,g1,g2.1,g2.2.1,hle _ _ _ g2.2.2⟩⟩
theorem bQ {xs pre:List Nat} {x:Nat} (h:(pre++[x])<+:xs):x∈xs:=h.subset AO
theorem bR {a b:BM}  :A0 prog 182 [agg (GF a),agg (GF b)] (int (ABK a b)):=by
 refine fo func182 rfl ⟨rfl,rfl⟩ fun M0 w0=> ?_
 refine a2 ?_
 refine co rfl (Bq (aF) rfl rfl rfl) ?_
 refine ac ?_
 refine co rfl (Bq (aF) rfl rfl rfl) (co rfl (Af (xs:=[.tmp 9,.tmp 14]) (rows:=[[_],[_]]) rfl rfl underlying22 Bi z3 rfl AB ⟨⟨An,F7⟩,⟨⟨An,F7⟩,trivial⟩⟩ AB) ?_)
 refine co rfl (Ah rfl (AE1 (l:=[KH a.fst b.fst,KH a.thn b.thn])) ⟨Db,trivial⟩) ?_
 refine ac ?_
 refine wk [4] rfl ?_
 refine ac ?_
 · exact Lr
theorem kC {l:List BM} (hn:n≤24) (hbd:∀r∈l,Ft n r=false):BP prog 183 [int ((n:Nat):Int),reqs l] (ref [int ((n:Nat):Int),bits (EF n l),bits (HK (EF n l) n)]) (CE) (fun _=>CE):=by
 refine BP.ofM func183 rfl rfl Am fun M0 w0 S rs M1 w1=> ?_
 refine Tr.CG 1 rfl fun ER=>(Tr.seq (Tr.Bt (cm rfl (Ch.nil (Fin.go (Tr.seq (Tr.pad ?_)))))))
 refine Tr.pad (Tr.pad (Tr.pad (Tr.XU mixed [none,none,some (0,0,true,14),none,some (0,1,true,16),some (0,2,true,.three 17 14 16),some (.three 17 14 16,2,true,.three 18 14 16),some (0,3,true,5),some (5,3,true,.two 5 18)] Ak (xm rfl (xm rfl ?_)))))
 refine Cx.ef 0 rfl rfl AB (rV rfl rfl AB rfl underlying232 Ff yd AAL rfl (vl rfl) (vl rfl) FV AA) ?_
 refine xm rfl ?_
 refine Cx.ef 1 rfl rfl AB (rV rfl rfl AB rfl underlying232 Ff yd AAL rfl (vl rfl) (vl rfl) FV AA) ?_
 refine Cx.ef 2 rfl rfl AB (bK (d:=17) (s:=14) (t:=16) (q:=any) rfl AB AB (fun _ _ _ _ _ _=>trivial) rfl rfl rfl AB AB (fun v1 v2=>Sk rfl rfl AB (fun _=>BO (rows:=[(0,[_]),(1,[_]),(2,[_])]) rfl ADl ADm ⟨⟨rfl,VL.le (vl rfl) (Ag _)⟩,⟨⟨rfl,VL.le (vl rfl) (Ag _)⟩,⟨⟨rfl,VL.le (vl rfl) (Ag _)⟩,trivial⟩⟩⟩ rfl))) (Cx.ef 2 rfl rfl AB (xI rfl rfl AB rfl AB AB) (Cx.ef 3 rfl rfl AB (Bx rfl rfl AB rfl AHc ADe) (Cx.DP 3 rfl rfl (j9 rfl rfl rfl AB rfl rfl ADd rfl) ?_)))
 refine Cx.nil ⟨rfl,?_⟩
 refine Aw.Uh 14 rfl (fun v14=> ?_)
 refine Aw.Uh 16 rfl (fun v16=> ?_)
 refine Aw.Uh 18 rfl (fun v18=> ?_)
 refine Aw.Uh 5 rfl (fun v5=> ?_)
 refine Aw.Pt 0 14 rfl rfl (Aw.Pt 1 16 rfl rfl (Aw.ABE 2 18 14 16 rfl rfl rfl rfl (Aw.bM 3 5 18 rfl rfl rfl (Aw.done (CY.cons (CY.cons (CY.cons (CY.cons (CY.cons (CY.cons (CY.map _))))))) (Fin.shape 14 (fun b=>KE n b) rfl (fun b1 e1=> ?_))))))
 refine Fin.shape 16 (fun b=>KE n b) rfl (fun b2 e2=> ?_)
 refine Fin.shape 18 (fun b=> .pointer (some ⟨b,0,none⟩)) rfl (fun b3 e3=> ?_)
 refine Fin.shape 5 (fun b=> .pointer (some ⟨b,0,none⟩)) rfl (fun b4 e4=> ?_)
 subst e1 e2 e3 e4
 refine Fin.GA 0 (AF true b1 Qp ((List.replicate n 0#32).map fun x=>u32 x)) rfl (by rw [←Ul];rfl) ?_
 refine Fin.GA 1 (AF true b2 Qp ((List.replicate n 0#32).map fun x=>u32 x)) rfl (by rw [←Ul];rfl) ?_
 refine Fin.GA 2 (AF true b3 234 [int ((n:Nat):Int),AV (KE n b1) _,AV (KE n b2) _]) rfl rfl (Fin.G9 2 [int ((n:Nat):Int),is (KE n b1),is (KE n b2)] rfl ⟨Lr,Ct _ _,Ct _ _,trivial⟩ (Fin.GA 3 (AF true b4 176 [AV (.pointer (some ⟨b3,0,none⟩)) _]) rfl rfl (Fin.G9 3 [ptr b3 0] rfl ⟨Ct _ _,trivial⟩ (Fin.go (Tr.seq (Tr.seq (Tr.Bt (cm rfl (co rfl (FP rfl underlying33 (vl rfl)) (cm rfl (Ch.nil (Fin.go (Tr.block (Tr.DI [(0,_),(5,_),(19,_),(20,_)] ⟨ke rfl,ke rfl,ke rfl,ke rfl,trivial⟩ (fun (B:List (BitVec 32)) (m:Nat)=>[(21,int ((m:Nat):Int))]) (fun (B:List (BitVec 32)) (m:Nat)=>Hp M0 w0 S (AF true b1 Qp (B.map fun x=>u32 x)::AF true b2 Qp ((List.replicate n 0#32).map fun x=>u32 x)::AF true b3 234 [int ((n:Nat):Int),is (KE n b1),is (KE n b2)]::AF true b4 176 [ptr b3 0]::CE::Ai M1 w1::rs)) (fun (B:List (BitVec 32)) (m:Nat)=>m≤l.length∧D_ n B (GI (l.take m))) (fun (B:List (BitVec 32)) (m:Nat)=>l.length-m) (List.replicate n 0#32) (0)  (⟨Nat.zero_le _,Gv (Sg n) fun a b _ _=>rfl⟩) ⟨ke rfl,trivial⟩ (fun _ _ h=>h) ?_))))))))))))))
 rintro B m  ⟨hm0,hB⟩
 refine Tr.seq (Tr.Bt (co rfl (ki rfl rfl rfl rfl) (Ch.nil (Fin.go (Tr.seq ?_)))))
 refine Tr.cn rfl ?_ ?_<;>intro h1 q1
 have hm:m<l.length:=AH h1
 obtain ⟨r,hr⟩:=at_ hm
 obtain ⟨hf,ht,_⟩:=ABL (hbd r (List.mem_of_getElem? hr))
 have hBl:=hB.1
 obtain ⟨x,hx⟩:=at_ (l:=B) (k:=r.thn.toNat) AA
 refine Tr.skip (Fin.go (Tr.seq (Tr.block (Tr.seq (Tr.BE (tp rfl (AD rfl underlying33 DQ (vl rfl) (vl rfl) AA (AR hr)) (tp rfl (Ad rfl Iy DQ (vl rfl) rfl rfl) ?_)))))))
 refine Tl rfl rfl rfl rfl QN Ta (fun b5=> ?_)
 refine TO.AK 0 rfl rfl rfl (vl rfl) (Va rfl) rfl DQ rfl rfl (TO.freeze 0 7 rfl rfl (TO.nil (Fin.go (Tr.XU mixed [some (0,3,false,0),none,none,some (0,2,false,0),none,none,none,some (0,0,false,0),none,none,none,none,none,some (0,0,true,0)] Ak (JU 3 rfl rfl (BT rfl Ja (vl rfl) rfl) (xo rfl (fun _=>EY rfl (vl rfl)) (xo rfl (fun _=>Aq rfl LU (vl rfl)) (JU 2 rfl rfl (BT rfl Kg (vl rfl) rfl) (xo rfl (fun _=>i7 rfl nv rfl rfl) (xo rfl (fun _=>Iv rfl DL rfl) (xo rfl (fun _=>BI rfl underlying232 Ff (vl rfl) (vl rfl) AA AA) (JU 0 rfl rfl (BT rfl IZ (vl rfl) (Lh hx)) (xo rfl (fun _=>i7 rfl nu rfl rfl) ?_)))))))))))))
 refine xo rfl (fun _=>Iv rfl DL rfl) ?_
 refine xo rfl (fun _=>JB (b:=1#32) rfl (vl rfl) (vl rfl) AA) ?_
 refine xo rfl (fun _=>Lf rfl (vl rfl) (vl rfl)) (xo rfl (fun _=>BI rfl underlying232 Ff (vl rfl) (vl rfl) AA AA) ?_)
 refine Cx.DP 0 rfl rfl (BF rfl rfl (vl rfl) (Vo rfl) Ff rfl B8 (Sm hx)) ?_
 refine Cx.nil ⟨rfl,?_⟩
 refine Aw.done (CY.cons (CY.cons (CY.cons (CY.cons (CY.cons (CY.cons (CY.map _))))))) (Fin.block (Fin.go (wk5 0 5 19 20 21 rfl (Tr.Bt (ZN rfl rfl rfl rfl AA (cm rfl (Ch.nil (Fin.Cu (B.set r.thn.toNat (XI x r.fst.toNat)) (m+1)  (⟨⟨hm,bP hB hr hf ht.1 hx AA⟩,by omega⟩) ⟨⟨_,rfl,AG m⟩,ke rfl,ke rfl,ke rfl,ke rfl,trivial⟩ (fun _ _ h=>h)))))))))
 have hml:m=l.length:=by have:=AJ h1;omega
 rw [hml,List.take_length] at hB
 refine Tr.exit (Fin.BA (Fin.BA (Fin.Bn (Fin.go (Tr.seq (Tr.seq (Tr.Bt (cm rfl (cm rfl (Ch.nil (Fin.go (Tr.block (Tr.DI [(0,_),(5,_),(39,_)] ⟨ke rfl,ke rfl,ke rfl,trivial⟩ (fun (B2:List (BitVec 32)) (k:Nat)=>[(40,int ((k:Nat):Int))]) (fun (B2:List (BitVec 32)) (k:Nat)=>Hp M0 w0 S (AF true b1 Qp (B2.map fun x=>u32 x)::AF true b2 Qp ((List.replicate n 0#32).map fun x=>u32 x)::AF true b3 234 [int ((n:Nat):Int),is (KE n b1),is (KE n b2)]::AF true b4 176 [ptr b3 0]::CE::Ai M1 w1::rs)) (fun (B2:List (BitVec 32)) (k:Nat)=>k≤n∧D_ n B2 (DU l k)) (fun (B2:List (BitVec 32)) (k:Nat)=>n-k) (B) (0)  (⟨Nat.zero_le _,hB⟩) ⟨ke rfl,trivial⟩ (fun _ _ h=>h) ?_)))))))))))))
 rintro B2 k  ⟨hk0,hB2⟩
 refine Tr.seq (Tr.Bt (co rfl (ki rfl rfl rfl rfl) (Ch.nil (Fin.go (Tr.seq ?_)))))
 refine Tr.cn rfl ?_ ?_<;>intro h2 q2
 have hk:k<n:=AH h2
 refine Tr.skip (Fin.go (Tr.seq (Tr.block (Tr.seq (Tr.Bt (cm rfl (cm rfl (Ch.nil (Fin.go (Tr.seq (Tr.Bt (cm rfl (cm rfl ?_)))))))))))))
 refine Ch.nil (Fin.go (Tr.block ?_))
 refine Tr.DI [(0,_),(5,_),(8,_),(39,_),(40,_),(43,_)] ⟨ke rfl,ke rfl,ke rfl,ke rfl,ke rfl,ke rfl,trivial⟩ (fun (B3:List (BitVec 32)) (i:Nat)=>[(44,int ((i:Nat):Int))]) (fun (B3:List (BitVec 32)) (i:Nat)=>Hp M0 w0 S (AF true b1 Qp (B3.map fun x=>u32 x)::AF true b2 Qp ((List.replicate n 0#32).map fun x=>u32 x)::AF true b3 234 [int ((n:Nat):Int),is (KE n b1),is (KE n b2)]::AF true b4 176 [ptr b3 0]::CE::Ai M1 w1::rs)) (fun (B3:List (BitVec 32)) (i:Nat)=>i≤n∧D_ n B3 (Lv k (DU l k) i)) (fun (B3:List (BitVec 32)) (i:Nat)=>n-i) (B2) (0)  (⟨Nat.zero_le _,by rw [AA8];exact hB2⟩) ⟨ke rfl,trivial⟩ (fun _ _ h=>h) ?_
 rintro B3 i  ⟨hi0,hB3⟩
 refine Tr.seq (Tr.Bt (co rfl (ki rfl rfl rfl rfl) (Ch.nil (Fin.go (Tr.seq ?_)))))
 refine Tr.cn rfl ?_ ?_<;>intro h3 q3
 have hi:i<n:=AH h3
 have hBl:=hB3.1
 obtain ⟨x,hx⟩:=at_ (l:=B3) (k:=i) AA
 obtain ⟨y,hy⟩:=at_ (l:=B3) (k:=k) AA
 refine Tr.skip (Fin.go (Tr.seq (Tr.block (Tr.seq (Tr.Bt (cm rfl (cm rfl (Ch.nil (Fin.go (Tr.seq (Tr.Bt (co rfl (CC 3 rfl (BT rfl Ja (vl rfl) rfl)) (co rfl (EY rfl (vl rfl)) ?_)))))))))))))
 refine co rfl (Aq rfl LU (vl rfl)) (co rfl (CC 2 rfl (BT rfl Kg (vl rfl) rfl)) (cm rfl (co rfl (BI rfl underlying232 Ff (vl rfl) (vl rfl) AA AA) (co rfl (CC 0 rfl (BT rfl IZ (vl rfl) (Lh hx))) (cm rfl (co rfl (Ah rfl (Wc) ⟨ke rfl,ke rfl,trivial⟩) (Ch.nil (Fin.go (wk9 0 5 8 9 39 40 43 44 55 rfl ?_)))))))))
 refine Tr.cn rfl ?_ ?_<;>intro h4 q4
 refine Tr.XU mixed [some (0,3,false,0),none,none,some (0,2,false,0),none,none,some (0,0,false,0),some (0,3,false,0),none,none,some (0,2,false,0),none,none,some (0,0,false,0),none,none,some (0,0,true,0)] Ak (JU 3 rfl rfl (BT rfl Ja (vl rfl) rfl) (xo rfl (fun _=>EY rfl (vl rfl)) (xo rfl (fun _=>Aq rfl LU (vl rfl)) (JU 2 rfl rfl (BT rfl Kg (vl rfl) rfl) (xm rfl (xo rfl (fun _=>BI rfl underlying232 Ff (vl rfl) (vl rfl) AA AA) (JU 0 rfl rfl (BT rfl IZ (vl rfl) (Lh hx)) (JU 3 rfl rfl (BT rfl Ja (vl rfl) rfl) (xo rfl (fun _=>EY rfl (vl rfl)) (xo rfl (fun _=>Aq rfl LU (vl rfl)) (JU 2 rfl rfl (BT rfl Kg (vl rfl) rfl) (xm rfl (xo rfl (fun _=>BI rfl underlying232 Ff (vl rfl) (vl rfl) AA AA) ?_)))))))))))))
 refine JU 0 rfl rfl (BT rfl IZ (vl rfl) (Lh hy)) (xo rfl (fun _=>Lf rfl (vl rfl) (vl rfl)) (xo rfl (fun _=>BI rfl underlying232 Ff (vl rfl) (vl rfl) AA AA) ?_))
 refine Cx.DP 0 rfl rfl (BF rfl rfl (vl rfl) (Vo rfl) Ff rfl B8 (Sm hx)) ?_
 refine Cx.nil ⟨rfl,?_⟩
 refine Aw.done (CY.cons (CY.cons (CY.cons (CY.cons (CY.cons (CY.cons (CY.map _))))))) (Fin.block (Fin.go (wk7 0 5 8 39 40 43 44 rfl (Tr.Bt (ZN rfl rfl rfl rfl AA (cm rfl (Ch.nil ?_)))))))
 exact Fin.Cu (B3.set i (x|||y)) (i+1)  (⟨⟨hi,rO hB3 hx hy (by rw [←YV hB3 hx hk];exact h4)⟩,by omega⟩) ⟨⟨_,rfl,AG i⟩,ke rfl,ke rfl,ke rfl,ke rfl,ke rfl,ke rfl,trivial⟩ (fun _ _ h=>h)
 refine Tr.skip (Fin.block (Fin.go (Tr.Bt (ZN rfl rfl rfl rfl AA (cm rfl (Ch.nil ?_))))))
 exact Fin.Cu (B3) (i+1)  (⟨⟨hi,xB hB3 (by rw [←YV hB3 hx hk];exact h4)⟩,by omega⟩) ⟨⟨_,rfl,AG i⟩,ke rfl,ke rfl,ke rfl,ke rfl,ke rfl,ke rfl,trivial⟩ (fun _ _ h=>h)
 have hin:i=n:=by have:=AJ h3;omega
 rw [hin] at hB3
 refine Tr.exit (Fin.BA (Fin.BA (Fin.Bn (Fin.block (Fin.go (Tr.Bt (ZN rfl rfl rfl rfl AA (cm rfl (Ch.nil (Fin.Cu (B3) (k+1)  (⟨⟨hk,Gv hB3 fun a b _ hb=>rM hb⟩,by omega⟩) ⟨⟨_,rfl,AG k⟩,ke rfl,ke rfl,ke rfl,trivial⟩ (fun _ _ h=>h)))))))))))
 have hkn:k=n:=by have:=AJ h2;omega
 rw [hkn] at hB2
 obtain rfl:=bO hB2 (FZ AA)
 refine Tr.exit (Fin.BA (Fin.BA (Fin.Bn (Fin.go (Tr.seq (Tr.seq (Tr.Bt (cm rfl (cm rfl (Ch.nil (Fin.go (Tr.block ?_))))))))))))
 refine Tr.ABG [(5,_),(74,_)] ⟨ke rfl,ke rfl,trivial⟩ (fun Ds i=>⟨_,Ds.map Cp.mark⟩) (fun Ds i=>[(75,int ((i:Nat):Int))]) (fun Ds i=>Hp M0 w0 S (AF true b1 Qp ((EF n l).map fun x=>u32 x)::AF true b2 Qp ((HK (EF n l) i).map fun x=>u32 x)::AF true b3 234 [int ((n:Nat):Int),is (KE n b1),is (KE n b2)]::AF true b4 176 [ptr b3 0]::CE::(Ds.map YW++Ai M1 w1::rs))) (fun Ds i=>i≤(n)) (fun Ds i=>(n)-i) [] 0 rfl (Nat.zero_le _) ⟨ke rfl,trivial⟩ ((by rw [HK,C9];exact fun _ _ h=>h)) ?_
 rintro Ds i UT
 refine Tr.seq (Tr.Bt (Ch.op rfl rfl Am (ki rfl rfl rfl rfl) (Ch.nil (Fin.go (Tr.seq ?_)))))
 refine Tr.cn rfl ?_ ?_<;>intro h5 q5
 have Ic:i<(n):=AH h5
 obtain ⟨x,hx⟩:=at_ (l:=EF n l) (k:=i) (by rw [C9];omega)
 refine Tr.skip (Fin.go (Tr.seq (Tr.block (Tr.seq (Tr.BE (TO.op rfl rfl Am (Cs rfl (vl rfl)) ?_))))))
 refine TO.alloc rfl rfl Am rfl z3 zo3 (fun b6=> ?_)
 refine TO.AK 0 rfl rfl rfl (vl rfl) (Vo rfl) rfl Bi rfl rfl (TO.freeze 0 10 rfl rfl (TO.nil (Fin.go (Tr.seq (Tr.pad (Tr.XU mixed [some (0,4,false,0),none,none,some (0,3,false,0),none,none,some (0,1,false,0),some (0,0,true,85)] Ak (Cx.rd 4 rfl rfl rfl Am (BT rfl Ja (vl rfl) rfl) (Cx.op rfl rfl Am (fun _=>EY rfl (vl rfl)) (Cx.op rfl rfl Am (fun _=>Aq rfl LU (vl rfl)) (Cx.rd 3 rfl rfl rfl Am (BT rfl Kg (vl rfl) rfl) (Cx.op rfl rfl Am (fun _=>Iv rfl DL rfl) (Cx.op rfl rfl Am (fun _=>BI rfl underlying232 Ff (vl rfl) (vl rfl) AA AA) (Cx.rd 1 rfl rfl rfl Am (BT rfl IZ (vl rfl) (Lh hx)) ?_)))))))))))))
 refine Cx.ef 0 rfl rfl Am (F2 rfl rfl Am rfl (gV) ⟨ke rfl,trivial⟩) ?_
 refine Cx.nil ⟨rfl,?_⟩
 refine Aw.open_ 0 85 rfl rfl (fun v1=> ?_)
 refine Aw.done (CY.cons (CY.cons (CY.cons (CY.cons (CY.cons (CY.cons (CY.map _))))))) (Fin.shape 85 (fun b=>j_ b) rfl (fun fb7 fe7=> ?_))
 subst fe7
 refine Fin.GA 0 (AF true fb7 Qp [_]) rfl rfl (Fin.go (wk5 5 10 74 75 85 rfl (Tr.block (Tr.ABF 11 [(5,_),(10,_)] ⟨ke rfl,ke rfl,trivial⟩ (fun pre=>AF true b1 Qp ((EF n l).map fun x=>u32 x)::AF true b2 Qp ((pre.foldl (IP i) (HK (EF n l) i)).map fun x=>u32 x)::AF true b3 234 [int ((n:Nat):Int),is (KE n b1),is (KE n b2)]::AF true b4 176 [ptr b3 0]::(Ds.map YW++Ai M1 w1::rs)) (Qq (s:=x)) Qr (vl rfl) ((CH (j:=5) rfl).trans (List.Perm.cons _ ((CH (j:=0) rfl).trans (List.Perm.cons _ (List.Perm.refl _))))) rfl Am ?_ ?_ ?_))))
 rintro lk Dk rk Mr wr pre y0 hpre
 refine Tr.Bt (Ch.op rfl rfl Am (Fa rfl (vl rfl)) (Ch.nil (Fin.st ⟨ke rfl,ke rfl,ke rfl,trivial⟩)))
 rintro lk Dk rk Mr wr pre y0 hpre
 have hlt:y0<n:=by
  have h_:=F_.1 (bQ hpre)
  rw [(FZ AA).2 i x hx,Bool.and_eq_true,decide_eq_true_eq] at h_
  exact h_.1
 have hal:(pre.foldl (IP i) (HK (EF n l) i)).length=n:=by rw [Oo,JE,C9]
 obtain ⟨y,hy⟩:=at_ (l:=pre.foldl (IP i) (HK (EF n l) i)) (k:=y0) AA
 refine Tr.block (Tr.XU mixed [some (0,8,false,0),none,none,some (0,7,false,0),none,none,some (0,6,false,0),none,none,none,none,some (0,6,true,0)] Ak (Cx.rd 8 rfl rfl rfl Am (BT rfl Ja (vl rfl) rfl) (Cx.op rfl rfl Am (fun _=>EY rfl (vl rfl)) (Cx.op rfl rfl Am (fun _=>Aq rfl e_ (vl rfl)) (Cx.rd 7 rfl rfl rfl Am (BT rfl Kg (vl rfl) rfl) (Cx.op rfl rfl Am (fun _=>Cs rfl (vl rfl)) (Cx.op rfl rfl Am (fun _=>BI rfl underlying232 Ff (vl rfl) (vl rfl) AA AA) (Cx.rd 6 rfl rfl rfl Am (BT rfl IZ (vl rfl) (Lh hy)) (Cx.op rfl rfl Am (fun _=>Iv rfl DL rfl) ?_)))))))))
 refine Cx.op rfl rfl Am (fun _=>JB (b:=1#32) rfl (vl rfl) (vl rfl) (Int.natCast_nonneg _)) ?_
 refine Cx.op rfl rfl Am (fun _=>Lf rfl (vl rfl) (vl rfl)) (Cx.op rfl rfl Am (fun _=>BI rfl underlying232 Ff (vl rfl) (vl rfl) AA AA) ?_)
 refine Cx.DP 6 rfl rfl (BF rfl rfl (vl rfl) (Vo rfl) Ff rfl B8 ((Sm hy).trans (congrArg (fun B:List (BitVec 32)=>B.map fun x=>u32 x) (kB hy)))) ?_
 refine Cx.nil ⟨rfl,?_⟩
 refine Aw.done (CY.cons (CY.cons (CY.cons (CY.cons (CY.cons (CY.cons (CY.cons (CY.cons (CY.cons (CY.map _)))))))))) (Fin.block (Fin.rnd () (List.Perm.refl _)))
 rintro lk Dk rk Mr wr
 refine Fin.drop 1 (Fin.drop 1 (Fin.drop 2 (Fin.K3 (List.Perm.cons _ ((List.perm_middle (l₁:=[_,_,_,_])).symm)) ?_)))
 refine Fin.K3 (List.perm_middle (l₁:=[_,_,_,_])).symm ?_
 refine Fin.block (Fin.block (Fin.go (Tr.Bt ?_)))
 refine Ch.op rfl rfl Am (Gz rfl (vl rfl) (vl rfl) ?hin) ?_;case hin=>unfold RO;omega
 refine Ch.op rfl rfl Am (Cs rfl (vl rfl)) (Ch.nil ?_)
 exact Fin.AFe (_::_) (i+1) rfl (⟨Ic,by omega⟩) ⟨⟨_,rfl,AG i⟩,ke rfl,ke rfl,trivial⟩ ((by rw [Ui hx];exact fun _ _ h=>h))
 have Oe:i=(n):=by have:=AJ h5;omega
 have ABN:=Oe.symm
 subst ABN
 refine Tr.exit (Fin.BA (Fin.BA (Fin.Bn (Fin.go (Tr.seq (Tr.eqC 0 (((EF n l).map fun x=>[u32 x]).flatten++([]:List Value).map is) rfl (Uk _) ?_))))))
 refine Tr.vT (cap:=n) (sz:=1) ((EF n l).map fun x=>[u32 x]) 0 2 1 rfl rfl AB rfl (Pr.le_of_eq (by rw [List.length_map,C9 n l])) (AW fun _=>rfl) (by rw [List.length_map,C9 n l];exact Nat.le_refl _) FV (by simp [JE,C9]) rfl ?_
 refine Tr.eqC 1 (((HK (EF n l) n).map fun x=>[u32 x]).flatten++([]:List Value).map is) rfl (Uk _) ?_
 refine Tr.vT (cap:=n) (sz:=1) ((HK (EF n l) n).map fun x=>[u32 x]) 1 2 2 rfl rfl AB rfl (Pr.le_of_eq (by rw [List.length_map,(JE _ _).trans (C9 n l)])) (AW fun _=>rfl) (by rw [List.length_map,(JE _ _).trans (C9 n l)];exact Nat.le_refl _) FV (by simp [JE,C9]) rfl ?_
 refine Tr.Bt (Ch.op rfl rfl Am (CC 3 rfl (BT rfl Ja (vl rfl) rfl)) (Ch.op rfl rfl Am (Fa rfl (vl rfl)) (Ch.nil (Fin.go (Tr.ret (Fin.freeze 2 4 rfl rfl (Fin.drop 0 (Fin.drop 0 (Fin.drop 0 (Fin.K3 List.perm_middle.symm (Fin.gS (Fin.EV rfl rfl ?_ (fun _ _ _ _=>rfl)))))))))))))
 · exact ABM ⟨Lr,Ao _ _,Ao _ _,trivial⟩
def bS (n:Int) (l:List BM):Pr:=if BD n l=0 then ref [int n,bits (EF n.toNat l),bits (HK (EF n.toNat l) n.toNat)] else is (.pointer none)
instance AFh (n:Int) (l:List BM):One (bS n l):=by
 unfold bS;split
 · exact eP _
 · exact eO _
theorem KR {n:Int} {l:List BM} {e:Int} (h:BD n l=e) (he:e≠0):Pr.le (is (.pointer none)) (bS n l):=by
 unfold bS;rw [if_neg H7];exact Pr.le_refl _
theorem Qs {n:Int} {l:List BM} (h:BD n l=0):bS n l=ref [int n,bits (EF n.toNat l),bits (HK (EF n.toNat l) n.toNat)]:=by
 unfold bS;rw [if_pos h]
theorem Li {n:Int} {l:List BM} (h:n<0∨24<n):BD n l=2:=by unfold BD;rw [if_pos h]
theorem RD {n:Int} {l:List BM} {r:BM} (h:0≤n∧n≤24) (hr:l[k]? =some r) (hb:Ft n r=true):BD n l=44:=by grind [BD]
theorem gX {n:Int} {l:List BM} (h:∀j y,j<l.length→l[j]? =some y→Ft n y=false):∀r∈l,Ft n r=false:=fun r hr=>by
 obtain ⟨j,hj⟩:=List.mem_iff_getElem?.1 hr
 exact h j r Zo hj
theorem bT {n:Int} {l:List BM} (h:∀r∈l,Ft n r=false):¬l.any (Ft n)=true:=by grind
theorem We {n:Int} {l:List BM} {a b:BM} (h:0≤n∧n≤24) (hb:∀r∈l,Ft n r=false) (hk:0<k) (ha:l[k-1]? =some a) (hx:l[k]? =some b) (hl:E5 a b=false):BD n l=6:=by
 unfold BD;rw [if_neg AA,if_neg (bT hb),if_pos]
 cases hs:EI l with
 |false=>rfl
 |true=>
  have:=Mj.1 hs (k-1) a b ha (by rw [Nat.sub_add_cancel hk];exact hx)
  rw [hl] at this;cases this
theorem Sn {l:List BM} (h:n≤24) (hb:∀r∈l,Ft n r=false) (hs:EI l=true) (hi:i<n) (hw:DU l n i i=true):BD n l=45:=by
 unfold BD;rw [if_neg AA,if_neg (bT hb),if_neg (by rw [hs];decide),if_pos (show AFW (n:Int).toNat l=true from List.any_eq_true.2 ⟨i,List.mem_range.2 AA,hw⟩)]
theorem Wf {l:List BM} (h:n≤24) (hb:∀r∈l,Ft n r=false) (hs:EI l=true) (hw:∀i,i<n→DU l n i i=false):BD n l=0:=by
 unfold BD;rw [if_neg AA,if_neg (bT hb),if_neg (by rw [hs];decide),if_neg]
 intro hc
 obtain ⟨i,hi,h2⟩:=List.any_eq_true.1 hc
 have:=hw i (by simpa using hi)
 rw [show ((n:Int)).toNat=n from rfl] at h2
 rw [this] at h2;cases h2
theorem So {l:List BM} (h:∀(j:Nat) a b,j+1<l.length→l[j]? =some a→l[j+1]? =some b→E5 a b=true):EI l=true:=Mj.2 fun j a b ha hb=>h j a b (by rcases Nat.lt_or_ge (j+1) l.length with h2|h2;exact h2;rw [List.getElem?_eq_none h2] at hb;cases hb) ha hb
theorem K4 {l:List BM} {x:BM} (hx:l[k]? =some x) (hp:∀y,0<k→l[k-1]? =some y→E5 y x=true) (h:∀(j:Nat) a b,j+1<k→l[j]? =some a→l[j+1]? =some b→E5 a b=true):∀(j:Nat) a b,j+1<k+1→l[j]? =some a→l[j+1]? =some b→E5 a b=true:=by grind
theorem Wg {n:Int} {l:List BM}  :BP prog 136 [int n,reqs l] (C_ [bS n l,int (BD n l)]) (CE) (fun _=>CE):=by
 refine BP.of func136 rfl rfl Am fun M0 w0 S rs M1 w1=> ?_
 refine Tr.CG 1 rfl fun ER=> ?_
 refine ac ?_
 refine ag ?_ ?_<;>intro h1 q1
 refine a2 ?_
 refine Tr.ret (Fin.AE (Fin.FG rfl rfl ?_ rfl ?_))
 · exact KR (Li AA) AB
 · refine int_eq ?_;exact (Li AA).symm
 refine an ?_ ?_<;>intro h2 q2
 refine ac ?_
 refine Tr.ret (Fin.AE (Fin.FG rfl rfl ?_ rfl ?_))
 · exact KR (Li AA) AB
 · refine int_eq ?_;exact (Li AA).symm
 have OB:0≤n∧n≤24:=by omega
 obtain ⟨m,hm⟩:∃m:Nat,n=(m:Int):=⟨n.toNat,by omega⟩
 refine a2 ?_
 refine Tr.block (Tr.Ax _ (kk [19,18,1,0] rfl) (fun k:Nat=>[(20,int ((k:Nat):Int))]) (fun k:Nat=>k≤(l).length∧(∀j y,j<k→l[j]? =some y→Ft n y=false)) (fun k:Nat=>(l).length-k) 0 (⟨Nat.zero_le _,fun j y hj=>absurd hj AA⟩) kz ?_)
 rintro k ⟨BJ,AQ⟩
 refine ac ?_
 refine Tr.seq ?_
 refine Tr.cn rfl ?_ ?_<;>intro h3 q3
 have AZ:k<(l).length:=AH h3
 obtain ⟨x,AX⟩:=at_ AZ
 refine ac ?_
 refine Tr.seq (Tr.block (Tr.seq (Tr.BE (tp rfl (AD rfl underlying33 DQ vq vq AA (AR AX)) (tp rfl (Ad rfl Iy DQ vq rfl rfl) ?_)))))
 refine Tl rfl rfl rfl rfl QN Ta (fun b1=> ?_)
 refine sf 0 7 ⟨rfl,rfl,rfl⟩ rfl rfl rfl rfl ?_
 refine ao ?_
 refine ag ?_ ?_<;>intro h4 q4
 refine ac ?_
 refine wk [50,20,19,18,1,0] rfl ?_
 refine ac ?_
 refine Tr.ret (Fin.AU (Fin.AE (Fin.AE (Fin.AU (Fin.AE (Fin.FG rfl rfl ?_ rfl ?_))))))
 · exact RE
 · exact RC
 refine ag ?_ ?_<;>intro h5 q5
 refine ac ?_
 refine wk [50,20,19,18,1,0] rfl ?_
 refine ac ?_
 refine Tr.ret (Fin.AU (Fin.AE (Fin.AE (Fin.AU (Fin.AE (Fin.FG rfl rfl ?_ rfl ?_))))))
 · exact RE
 · exact RC
 refine ag ?_ ?_<;>intro h6 q6
 refine ac ?_
 refine wk [50,20,19,18,1,0] rfl ?_
 refine ac ?_
 refine Tr.ret (Fin.AU (Fin.AE (Fin.AE (Fin.AU (Fin.AE (Fin.FG rfl rfl ?_ rfl ?_))))))
 · exact RE
 · exact RC
 refine ag ?_ ?_<;>intro h7 q7
 refine ac ?_
 refine wk [50,20,19,18,1,0] rfl ?_
 refine ac ?_
 refine Tr.ret (Fin.AU (Fin.AE (Fin.AE (Fin.AU (Fin.AE (Fin.FG rfl rfl ?_ rfl ?_))))))
 · exact RE
 · exact RC
 refine ac ?_
 refine wk [50,20,19,18,1,0] rfl ?_
 refine Tr.cn rfl ?_ ?_<;>intro h8 q8
 refine ac ?_
 refine Tr.ret (Fin.AU (Fin.AE (Fin.AE (Fin.AU (Fin.AE (Fin.FG rfl rfl ?_ rfl ?_))))))
 · exact RE
 · exact RC
 refine a2 ?_
 exact Fin.AM (k+1) ⟨⟨AZ,DR (p:=Ft n) AX eI AQ⟩,by omega⟩ ⟨⟨_,rfl,AG k⟩,kz⟩
 have A8:k=(l).length:=by have:=AJ h3;omega
 subst A8
 refine ac ?_
 refine Tr.seq (Tr.seq ?_)
 have hall:=gX AQ
 clear AQ
 refine ac ?_
 refine Tr.block (Tr.Ax _ (kk [53,1,0] rfl) (fun k:Nat=>[(54,int ((k:Nat):Int))]) (fun k:Nat=>k≤(l).length∧(∀(j:Nat) a b,j+1<k→l[j]? =some a→l[j+1]? =some b→E5 a b=true)) (fun k:Nat=>(l).length-k) 0 (⟨Nat.zero_le _,fun j a b hj=>absurd hj AA⟩) kz ?_)
 rintro k ⟨BJ,AQ⟩
 refine ac ?_
 refine Tr.seq ?_
 refine Tr.cn rfl ?_ ?_<;>intro h9 q9
 have AZ:k<(l).length:=AH h9
 obtain ⟨x,AX⟩:=at_ AZ
 refine a2 ?_
 refine ag ?_ ?_<;>intro h10 R9
 obtain ⟨y,hy⟩:=at_ (l:=l) (k:=k-1) AA
 refine ac ?_
 refine cy h10 rfl (AD rfl underlying33 DQ vq vq AA (RZ AA hy)) ?_
 refine ac ?_
 refine cy h10 rfl (AD rfl underlying33 DQ vq vq AA (AR AX)) (cy h10 rfl (Ad rfl Iy DQ vq rfl rfl) ?_)
 refine cy h10 rfl (Bq (bR (a:=y) (b:=x)) rfl rfl rfl) ?_
 refine ac ?_
 refine wk [71,54,53,1,0] rfl ?_
 refine Tr.cn rfl ?_ ?_<;>intro h11 Ti
 refine ac ?_
 refine Tr.ret (Fin.AU (Fin.AE (Fin.AE (Fin.AU (Fin.AE (Fin.FG rfl rfl ?_ rfl ?_))))))
 · exact KR (We OB hall AA hy AX (by have h_:=Wd (a:=y) (b:=x);simp_all)) AB
 · refine int_eq ?_;exact (We OB hall AA hy AX (by have h_:=Wd (a:=y) (b:=x);simp_all)).symm
 refine a2 ?_
 exact Fin.AM (k+1) ⟨⟨AZ,K4 AX (by intro y2 hk2 hy2;rw [hy] at hy2;cases hy2;have h_:=Wd (a:=y) (b:=x);simp_all) AQ⟩,by omega⟩ ⟨⟨_,rfl,AG k⟩,kz⟩
 refine ac ?_
 refine wk [71,54,53,1,0] rfl ?_
 refine a2 ?_
 exact Fin.AM (k+1) ⟨⟨AZ,K4 AX (by intro y2 hk2 hy2;omega) AQ⟩,by omega⟩ ⟨⟨_,rfl,AG k⟩,kz⟩
 have A8:k=(l).length:=by have:=AJ h9;omega
 subst A8
 refine ac ?_
 refine Tr.seq ?_
 have xM:=So AQ
 subst hm
 refine ao ?_
 refine TO.F0 0 rfl rfl AB (Ae rfl rfl AB rfl (kC (n:=m) AA hall) ⟨kq,kz⟩) ?_
 refine ao ?_
 refine Tr.seq (Tr.seq ?_)
 have Xj:=C9 m l
 refine ac ?_
 refine wk [81,80,79,9] rfl (Tr.block (Tr.Ax _ (kk [80,79,9] rfl) (fun i:Nat=>[(81,int ((i:Nat):Int))]) (fun i:Nat=>i≤(EF m l).length∧(∀j,j<i→DU l m j j=false)) (fun i:Nat=>(EF m l).length-i) 0 (⟨Nat.zero_le _,fun j hj=>absurd hj AA⟩) kz ?_))
 rintro i ⟨UT,FD⟩
 refine ac ?_
 refine Tr.seq ?_
 refine Tr.cn rfl ?_ ?_<;>intro h12 X0
 have Ic:i<(EF m l).length:=AH h12
 obtain ⟨x,JM⟩:=at_ Ic
 refine a2 ?_
 refine co rfl (AD rfl underlying232 Ff vq vq AA (Nu JM)) ?_
 refine a2 ?_
 refine co rfl (Bq (Wc) rfl rfl rfl) ?_
 refine an ?_ ?_<;>intro OQ fO
 refine ac ?_
 refine wk [5,4] rfl (Tr.ret (Fin.AU (Fin.AE (Fin.AE (Fin.AU (Fin.AE (Fin.FG rfl rfl ?_ rfl ?_)))))))
 · exact KR (Sn AA hall xM (i:=i) AA dW) AB
 · refine int_eq ?_;exact (Sn AA hall xM (i:=i) AA dW).symm
 refine a2 ?_
 exact Fin.AM (i+1) ⟨⟨Ic,(fun j hj=>by rcases Nat.lt_or_ge j i with h_|h_;exact FD j h_;(obtain rfl:j=i:=by omega);have h_:=(FZ (l:=l) (show m≤32 by omega)).2 j x JM j;simp_all;done)⟩,by omega⟩ ⟨⟨_,rfl,AG i⟩,kz⟩
 have Oe:i=(EF m l).length:=by have:=AJ h12;omega
 rw [C9] at Oe
 subst Oe
 refine a2 ?_
 refine Tr.ret (Fin.FG rfl rfl ?_ rfl ?_)
 · rw [Qs (Wf AA hall xM FD)];exact Lr
 · refine int_eq ?_;exact (Wf AA hall xM FD).symm
theorem rZ {s:BitVec 32} (hB:B.length=n) (hn:n≤24):A0 prog 153 [ref [int ((n:Nat):Int),bits B,p],u32 s] (u32 (Ml B s n)):=by
 refine fo func153 rfl ⟨rfl,rfl⟩ fun M0 w0=> ?_
 refine a3 ?_
 refine Tr.block (Tr.Ax _ (kk [10,1,0] rfl) (fun k:Nat=>[(11,int ((k:Nat):Int)),(5,u32 (Ml B s k))]) (fun k:Nat=>k≤n) (fun k:Nat=>n-k) 0 (Nat.zero_le _) ⟨kq,⟨_,rfl,Mz⟩,trivial⟩ ?_)
 rintro k hk0
 refine ac ?_
 refine Tr.seq ?_
 refine Tr.cn rfl ?_ ?_<;>intro h1 q1
 have hk:k<n:=AH h1
 obtain ⟨x,hx⟩:=at_ (l:=B) (k:=k) AA
 · repeat' first|exact Fin.AM (k+1) ⟨by omega,by omega⟩ ⟨⟨_,rfl,AG k⟩,⟨_,rfl,Pr.le_of_eq (congrArg u32 (rX hx Bp Bp).symm)⟩,kz⟩|exact Fin.AM (k+1) ⟨by omega,by omega⟩ ⟨⟨_,rfl,AG k⟩,⟨_,rfl,Pr.le_of_eq (congrArg u32 (xJ hx Bp).symm)⟩,kz⟩|refine co rfl (Bq (Wc (b:=s) (i:=k)) rfl rfl rfl) ?_|refine cy h rfl (AD rfl underlying232 Ff vq vq AA (Nu hx)) ?_|refine cy h rfl (K1 rfl vq vq) (cy h rfl (bH rfl vq vq) ?_)|refine co rfl (JB (b:=1#32) rfl vq vq (Int.natCast_nonneg _)) ?_|refine co rfl (Lf rfl vq vq) ?_|refine ac ?_|(refine Tr.cn rfl ?_ ?_<;>intro h q)|(refine Ch.cg rfl rfl rfl ?_ ?_<;>intro h q)
 obtain rfl:k=n:=by have:=AJ h1;omega
 refine a3 ?_
 · exact Lr
end Go.Proofs.YtmocaapoeefgkaaGreatDoor
namespace Cp
open Go Go.RowKit Go.Great
variable {a:Act} {M:Av} {f:FuncId} {rows:List (List Pr)} {args ps qs:List Pr} {b i j m:Nat} {p q:Pr} {P:Program} {T e t:TypeId} {v:Value}
section
variable {P:Program} {L:Lg P} {n:Fm} {fz:Nat} {E:Env} {M0:Av} {w0:World} {S:Nat→Prop} {o:Oper}
def rj (T:TypeId) (u v:Value):At:=match v with| .pointer (some a)=>AF true a.block T (u.cells.toList.map is)|_=>Bf
theorem gY {d s:Nat} {R:SR} {p1:Pr} {p:Value→Pr} {R':Value→Value→At} (hd:o.dst=some d) (hs:d≠s) (hq:∀v,Pr.le (p v) q) (hg:o.guard=none) (h1:E.lookup s=some p1) (hls:s∈looks o) (h:∀v,DH P M0 w0 S n j R ⟨d,R' v⟩ o ((s,AV v p1)::E) (p v)):DH P M0 w0 S n j R ⟨.two d s,Ug R'⟩ o E q:=by
 refine ⟨hg,fun M w a rs hsz he hI hj=> ?_⟩
 refine EB.conv (hq _) (fun v=> ?_) ((h (a.tmps.getD s undef)).2 M w a rs hsz (FX he s (he s p1 hls h1)) hI hj)
 rw [Nt,hd,BW (Ne.symm hs)];rfl
theorem Oq {s y:Tmp} (hg:o.guard=none) (hd:o.dst=none) (ho:o.op= .store t (.tmp s) (.tmp y)) (hsy:s≠y) (hx:E.lookup s=some (Cp.ex fun b=>ptr b 0)) (hy:E.lookup y=some p) (hp:Pr.le p (DA qs)) (hz:A9 P t=some m) (hm:qs.length=m) (hl:ps.length=m):DH P M0 w0 S n j ⟨s,E2 T ps⟩ ⟨.two s y,Ug fun u v=>rj T u v⟩ o E any:=by
 refine ⟨hg,fun M w a rs hsz he hI hj=> ?_⟩
 have hyl:y∈looks o:=JD (op:= .store t (.tmp s) (.tmp y)) M_ ho
 have hpy:=hp _ _ _ (he y p hyl hy)
 have hle:Pr.le (AV (a.tmps.getD y undef) (DA qs)) (DA ((a.tmps.getD y undef).cells.toList.map is)):=fun M w v h=>by
  obtain ⟨rfl,h2⟩:=h
  obtain ⟨g1,g2⟩:=h2
  exact ⟨KV _ _ _,g2⟩
 have h:=(CZ (P:=P) (M0:=M0) (w0:=w0) (S:=S) (n:=n) (j:=j) (T:=T) (ps:=ps) (qs:=(a.tmps.getD y undef).cells.toList.map is) (E:=(y,AV (a.tmps.getD y undef) (DA qs))::E) hg hd ho dU ⟨_,List.lookup_cons_self,hle⟩ hz (by have:=hpy.1.length;rw [List.length_map];omega) hl).2 M w a rs hsz (FX he y hpy) hI hj
 refine EB.conv (Pr.le_refl _) (fun v=> ?_) h
 rw [Nt,hd];rfl
end
section
variable {P:Program} {L:Lg P} {n:Fm} {fz:Nat} {E:Env} {M0:Av} {w0:World} {S:Nat→Prop} {rs:List At} {Q:Exit→Act→World→Prop}
theorem YX {M:Av} {w:World}:∀{zs cs:List Value},HL M w (zs.map is) cs→cs=zs
 |[],[],_=>rfl
 |[],_::_,h=>h.elim
 |_::_,[],h=>h.elim
 |z::zs,c::cs,h=>by
  obtain ⟨h1,h2⟩:=h
  rw [YX h2,show c=z from h1]
theorem Fin.Nv {e:Exit} {u:Value} (i j:Nat) (hi:rs[i]? =some (K2 (agg ps) u)) (hj:rs[j]? =some (rj T u (.pointer (some ⟨b,0,none⟩)))) (k:Fin n E (Hp M0 w0 S (rs.set j (AF true b T ps))) Q e):Fin n E (Hp M0 w0 S rs) Q e:=by
 rintro a w ⟨M,h1,h2,h3,h4⟩
 have h4:A7 M0 w0 S rs M w:=h4
 refine k a w ⟨M,h1,h2,h3,A7.Ce h4 hj rfl rfl ?_⟩
 obtain ⟨cs,rfl,_,hcs⟩:=(h4.hold _ (List.mem_of_getElem? hi)).1
 obtain ⟨g0,cs',g1,g2,g3⟩:=(h4.hold _ (List.mem_of_getElem? hj)).1
 have e1:cs'=cs:=by
  have:=YX g2
  rw [this];show cs.toArray.toList=cs;simp
 subst e1
 exact ⟨g0,cs',g1,hcs,g3⟩
end
section
variable {P:Program}
theorem BP.xN {res:Pr} {r:At} (h:BP P f args res r (fun _=>r)) (hb:r.blk=none) (W:World) (vs:List Value) (hr:r.h eY W) (hv:HL eY W args vs):
  Calls P f vs.toArray W fun e w'=>∃v,e= .returned v∧res.h eY w' v∧Below W.heap.size W w':=by
 refine (h.2 eY W FO [] eY W vs ((A7.begin (ze W)).Im (r:=r) hb hr) hv).mono ?_
 rintro e w' ⟨v,M',rfl,h2,h3,h4⟩
 exact ⟨v,rfl,res.st _ _ _ _ _ (Ext.less h4.m) h2,h4.below⟩
end
section
variable {P:Program} {n:Fm} {E:Env} {M0:Av} {w0:World} {S:Nat→Prop} {rs:List At} {Q:Exit→Act→World→Prop} {p0 p1:Pr} {R:Value→At}
end
section
variable {P:Program} {L:Lg P} {n:Fm} {E:Env} {M0:Av} {w0:World} {S:Nat→Prop} {rs:List At} {Q:Exit→Act→World→Prop} {c:Code}
theorem Tr.AFi {sz:Nat} (s:Nat) (hs:E.lookup s=some p) (hp:Pr.le p (full sz rows)) (k:∀v,Tr L n ((s,AV v (slice sz rows))::E) (Hp M0 w0 S (As e sz v::rs)) c Q):Tr L n E (Hp M0 w0 S rs) c Q:=by
 intro a w hst
 obtain ⟨M,k1,k2,k3,k4⟩:=hst
 have k4:A7 M0 w0 S rs M w:=k4
 obtain ⟨h1,A,h2⟩:=hp _ _ _ (k3 s p hs)
 refine k (a.tmps.getD s undef) a w ⟨M,k1,k2,fun t q hq=> ?_,A7.Im k4 ?_ ?_⟩
 ·
  simp only [List.lookup] at hq
  split at hq
  ·
   rename_i e1
   have:t=s:=by simpa using e1
   subst this
   simp only [Option.some.injEq] at hq
   subst hq
   exact ⟨rfl,h1⟩
  · exact k3 t q hq
 ·
  rw [h2]
  show Dx _=none
  cases A with
  |none=>rfl
  |some x=>simp [Dx]
 ·
  intro b m d hv hlt
  rw [h2] at hv
  cases hv
  exact absurd hlt (Nat.lt_irrefl _)
variable {ε:Type}
theorem gZ {f:ε→At}:∀{X:List ε} {k:Nat} {x:ε},X[k]? =some x→(Hv (fun x=>[f x]) X)[k]? =some (f x)
 |[],_,_,h=>by simp at h
 |a::X,0,x,h=>by simp at h;subst h;rfl
 |a::X,k+1,x,h=>by
  show (Hv (fun x=>[f x]) X)[k]? =_
  exact gZ EJ
theorem Fin.fold {x:Exit} {res:ε→List At} (Cz:List At) {es:List ε} (y:ε) (Po:rs=res y++(Cz++Hv res es)) (k:Fin n E (Hp M0 w0 S (Cz++Hv res (es++[y]))) Q x):Fin n E (Hp M0 w0 S rs) Q x:=
 Fin.K3 (by
  subst Po
  rw [Xq,←List.append_assoc Cz]
  exact List.perm_append_comm) k
theorem Tr.xO {f:ε→Value} {g:ε→Pr} {X:List ε} (j s:Nat) (hj:rs[j]? =some (rF f g X)) (hs:E.lookup s=some p) (hp:Pr.le p (slice 1 (X.map fun x=>[is (f x)]))) (k:Tr L n ((s,slice 1 (X.map fun x=>[g x]))::E) (Hp M0 w0 S rs) c Q):Tr L n E (Hp M0 w0 S rs) c Q:=by
 intro a w ha
 obtain ⟨M,k1,k2,k3,k4⟩:=ha
 have k4:A7 M0 w0 S rs M w:=k4
 refine k a w ⟨M,k1,k2,fun t q hq=> ?_,k4⟩
 simp only [List.lookup] at hq
 split at hq
 ·
  rename_i e1
  have:t=s:=by simpa using e1
  subst this
  simp only [Option.some.injEq] at hq
  subst hq
  obtain ⟨ad,cap,h1,h2,h3,h4,h5⟩:=hp _ _ _ (k3 t p hs)
  have hall:=(k4.hold _ (List.mem_of_getElem? hj)).1
  refine ⟨ad,cap,by rw [h1];simp,by simpa using h2,h3,h4,fun i row hr=> ?_⟩
  rw [List.getElem?_map] at hr
  cases hx:X[i]? with
  |none=>rw [hx] at hr;cases hr
  |some x=>
   rw [hx] at hr
   simp only [Option.map_some,Option.some.injEq] at hr
   subst hr
   obtain ⟨_,ad2,h6,h7⟩:=h5 i [is (f x)] VW
   refine ⟨rfl,ad2,h6,fun q r hr=> ?_⟩
   cases q with
   |zero=>
    simp only [List.getElem?_cons_zero,Option.some.injEq] at hr
    subst hr
    obtain ⟨u,h8,h9,h10,h11⟩:=h7 0 _ rfl
    have hu:u=f x:=h11
    exact ⟨u,h8,h9,h10,by rw [hu];exact hall x (List.mem_of_getElem? hx)⟩
   |succ q=>simp at hr
 · exact k3 t q hq
abbrev Hs (e:TypeId) (x:Nat×List Bool):List At:=[AF true x.1 e (x.2.map fun b=>bool b)]
theorem ru {n:Nat}:(List.replicate n (Value.bool false)).map is=(List.replicate n false).map fun b=>bool b:=by rw [List.map_replicate,List.map_replicate]
theorem Tr.xP {X:List (Nat×List Bool)} (Cz:List At) (s:Nat) (Po:rs=Cz++Hv (Hs e) X) (hm:m≤maxLen) (hX:∀x∈X,x.2.length=m) (hs:E.lookup s=some p) (hp:Pr.le p (slice 1 (X.map fun x=>[is (KE m x.1)]))) (k:Tr L n ((s,slice 1 (X.map fun x=>[slice 1 (x.2.map fun b=>[bool b])]))::E) (Hp M0 w0 S (rF (fun x:Nat×List Bool=>KE m x.1) (fun x=>slice 1 (x.2.map fun b=>[bool b])) X::Cz)) c Q):Tr L n E (Hp M0 w0 S rs) c Q:=by
 subst Po
 intro a w hst
 obtain ⟨M,k1,k2,k3,k4⟩:=hst
 have k4:A7 M0 w0 S (Cz++Hv (Hs e) X) M w:=k4
 obtain ⟨M1,g1,g2,g3⟩:=A7.V7 (w:=w) (Φ:=fun (x:Nat×List Bool) M w=>Row M w ⟨x.1,0,none⟩ 0 (x.2.map fun b=>bool b)) (fun x M M' he h=>Row.st he h) (fun x rs M h=>by
  obtain ⟨M',h1,h2,h3⟩:=A7.QM h
  exact ⟨M',h2,h1,h3⟩) X _ M k4
 refine Tr.xO (f:=fun x:Nat×List Bool=>KE m x.1) (g:=fun x=>slice 1 (x.2.map fun b=>[bool b])) (X:=X) 0 s rfl hs hp k a w ⟨M1,k1,k2,fun t q hq=>q.st _ _ _ _ _ g1 (k3 t q hq),A7.Im g2 rfl fun x hx=> ?_⟩
 have hl:=hX x hx
 refine ⟨some ⟨x.1,0,none⟩,m,by rw [List.length_map,hl],by rw [List.length_map,hl];exact Nat.le_refl _,hm,(fun h=>nomatch h),fun i row hr=> ?_⟩
 rw [List.getElem?_map] at hr
 cases hb:x.2[i]? with
 |none=>rw [hb] at hr;cases hr
 |some b=>
  rw [hb] at hr
  simp only [Option.map_some,Option.some.injEq] at hr
  subst hr
  refine ⟨rfl,_,rfl,fun q r hq=> ?_⟩
  cases q with
  |zero=>
   simp only [List.getElem?_cons_zero,Option.some.injEq] at hq
   subst hq
   have:=g3 x hx i (bool b) (by rw [List.getElem?_map,hb];rfl)
   simpa using this
  |succ q=>simp at hq
end
theorem zG (h:i≤m) (hm:m≤40):1≤2 ^ i∧2 ^ i≤2 ^ m∧2 ^ m≤1099511627776:=
 ⟨Nat.one_le_two_pow,Nat.pow_le_pow_right AA h,Nat.le_trans (Nat.pow_le_pow_right (n:=2) AA hm) AB⟩
section
variable {P:Program} {I:C1} {o:Oper} {E:Env}
theorem ga {u:TypeId} {x y:Operand} {i:Int} (ho:o.op= .binOp .shl t x y u) (hx:VL E x (int 1)) (hy:VL E y (int i)) (h0:0≤i) (h40:i≤40):Ac P I o E (int ((2 ^ i.toNat:Nat):Int)):=
 Ac.same fun M w a he _=>by
  have h1:a.eval x= .int .i64 1:=hx.ev he Au
  have h2:a.eval y= .int .i64 i:=hy.ev he Au
  have hn:¬i<0:=by omega
  have hmin:min i.toNat 64=i.toNat:=by omega
  have e:((2 ^ i.toNat:Nat):Int)=(2:Int) ^ i.toNat:=Int.natCast_pow 2 i.toNat
  obtain ⟨Te,hp2,hp3⟩:=zG (i:=i.toNat) (m:=i.toNat) (Nat.le_refl _) AA
  have hw:IntKind.i64.wrap (2 ^ i.toNat)=2 ^ i.toNat:=by rw [←e];exact HG NA
  refine ⟨.int .i64 (IntKind.i64.wrap (1*2 ^ (min i.toNat IntKind.i64.bits))),?_,?_⟩
  ·
   simp only [execOp,ho,h1,h2]
   simp [eqGuard,binOp,Op.shift,hn]
   try rw [show min i.toNat IntKind.i64.bits=i.toNat from hmin]
  ·
   show Value.int _ _=Value.int _ _
   rw [show min i.toNat IntKind.i64.bits=i.toNat from hmin,Int.one_mul,hw,e]
theorem ABO {u:TypeId} {x y:Operand} {a:Nat} (ho:o.op= .binOp .or t x y u) (hx:VL E x (int (a:Int))) (hy:VL E y (int (b:Int))) (ha:a<2 ^ m) (hb:b<2 ^ m) (hm:m≤40):Ac P I o E (int ((a|||b:Nat):Int)):=
 Ac.same fun M w c he _=>by
  have h1:c.eval x= .int .i64 a:=hx.ev he Au
  have h2:c.eval y= .int .i64 b:=hy.ev he Au
  obtain ⟨_,_,hp3⟩:=zG (i:=m) (m:=m) (Nat.le_refl _) hm
  have hab:a|||b<2 ^ m:=Nat.or_lt_two_pow ha hb
  have ea:(BitVec.ofInt 64 (a:Int)).toNat=a:=by rw [BitVec.toNat_ofInt];omega
  have eb:(BitVec.ofInt 64 (b:Int)).toNat=b:=by rw [BitVec.toNat_ofInt];omega
  have er:(BitVec.ofInt 64 (a:Int)|||BitVec.ofInt 64 (b:Int)).toNat=a|||b:=by rw [BitVec.toNat_or,ea,eb]
  refine ⟨_,by simp [execOp,ho,h1,h2,eqGuard,binOp,Op.intBits];rfl,?_⟩
  show Value.int _ _=Value.int _ _
  congr 1
  show IntKind.i64.wrap (((BitVec.ofInt 64 (a:Int)|||BitVec.ofInt 64 (b:Int)).toNat:Nat):Int)=_
  rw [er]
  exact HG NA
end
section
variable {P:Program} {fz:Nat} {E:Env} {M0:Av} {w0:World} {rs:List At} {g:Func}
theorem results4 {r r' r'' r3:ResultVar} {w:World} {v' v'' v3:Value} (hr:g.results= #[r,r',r'',r3]) (h:(HY r a).run P w= .ok v w) (h':(HY r' a).run P w= .ok v' w) (h'':(HY r'' a).run P w= .ok v'' w) (h3:(HY r3 a).run P w= .ok v3 w):(results g a.tmps).run P w= .ok (.tuple #[v,v',v'',v3]) w:=by
 rw [HZ,hr];simp [Sem.run_bind,h,h',h'',h3]
theorem Fin.PZ {r r' r'' r3:ResultVar} {q' nC q3:Pr} (hr:g.results= #[r,r',r'',r3]) (h:AL P E rs r q) (h':AL P E rs r' q') (h'':AL P E rs r'' nC) (h3:AL P E rs r3 q3) (hl:Pr.le (C_ [q,q',nC,q3]) p):Fin ⟨fz,[]⟩ E (Hp M0 w0 FO rs) (bodyPost P g (TS M0 w0 p)) .ret:=by
 rintro a w ⟨M,_,hd,he,hi⟩
 obtain ⟨v,hv,hp⟩:=h M w a he (fun q hq=>(hi.hold q hq).1)
 obtain ⟨v',nR,hp'⟩:=h' M w a he (fun q hq=>(hi.hold q hq).1)
 obtain ⟨v'',nS,nT⟩:=h'' M w a he (fun q hq=>(hi.hold q hq).1)
 obtain ⟨v3,hv3,hp3⟩:=h3 M w a he (fun q hq=>(hi.hold q hq).1)
 obtain ⟨h1,h2⟩:=Bv.EU M0 w0 M w hi
 exact ⟨hd,_,results4 hr hv nR nS hv3,_,rfl,p.st _ _ _ _ _ (Ext.less h1) (hl _ _ _ ⟨[_,_,_,_],rfl,hp,hp',nT,hp3,trivial⟩),h2⟩
end
def bU {β:Type} (b:Nat) (e:TypeId) (f:β→List Pr) (φ:β→Prop):At where
 blk:=some b
 new:=true
 h M w:=∃x:β,φ x∧(AF true b e (f x)).h M w
 st M w M' w' he hk h:=let ⟨x,h1,h2⟩:=h;⟨x,h1,(AF true b e (f x)).st M w M' w' he hk h2⟩
def Wh {β:Type} (T:TypeId) (f:β→List Pr) (φ:β→Prop) (v:Value):At:=match v with| .pointer (some a)=>bU a.block T f φ|_=>Bf
section
variable {P:Program} {L:Lg P} {n:Fm} {E:Env} {M0:Av} {w0:World} {S:Nat→Prop} {rs:List At} {o:Oper} {β:Type} {f:β→List Pr} {φ:β→Prop}
theorem Fin.gb {Q:Exit→Act→World→Prop} {x:Exit} (j:Nat) (hj:rs[j]? =some (bU b e f φ)) (k:∀z,φ z→Fin n E (Hp M0 w0 S (rs.set j (AF true b e (f z)))) Q x):Fin n E (Hp M0 w0 S rs) Q x:=by
 intro a w h
 obtain ⟨M,h1,h2,h3,h4⟩:=h
 have h4:A7 M0 w0 S rs M w:=h4
 obtain ⟨z,hp,h8⟩:=(h4.hold _ (List.mem_of_getElem? hj)).1
 exact k z hp a w ⟨M,h1,h2,h3,h4.Ce hj rfl rfl h8⟩
theorem EB.wk {w:World} {R1 R2:SR} {rs:List At} {r:Result Next} (hjl:j<rs.length) (hd:o.dst=none) (hb:(R2.at_ a).blk=(R1.at_ a).blk) (hn:(R2.at_ a).new=(R1.at_ a).new) (hh:∀M w,(R1.at_ a).h M w→(R2.at_ a).h M w) (h:EB P M0 w0 S o a M w p j R1 rs r):EB P M0 w0 S o a M w p j R2 rs r:=by
 have key:∀v M' w',A7 M0 w0 S (rs.set j (R1.at_ (a.put o.dst v))) M' w'→A7 M0 w0 S (rs.set j (R2.at_ (a.put o.dst v))) M' w':=by
  intro v M' w' hI
  rw [hd] at hI ⊢
  have hI:A7 M0 w0 S (rs.set j (R1.at_ a)) M' w':=hI
  have h1:(rs.set j (R1.at_ a))[j]? =some (R1.at_ a):=by rw [List.getElem?_set_self hjl]
  have:=hI.Ce (r':=R2.at_ a) h1 hb hn (hh _ _ (hI.hold _ (List.mem_of_getElem? h1)).1)
  rw [List.set_set] at this
  exact this
 cases r with
 |halt x w'=>exact h
 |ok x w'=>
  cases x
  case value v=>obtain ⟨M',g1,g2,g3⟩:=h;exact ⟨M',g1,g2,key _ _ _ g3⟩
  case skip=>obtain ⟨M',g1,g2,g3⟩:=h;exact ⟨M',g1,g2,key _ _ _ g3⟩
  case enter f args=>
   refine Calls.mono h ?_
   rintro e w'' ⟨v,M',g0,g1,g2,g3⟩
   exact ⟨v,M',g0,g1,g2,key _ _ _ g3⟩
  all_goals exact h
theorem Lj {s y:Tmp} (hg:o.guard=none) (hd:o.dst=none) (ho:o.op= .store t (.tmp s) (.tmp y)) (hsy:s≠y) (hx:E.lookup s=some (Cp.ex fun b=>ptr b 0)) (hy:E.lookup y=some (Cp.ex fun z:β=>fact (φ z) (agg (f z)))) (hz:A9 P t=some m) (hm:∀z,(f z).length=m) (hl:ps.length=m):DH P M0 w0 S n j ⟨s,E2 T ps⟩ ⟨s,Wh T f φ⟩ o E any:=by
 have hlk:y∈looks o:=JD (op:= .store t (.tmp s) (.tmp y)) M_ ho
 refine DH.LR y hg hy hlk fun z=>DH.opf y hg (by simp [List.lookup];rfl) hlk fun hφ=> ?_
 have hx':List.lookup s ((y,agg (f z))::(y,fact (φ z) (agg (f z)))::E)=some (Cp.ex fun b=>ptr b 0):=by
  have:(s==y)=false:=by simpa using hsy
  simp only [List.lookup,this];exact hx
 have h:=CZ (P:=P) (M0:=M0) (w0:=w0) (S:=S) (n:=n) (j:=j) (T:=T) (ps:=ps) (qs:=f z) (E:=(y,agg (f z))::(y,fact (φ z) (agg (f z)))::E) hg hd ho hx' ⟨agg (f z),by simp [DV,List.lookup],AY _⟩ hz (hm z) hl
 refine ⟨hg,fun M w a rs hsz he hI hj=> ?_⟩
 have hjl:j<rs.length:=by rcases Nat.lt_or_ge j rs.length with h'|h';exact h';rw [List.getElem?_eq_none h'] at hj;cases hj
 have hv:∃b,a.tmps.getD s undef= .pointer (some ⟨b,0,none⟩):=by
  have hxv:VL ((y,agg (f z))::(y,fact (φ z) (agg (f z)))::E) (.tmp s) (Cp.ex fun b=>ptr b 0):=⟨_,hx',Pr.le_refl _⟩
  exact hxv.ev he (show (Operand.tmp s)∈o.op.operands.toList by simp [ho,Op.operands])
 obtain ⟨b,hv⟩:=hv
 have e1:SR.at_ a ⟨s,E2 T (f z)⟩=AF true b T (f z):=by show E2 T (f z) (a.tmps.getD s undef)=_;rw [hv];rfl
 have e2:SR.at_ a ⟨s,Wh T f φ⟩=bU b T f φ:=by show Wh T f φ (a.tmps.getD s undef)=_;rw [hv];rfl
 refine EB.wk hjl hd ?_ ?_ ?_ (h.2 M w a rs hsz he hI hj)
 · rw [e1,e2];rfl
 · rw [e1,e2];rfl
 · rw [e1,e2];exact fun M w h=>⟨z,hφ,h⟩
end
theorem A0.ry {α:Type} {φ:α→Prop} {p:α→Pr} {res:Pr} (pre:List Pr) {post:List Pr} (q:α) (hq:φ q) (h:∀z,φ z→A0 P f (pre++p z::post) res):A0 P f (pre++(Cp.ex fun z=>fact (φ z) (p z))::post) res:=by
 refine ⟨(h q hq).1,fun M w vs hb hv=> ?_⟩
 have key:∀(pre:List Pr) (vs:List Value),HL M w (pre++(Cp.ex fun z=>fact (φ z) (p z))::post) vs→∃z,φ z∧HL M w (pre++p z::post) vs:=by
  intro pre
  induction pre with
  |nil=>
   intro vs hv
   match vs,hv with
   |u::us,⟨⟨z,hz,h1⟩,h2⟩=>exact ⟨z,hz,h1,h2⟩
  |cons a pre ih=>
   intro vs hv
   match vs,hv with
   |u::us,⟨h1,h2⟩=>
    obtain ⟨z,hz,h3⟩:=ih us h2
    exact ⟨z,hz,h1,h3⟩
 obtain ⟨z,hz,h2⟩:=key pre vs hv
 exact (h z hz).2 M w vs hb h2
section
variable {P:Program} {L:Lg P} {n:Fm} {fz:Nat} {E:Env} {I:C1} {M0:Av} {w0:World} {S:Nat→Prop} {rs:List At} {Q:Exit→Act→World→Prop} {c:Code}
theorem Tr.rz {α β:Type} {p gf:Nat} {g:Operand} {lb:Array Value} {enc:α→Value} {xs:List α} {own:List α→List At} {assign body:Code} (q:Nat) (K:Env) (hK:Co E K) (R RX:List α→β→List At) (d0:β)
  (hIt:Ns P gf lb enc xs own) (eg:Entry P gf) (hg:VL E g (is (.func (.func gf) #[] lb))) (Po:rs.Perm (own []++R [] d0)) (hp:K.lookup p=none) (hpn:p<n.sz)
  (hassign:∀l D rec M1 w1 pre x d,(pre++[x])<+:xs→Tr (gM P (some l)) ⟨n.sz,[]⟩ ((p,is (enc x))::K) (Hp M0 w0 S (own (pre++[x])++GV l D rec M1 w1 (R pre d))) assign (Exit.then (St ⟨n.sz,[]⟩ ((q,is (enc x))::K) (Hp M0 w0 S (own (pre++[x])++GV l D rec M1 w1 (R pre d)))) (fun _ _ _=>False)))
  (hbody : ∀ l D rec M1 w1 pre x d, (pre ++ [x]) <+: xs → Tr (gM P (some l)) ⟨n.sz, []⟩ ((q, is (enc x)) :: K) (Hp M0 w0 S (own (pre ++ [x]) ++ GV l D rec M1 w1 (R pre d))) body
   (Jo M0 w0 S (fun d:β=>own (pre++[x])++GV l D rec M1 w1 (R (pre++[x]) d)) (fun c d=>own (pre++[x])++GV l D rec M1 w1 (CT (c= .ret)::RX (pre++[x]) d))))
  (hdone:∀l D rec M1 w1 d,Fin ⟨n.sz,mark D::n.df⟩ E (Hp M0 w0 S (own xs++GV l D rec M1 w1 (R xs d))) Q .normal)
  (hstop:∀l D rec M1 w1 pre d,pre<+:xs→Fin ⟨n.sz,mark D::n.df⟩ E (Hp M0 w0 S (own pre++GV l D rec M1 w1 (RX pre d))) Q .ret):
  Tr (ZK P) n E (Hp M0 w0 S rs) (.rangeFunc g #[p] assign body) Q:=by
 refine Tr.rD (fun x=>(q,is (enc x))::K) R (fun c pre d=>CT (c= .ret)::RX pre d) d0 hIt (fun args w=>DD eg args w) hg Po ?_ ?_ hdone ?_
 ·
  intro l D rec M1 w1 pre x d hpre a hsz hE M w hI
  have hx:Ext M1 w1 M w:=(hI.hold (Ai M1 w1) AO).1
  refine hassign l D rec M1 w1 pre x d hpre _ w ⟨M,by simpa using hsz,rfl,fun s z hq=> ?_,hI⟩
  simp only [List.lookup] at hq
  by_cases hs:s=p
  ·
   subst hs
   simp only [beq_self_eq_true,Option.some.injEq] at hq
   subst hq
   show (a.tmps.setIfInBounds s (enc x)).getD s undef=enc x
   simp [Array.getD_eq_getD_getElem?,hsz,hpn]
  ·
   rw [show (s==p)=false by simpa using hs] at hq
   obtain ⟨z',Ex,JN⟩:=hK.spec s z hq
   have h2:=z.st _ _ _ _ _ hx (JN _ _ _ (hE s z' Ex))
   show z.h M w ((a.tmps.setIfInBounds p (enc x)).getD s undef)
   have e1:(a.tmps.setIfInBounds p (enc x)).getD s undef=a.tmps.getD s undef:=by
    simp only [Array.getD_eq_getD_getElem?]
    rw [Array.getElem?_setIfInBounds_ne (fun e=>hs e.symm)]
   rw [e1];exact h2
 ·
  intro l D rec M1 w1 pre x d hpre
  exact hbody l D rec M1 w1 pre x d hpre
 ·
  intro l D rec M1 w1 c pre d hpre a w ⟨M,h1,h2,h3,h⟩
  have h:A7 M0 w0 S (own pre++GV l D rec M1 w1 (CT (c= .ret)::RX pre d)) M w:=h
  have hc:c= .ret:=(h.hold (CT (c= .ret)) AO).1
  subst hc
  have h5:A7 M0 w0 S (CT (Code.ret= .ret)::(own pre++GV l D rec M1 w1 (RX pre d))) M w:=by
   refine A7.perm ?_ h
   have:=List.perm_middle (a:=CT (Code.ret= .ret)) (l₁:=own pre++[BN l rec,BN D (.deferred (some [])),Ai M1 w1]) (l₂:=RX pre d)
   simpa [GV] using this
  exact Tr.ret (hstop l D rec M1 w1 pre d hpre) a w ⟨M,h1,h2,h3,A7.J0 h5⟩
theorem Tr.bD {α β:Type} {p gf:Nat} {g:Operand} {lb:Array Value} {enc:α→Value} {xs:List α} {own:List α→List At} {assign body:Code} (q:Nat) (K:Env) (hK:Co E K) (R:List α→β→List At) (d0:β)
  (hIt:Ns P gf lb enc xs own) (eg:Entry P gf) (hg:VL E g (is (.func (.func gf) #[] lb))) (Po:rs.Perm (own []++R [] d0)) (hp:K.lookup p=none) (hpn:p<n.sz)
  (hassign:∀l D rec M1 w1 pre x d,(pre++[x])<+:xs→Tr (gM P (some l)) ⟨n.sz,[]⟩ ((p,is (enc x))::K) (Hp M0 w0 S (own (pre++[x])++GV l D rec M1 w1 (R pre d))) assign (Exit.then (St ⟨n.sz,[]⟩ ((q,is (enc x))::K) (Hp M0 w0 S (own (pre++[x])++GV l D rec M1 w1 (R pre d)))) (fun _ _ _=>False)))
  (hbody : ∀ l D rec M1 w1 pre x d, (pre ++ [x]) <+: xs → Tr (gM P (some l)) ⟨n.sz, []⟩ ((q, is (enc x)) :: K) (Hp M0 w0 S (own (pre ++ [x]) ++ GV l D rec M1 w1 (R pre d))) body
   (Jo M0 w0 S (fun d:β=>own (pre++[x])++GV l D rec M1 w1 (R (pre++[x]) d)) (fun c _=>own (pre++[x])++GV l D rec M1 w1 [CT (c= .ret),CT False])))
  (hdone:∀l D rec M1 w1 d,Fin ⟨n.sz,mark D::n.df⟩ E (Hp M0 w0 S (own xs++GV l D rec M1 w1 (R xs d))) Q .normal):
  Tr (ZK P) n E (Hp M0 w0 S rs) (.rangeFunc g #[p] assign body) Q:=
 Tr.rz q K hK R (fun _ _=>[CT False]) d0 hIt eg hg Po hp hpn hassign hbody hdone fun l D rec M1 w1 pre d _ a w ⟨M,_,_,_,h⟩=>by
  have h:A7 M0 w0 S (own pre++GV l D rec M1 w1 [CT False]) M w:=h
  exact ((h.hold (CT False) AO).1).elim
theorem Fin.ABP {β:Type} {rr:β→List At} {os:List At} {tl:β→List At} {l D:Nat} {rec:Obj} {M1:Av} {w1:World} (d:β) (hp:rs.Perm (os++GV l D rec M1 w1 (tl d))):Fin n E (Hp M0 w0 S rs) (Jo M0 w0 S rr (fun c d=>os++GV l D rec M1 w1 (CT (c= .ret)::tl d))) .ret:=by
 rintro a w ⟨M,_,_,_,h⟩
 have h:A7 M0 w0 S rs M w:=h
 refine ⟨d,M,A7.perm ?_ (A7.Im (A7.perm hp h) (r:=CT (Code.ret= .ret)) rfl rfl)⟩
 have:=(List.perm_middle (a:=CT (Code.ret= .ret)) (l₁:=os++[BN l rec,BN D (.deferred (some [])),Ai M1 w1]) (l₂:=tl d)).symm
 simpa [GV] using this
theorem Fin.prop {e:Exit} {p:Prop} (j:Nat) (hj:rs[j]? =some (CT p)) (k:p→Fin n E (Hp M0 w0 S rs) Q e):Fin n E (Hp M0 w0 S rs) Q e:=fun a w hs=>by
 obtain ⟨M,h1,h2,h3,h4⟩:=hs
 have h4:A7 M0 w0 S rs M w:=h4
 exact k (h4.hold _ (List.mem_of_getElem? hj)).1 a w ⟨M,h1,h2,h3,h4⟩
theorem Fin.r8 {e:Exit} {p q:Prop} (j:Nat) (hj:rs[j]? =some (CT p)) (h:p→q) (k:Fin n E (Hp M0 w0 S (rs.set j (CT q))) Q e):Fin n E (Hp M0 w0 S rs) Q e:=fun a w hs=>by
 obtain ⟨M,h1,h2,h3,h4⟩:=hs
 have h4:A7 M0 w0 S rs M w:=h4
 exact k a w ⟨M,h1,h2,h3,h4.Ce hj rfl rfl (h (h4.hold _ (List.mem_of_getElem? hj)).1)⟩
theorem AL.zH (i:Nat) {c:Tmp} {new:Bool} (h:E.lookup c=some (ptr b 0)) (hi:rs[i]? =some (AF new b T [q])) (ht:En P t=true) (hl:Pr.le q p):AL P E rs (.cell c t) p:=by
 intro M w a he hr
 obtain ⟨_,cs,h4,h5,_⟩:=hr _ (List.mem_of_getElem? hi)
 obtain ⟨v,hv,hh⟩:=h5.at_ 0 q rfl
 have hc:w.cell? ⟨b,0,none⟩=some v:=by simp [World.cell?,h4,hv]
 have h1:(loadVar t ⟨b,0,none⟩).run P w= .ok v w:=by simp [loadVar,Em ht,hc]
 refine ⟨v,?_,hl _ _ _ hh⟩
 have hc2:a.tmps.getD c undef= .pointer (some ⟨b,0,none⟩):=he _ _ h
 unfold HY
 simp only [hc2,asAddr]
 simpa [Sem.run_bind] using h1
theorem Tr.YY {sz:Nat} (j:Nat) (hj:rs[j]? =some (BG T sz rows v)) (k0:rows=[]→v= .slice none 0 0→Tr L n E (Hp M0 w0 S (rs.set j Bf)) c Q) (k1:Tr L n E (Hp M0 w0 S (rs.set j (EN T sz rows v))) c Q):Tr L n E (Hp M0 w0 S rs) c Q:=fun a w hs=>by
 obtain ⟨M,h1,h2,h3,h4⟩:=hs
 have h4:A7 M0 w0 S rs M w:=h4
 rcases (h4.hold _ (List.mem_of_getElem? hj)).1 with ⟨e1,e2⟩|hm
 · exact k0 e1 e2 a w ⟨M,h1,h2,h3,h4.Ce (r':=Bf) hj (by rw [e2];rfl) rfl trivial⟩
 · exact k1 a w ⟨M,h1,h2,h3,h4.Ce (r':=EN T sz rows v) hj rfl rfl hm⟩
theorem Fin.GP {e:Exit} (T:TypeId) (sz:Nat) (k:Fin n E (Hp M0 w0 S (BG T sz [] (.slice none 0 0)::rs)) Q e):Fin n E (Hp M0 w0 S rs) Q e:=fun a w hs=>by
 obtain ⟨M,h1,h2,h3,h4⟩:=hs
 have h4:A7 M0 w0 S rs M w:=h4
 exact k a w ⟨M,h1,h2,h3,A7.Im h4 (r:=BG T sz [] (.slice none 0 0)) rfl (.inl ⟨rfl,rfl⟩)⟩
end
end Cp
namespace Go.Proofs.YtmocaapoeefgkaaGreatDoor
open Go Go.RowKit Cp Go.Proofs.Tryz
-- sets as bits: read, closed, what can be added (behind AKI.lean)
variable {B:List (BitVec 32)} {d s:List Int} {i k n:Nat} {p:Pr}
def Nw (l:List Int):BitVec 32:=l.foldl (fun b i=>XI b i.toNat) 0#32
theorem bV {l:List Int} {x:Int} (h:l[k]? =some x):Nw (l.take (k+1))=XI (Nw (l.take k)) x.toNat:=by unfold Nw;rw [List.take_add_one,h,List.foldl_append];rfl
theorem gh {n:Nat} (hn:n≤32):∀(l:List Int) (b:BitVec 32) (i:Nat),(∀x∈l,0≤x∧x<n)→((l.foldl (fun b i=>XI b i.toNat) b).getLsbD i=true↔b.getLsbD i=true∨(i:Int)∈l)
 |[],b,i,_=>by simp
 |x::l,b,i,h=>by
  have hx:=h x (List.mem_cons_self ..)
  rw [List.foldl_cons,gh hn l (XI b x.toNat) i (fun y hy=>h y (List.mem_cons_of_mem _ hy)),Sd AA,Bool.or_eq_true,decide_eq_true_eq,List.mem_cons]
  constructor
  ·
   rintro ((h1|h1)|h1)
   · exact .inl h1
   · right;left;omega
   · exact .inr (.inr h1)
  ·
   rintro (h1|h1|h1)
   · exact .inl (.inl h1)
   · left;right;omega
   · exact .inr h1
theorem bW {l:List Int} (hn:n≤32) (h:∀x∈l,0≤x∧x<n):L7 n (Nw l) l:=fun i=>by
 unfold Nw
 rw [gh hn l 0#32 i h]
 simp
def Wi (B:List (BitVec 32)) (s:BitVec 32):Bool:=(JC s).all fun i=>B.getD i 0#32&&&~~~s==0#32
theorem Py {n:Int} {l:List BM} {s:BitVec 32} (hv:BD n l=0) (hs:L7 n.toNat s d) (hd:∀x∈d,0≤x∧x<n):Wi (EF n.toNat l) s=CK l d:=by
 obtain ⟨hn,hb,_,_⟩:=Cm hv
 have hB:=FZ (n:=n.toNat) (l:=l) AA
 have hat:∀i,i<n.toNat→(EF n.toNat l)[i]? =some ((EF n.toNat l).getD i 0#32):=fun i hi=>by
  rw [List.getD_eq_getElem?_getD,List.getElem?_eq_getElem (by rw [C9];exact hi)];rfl
 rw [Bool.eq_iff_iff]
 unfold Wi
 rw [List.all_eq_true]
 constructor
 ·
  intro h
  refine Cl.2 fun r hr hm=> ?_
  have hbr:=hb r hr
  unfold Ft at hbr;rw [decide_eq_false_iff_not] at hbr
  have e1:((r.thn.toNat:Nat):Int)=r.thn:=by omega
  have e2:((r.fst.toNat:Nat):Int)=r.fst:=by omega
  have h1:s.getLsbD r.thn.toNat=true:=(hs _).2 (by rw [e1];exact hm)
  have h2:=h _ (F_.2 h1)
  rw [beq_iff_eq,Sh] at h2
  have h3:=h2 r.fst.toNat (by
   rw [hB.2 _ _ (hat r.thn.toNat AA)]
   rw [Bool.and_eq_true,decide_eq_true_eq]
   refine ⟨by omega,I9 ?_ _⟩
   unfold GI
   exact List.any_eq_true.2 ⟨r,hr,by simp;omega⟩)
  have:=(hs _).1 h3
  rw [e2] at this;exact this
 ·
  intro h i hi
  have h1:=F_.1 hi
  have h2:=(hs i).1 h1
  have h3:=hd _ h2
  rw [beq_iff_eq,Sh]
  intro a ha
  rw [hB.2 _ _ (hat i AA),Bool.and_eq_true] at ha
  exact (hs a).2 (Fj h _ ha.2 h2)
theorem r9 {n:Int} (hk:k≤s.length) (h:∀j,j<k→setAt n s j=true): -1≤PU s k:=by unfold PU setAt at*;grind
theorem JL (h:Di (n:Int) s=true):∀x∈s,0≤x∧x<(n:Int):=fun x hx=>by
 obtain ⟨i,hi⟩:=List.mem_iff_getElem?.1 hx
 exact Qh h hi
theorem Qt {b:BitVec 32} (hb:L7 n b s) (h:Di (n:Int) s=true) (hi:b.getLsbD i=true):i<n:=by
 have:=JL h _ ((hb i).1 hi);omega
abbrev rdB (n:Nat) (l:List Int):BitVec 32:=if Di (n:Int) l=true then Nw l else 0#32
abbrev xQ (B:List (BitVec 32)) (s:BitVec 32) (pre:List Nat):Prop:=∀i∈pre,(B.getD i 0#32&&&~~~s==0#32)=true
theorem Wj {l:List Int} (hn:n≤24):A0 prog 137 [ref [int ((n:Nat):Int),bits B,p],ints l] (C_ [u32 (rdB n l),bool (Di ((n:Nat):Int) l)]):=by
 refine fo func137 rfl ⟨rfl,rfl⟩ fun M0 w0=>(Tr.CG 1 rfl fun ER=> ?_)
 iterate 4 refine ac ?_
 refine Tr.block (Tr.Ax _ (kk [11,10,0] rfl) (fun k:Nat=>[(12,int ((k:Nat):Int)),(7,int (PU l k)),(6,u32 (Nw (l.take k)))]) (fun k:Nat=>k≤(l).length∧(∀j,j<k→setAt (n:Nat) l j=true)) (fun k:Nat=>(l).length-k) 0 (⟨Nat.zero_le _,fun j hj=>absurd hj AA⟩) ⟨kq,⟨_,rfl,int_eq rfl⟩,⟨_,rfl,Mz⟩,trivial⟩ ?_)
 rintro k ⟨BJ,AQ⟩
 refine ac ?_
 refine Tr.seq ?_
 refine Tr.cn rfl ?_ ?_<;>intro h1 q1
 have AZ:k<(l).length:=AH h1
 obtain ⟨i,AX⟩:=at_ AZ
 have YQ:=SG AQ AX
 have hlg:=r9 AA AQ
 refine ac ?_
 refine Tr.seq (Tr.block (Tr.seq (Tr.Bt (co rfl (AD rfl underlying51 Bi vq vq AA (AR AX)) ?_))))
 refine ac ?_
 refine ag ?_ ?_<;>intro h2 q2
 refine ac ?_
 refine wk [26,12,11,10,9,6,0] rfl ?_
 refine ac ?_
 refine Tr.ret (Fin.AE (Fin.AU (Fin.AE (Fin.AE (Fin.AU (Fin.AE (Fin.C6 rfl (Bv.EU _ _) rfl ?_ rfl ?_)))))))
 · exact dH
 · exact dz
 refine ac ?_
 refine wk [26,12,11,10,9,6,0] rfl ?_
 refine Tr.cn rfl ?_ ?_<;>intro h3 q3
 refine ac ?_
 refine Tr.ret (Fin.AE (Fin.AU (Fin.AE (Fin.AE (Fin.AU (Fin.AE (Fin.C6 rfl (Bv.EU _ _) rfl ?_ rfl ?_)))))))
 · exact dH
 · exact dz
 refine a2 ?_
 refine co rfl (JB (b:=1#32) rfl vq vq AA) ?_
 refine co rfl (Lf rfl vq vq) ?_
 refine a2 ?_
 refine wk [12,11,10,7,6,0] rfl ?_
 refine ac ?_
 exact Fin.AM (k+1) ⟨⟨AZ,EO AQ (by rw [YQ];simp;omega)⟩,by omega⟩ ⟨⟨_,rfl,AG k⟩,⟨_,rfl,int_eq (by rw [aa AX])⟩,⟨_,rfl,Pr.le_of_eq (congrArg u32 (bV AX).symm)⟩,kz⟩
 have A8:k=(l).length:=by have:=AJ h1;omega
 subst A8
 have hsb:Di ((n:Nat):Int) l=true:=CD.2 AQ
 refine a2 ?_
 refine Tr.ret (Fin.C6 rfl (Bv.EU _ _) rfl ?_ rfl ?_)
 · rw [show rdB n l=Nw l from if_pos hsb,List.take_length];exact Lr
 · refine bool_eq ?_;exact hsb.symm
theorem ABQ {s y:BitVec 32} {x:Nat} (h:x∈JC s) (hy:B[x]? =some y) (hn:(y&&&~~~s==0#32)=false):Wi B s=false:=by grind [Wi]
theorem xR {s:BitVec 32} (h:xQ B s (JC s)):Wi B s=true:=by
 unfold Wi
 exact List.all_eq_true.2 h
theorem Ot [One p] {s:BitVec 32} (hB:B.length=n) (hs:∀i,s.getLsbD i=true→i<n):BP prog 138 [ref [int ((n:Nat):Int),bits B,p],u32 s] (bool (Wi B s)) (CE) (fun _=>CE):=by
 refine BP.ofM func138 rfl rfl Am fun M0 w0 S rs M1 w1=> ?_
 refine Tr.seq (Tr.BE (tp rfl (BU rfl F7) (tp rfl (BU rfl F7) ?_)))
 refine Tl rfl rfl rfl rfl z4 zo4 (fun b1=> ?_)
 refine ap ?_
 refine ap ?_
 refine TO.pad ?_
 refine TO.Df 0 rfl rfl AB (F2 rfl rfl AB rfl (gV) kz) (fun v1=> ?_)
 refine TO.nil (Fin.shape 7 (fun b=>j_ b) rfl (fun fb2 fe2=> ?_))
 subst fe2
 refine Fin.GA 0 (AF true fb2 Qp [_]) rfl rfl (Fin.go (Tr.block (Tr.gT (p:=xQ B s []) (fun i h=>Fv) ?_)))
 refine Tr.rz 5 _ (kk [4,3,2] rfl) (fun pre (_:Unit)=>CT (xQ B s pre)::AF true b1 4 [bool false]::Ai M1 w1::rs) (fun pre (_:Unit)=>CT (Wi B s=false)::AF true b1 4 [bool false]::Ai M1 w1::rs) () (Qq (s:=s)) Qr vq ((CH (j:=3) rfl).trans (List.Perm.cons _ ((CH (j:=1) rfl).trans (List.Perm.cons _ (List.Perm.refl _))))) rfl Am ?_ ?_ ?_ ?_
 rintro lk Dk rk Mr wr pre x _ hpre
 refine ac ?_
 exact Fin.st ⟨kq,kz⟩
 rintro lk Dk rk Mr wr pre x _ hpre
 have hsx:s.getLsbD x=true:=F_.1 (bQ hpre)
 obtain ⟨y,hy⟩:=at_ (l:=B) (k:=x) (by have:=hs x hsx;omega)
 refine ac ?_
 refine co rfl (AD rfl underlying232 Ff vq vq AA (Nu hy)) ?_
 refine ac ?_
 refine co rfl (K1 rfl vq vq) (co rfl (rQ rfl vq vq) ?_)
 refine ac ?_
 refine wk [18,4] rfl ?_
 refine Tr.cn rfl ?_ ?_<;>intro h1 q1
 refine Tr.seq (Tr.BE (TO.AK 6 rfl rfl rfl vq F7 rfl UF rfl rfl ?_))
 refine ap ?_
 refine Tr.ret (Fin.AU (Fin.r8 5 rfl (q:=Wi B s=false) (fun _=>ABQ (F_.2 hsx) hy Bp) ?_))
 exact Fin.ABP () (List.Perm.refl _)
 refine Tr.skip (Fin.block ?_)
 refine Fin.r8 5 rfl (q:=xQ B s (pre++[x])) (fun h i hi=>by rcases List.mem_append.1 hi with hi|hi;exact h i hi;(rw [List.mem_singleton] at hi;subst hi;rw [List.getD_eq_getElem?_getD,hy];simp_all)) ?_
 exact Fin.rnd () (List.Perm.refl _)
 rintro lk Dk rk Mr wr _
 refine Fin.prop 5 rfl fun hok=>(Fin.drop 1 (Fin.drop 1 (Fin.drop 2 (Fin.drop 2 ?_))))
 refine ac ?_
 refine ap ?_
 refine Tr.ret (Fin.K3 (List.perm_middle (l₁:=[_])) ?_)
 refine Fin.Si (Fin.Sj (Fin.K3 ((List.perm_middle (l₁:=[_])).symm) ?_))
 refine Fin.Gn [_] rfl (AL.zH 0 rfl rfl jA Lr) ?_ (fun _ _ _ _=>rfl)
 · exact bool_eq (xR hok).symm
 rintro lk Dk rk Mr wr pre _ hpre
 refine Fin.prop 5 rfl fun hno=>(Fin.drop 1 (Fin.drop 1 (Fin.drop 2 (Fin.drop 2 (Fin.AU (Fin.AE (Fin.K3 (List.perm_middle (l₁:=[_])) ?_)))))))
 refine Fin.Si (Fin.Sj (Fin.K3 ((List.perm_middle (l₁:=[_])).symm) ?_))
 refine Fin.Gn [_] rfl (AL.zH 0 rfl rfl jA Lr) ?_ (fun _ _ _ _=>rfl)
 · exact bool_eq hno.symm
theorem gj {s:BitVec 32}  :Ef (α:=Value) prog 180 [u32 s] [CE] (fun _=>True) (fun v=>AV v (lens (((JC s).map fun i:Nat=>(i:Int)).map (fun n=>[int n])).length)) (fun v=>[CE,BG 3 1 (((JC s).map fun i:Nat=>(i:Int)).map (fun n=>[int n])) v]):=by
 refine Ef.ofM func180 rfl rfl Am fun M0 w0 S rs M1 w1=> ?_
 refine ac ?_
 refine Tr.seq (Tr.BE ?_)
 refine Tl rfl rfl rfl rfl z51 ADG (fun b1=> ?_)
 refine ap ?_
 refine ap ?_
 refine TO.pad ?_
 refine TO.Df 0 rfl rfl AB (F2 rfl rfl AB rfl (gV) kz) (fun v1=> ?_)
 refine TO.nil (Fin.shape 6 (fun b=>j_ b) rfl (fun fb2 fe2=> ?_))
 subst fe2
 refine Fin.GA 0 (AF true fb2 Qp [_]) rfl rfl (Fin.go (Tr.block (Tr.GP 3 1 (Tr.G9 2 [AV (.slice none 0 0) (lens 0)] rfl ⟨Gk rfl,trivial⟩ (Tr.bD 4 _ (kk [3] rfl) (fun pre vr=>BG 3 1 ((pre.map fun i:Nat=>(i:Int)).map (fun n=>[int n])) vr::AF true b1 51 [AV vr (lens ((pre.map fun i:Nat=>(i:Int)).map (fun n=>[int n])).length)]::Ai M1 w1::rs) (.slice none 0 0) (Qq (s:=s)) Qr vq ((CH (j:=3) rfl).trans (List.Perm.cons _ ((CH (j:=1) rfl).trans (List.Perm.cons _ (List.Perm.refl _))))) rfl Am ?_ ?_ ?_)))))
 rintro lk Dk rk Mr wr pre x vr hpre
 refine ac ?_
 exact Fin.st ⟨kq,kz⟩
 rintro lk Dk rk Mr wr pre x vr hpre
 have hpl:(pre++[x]).length≤32:=Nat.le_trans hpre.length_le (xD s)
 rw [List.length_append,List.length_cons,List.length_nil] at hpl
 refine Tr.block (Tr.BE (TO.rd 6 rfl rfl rfl AB (BT rfl eu vq rfl) ?_))
 refine ap ?_
 refine TO.Df 5 rfl rfl AB (Fg rfl rfl AB rfl underlying51 Bi G_ z3 rfl AB AB (vl rfl) (Kf rfl) (AW fun _=>rfl) (Nat.zero_lt_succ _) KP KQ) (fun v2=> ?_)
 refine TO.AK 6 rfl rfl rfl vq F7 rfl HH rfl rfl ?_
 refine ap ?_
 rw [show (pre.map fun i:Nat=>(i:Int)).map (fun n=>[int n])++[[int ((x:Nat):Int)]]=((pre++[x]).map fun i:Nat=>(i:Int)).map (fun n=>[int n]) by rw [List.map_append,List.map_append];rfl]
 refine Fin.G9 6 [AV v2 (lens (((pre++[x]).map fun i:Nat=>(i:Int)).map (fun n=>[int n])).length)] rfl ⟨DE AO,trivial⟩ (Fin.rnd v2 (List.Perm.refl _))
 rintro lk Dk rk Mr wr vr
 refine Fin.drop 1 (Fin.drop 1 (Fin.drop 2 ?_))
 refine ac ?_
 refine Tr.seq (Tr.Bt (Ch.op rfl rfl Am (CC 3 rfl (BT rfl eu vq rfl)) (Ch.op rfl rfl Am (Fa rfl vq) ?_)))
 refine ac ?_
 refine Tr.ret (Fin.K3 (List.perm_middle (l₁:=[_])) ?_)
 refine Fin.Si (Fin.Sj (Fin.drop 2 (Fin.yx (vr) rfl (AL.tmp rfl Lr) trivial ?_ (List.Perm.refl _))))
 · exact Lr
def Ej (n:Int) (l:List BM) (s:List Int):Int:=if BD n l≠0 then BD n l else if Di n s=true∧CK l s=true then 0 else 46
def Fo (n:Int) (l:List BM) (s:List Int):List Int:=if Ej n l s=0 then D3 n.toNat l s true else []
theorem m8 {n:Int} {l:List BM} (h:BD n l≠0):Ej n l s=BD n l:=by unfold Ej;rw [if_pos h]
theorem Sq {n:Int} {l:List BM} (h:BD n l=0) (hn:¬(Di n s=true∧CK l s=true)):Ej n l s=46:=by unfold Ej;rw [if_neg (not_not_intro h),if_neg hn]
theorem gl {n:Int} {l:List BM} (h:BD n l=0) (hs:Di n s=true) (hc:CK l s=true):Ej n l s=0:=by unfold Ej;rw [if_neg (not_not_intro h),if_pos ⟨hs,hc⟩]
theorem Wk {n:Int} {l:List BM} {e:Int} (h:Ej n l s=e) (he:e≠0):Fo n l s=[]:=by unfold Fo;rw [if_neg H7]
theorem ABR {n:Int} {l:List BM} {b:BitVec 32} (h:Ej n l s=0) (hv:BD n l=0) (hs:L7 n.toNat b s) (hc:CK l s=true):(JC (Ml (EF n.toNat l) b n.toNat)).map (fun i:Nat=>(i:Int))=Fo n l s:=by
 unfold Fo
 rw [if_pos h]
 have hn:=(Cm hv).1
 exact (AA9 (fun j=>xL hv hs hc j) AA).symm
theorem GZ (hn:n≤32) (h:Di (n:Int) s=true):L7 n (rdB n s) s:=by
 rw [show rdB n s=Nw s from if_pos h];exact bW hn (JL h)
theorem kD {n:Int} {l:List BM}:Ef (α:=Value) prog 132 [int n,reqs l,ints s,fn (.func 153) []] [CE] (fun _=>True) (fun v=>C_ [AV v (lens ((Fo n l s).map (fun n=>[int n])).length),int (Ej n l s)]) (fun v=>[CE,BG 3 1 ((Fo n l s).map (fun n=>[int n])) v]):=by
 refine Ef.of func132 rfl rfl Am fun M0 w0 S rs M1 w1=> ?_
 refine ac ?_
 refine ap ?_
 refine TO.F0 0 rfl rfl AB (Ae rfl rfl AB rfl (Wg (n:=n) (l:=l)) ⟨kq,kz⟩) ?_
 refine ap ?_
 refine an ?_ ?_<;>intro h1 q1
 have hv:BD n l≠0:=by simpa using h1
 refine ac ?_
 refine wk [9,8] rfl (Tr.ret (Fin.AE ?_))
 have hno:=Wk (m8 (s:=s) hv) hv
 refine Fin.GP 3 1 (Fin.G3 ?_)
 refine Fin.GA 1 (BG 3 1 ((Fo n l s).map (fun n=>[int n])) (.slice none 0 0)) rfl LK ?_
 refine Fin.I0 ((.slice none 0 0)) rfl (AL.tmp rfl Lr) (AL.tmp rfl Lr) trivial ?_ (List.Perm.refl _)
 · exact dV
 have hv:BD n l=0:=by simpa using h1
 have OB:=(Cm hv).1
 obtain ⟨N,rfl⟩:∃N:Nat,n=(N:Int):=⟨n.toNat,by omega⟩
 refine Tr.re 10 rfl (Pr.le_of_eq (Qs hv)) ?_
 refine a2 ?_
 refine co rfl (Bq (Wj (n:=N) (B:=EF N l) (l:=s) AA) rfl rfl rfl) ?_
 refine ac ?_
 refine wk [13,12,10,3] rfl ?_
 refine ap ?_
 refine TO.cases 31 rfl (fun h2=> ?_) (fun h2=> ?_)
 have q2:=EW.E9 h2
 have h46:Ej (N:Int) l s=46:=Sq hv (by rintro ⟨g1,g2⟩;simp_all)
 iterate 4 refine TO.Tg rfl rfl rfl (RY h2) rfl AB ?_
 refine ap ?_
 refine ac ?_
 refine wk [9,8] rfl (Tr.ret (Fin.AE ?_))
 have hno:=Wk h46 AB
 refine Fin.GP 3 1 (Fin.G3 ?_)
 refine Fin.GA 1 (BG 3 1 ((Fo ((N:Nat):Int) l s).map (fun n=>[int n])) (.slice none 0 0)) rfl LK ?_
 refine Fin.I0 ((.slice none 0 0)) rfl (AL.tmp rfl Lr) (AL.tmp rfl Lr) trivial ?_ (List.Perm.refl _)
 · exact VC
 have q2:=EW.E9 h2
 have hsb:Di ((N:Nat):Int) s=true:=by simpa using h2
 refine TO.IG rfl rfl rfl h2 rfl AB (Cs rfl vq) (TO.IG rfl rfl rfl h2 rfl AB (Cs rfl vq) ?_)
 refine TO.ot 0 rfl rfl rfl h2 rfl rfl AB (Ae rfl rfl AB rfl (Ot (n:=N) (C9 N l) (fun i h=>Qt (GZ AA hsb) hsb h)) ⟨kq,kz⟩) ?_
 refine TO.IG rfl rfl rfl h2 rfl AB (MK rfl vq) ?_
 refine ap ?_
 refine Tr.cn rfl ?_ ?_<;>intro h3 q3
 have h46:Ej (N:Int) l s=46:=Sq hv dB
 refine ac ?_
 refine wk [9,8] rfl (Tr.ret (Fin.AE ?_))
 have hno:=Wk h46 AB
 refine Fin.GP 3 1 (Fin.G3 ?_)
 refine Fin.GA 1 (BG 3 1 ((Fo ((N:Nat):Int) l s).map (fun n=>[int n])) (.slice none 0 0)) rfl LK ?_
 refine Fin.I0 ((.slice none 0 0)) rfl (AL.tmp rfl Lr) (AL.tmp rfl Lr) trivial ?_ (List.Perm.refl _)
 · exact VC
 have XX:CK l s=true:=by rw [←Py (n:=(N:Int)) hv (GZ AA hsb) (JL hsb)];simpa using h3
 have ha0:=gl hv hsb XX
 have r_:(JC (Ml (EF N l) (rdB N s) N)).map (fun i:Nat=>(i:Int))=Fo (N:Int) l s:=ABR ha0 hv (GZ AA hsb) XX
 refine ac ?_
 refine ap ?_
 refine tp rfl (og rfl vq (show A0 prog 153 ([_,_]++[]) _ from rZ (n:=N) (B:=EF N l) (s:=rdB N s) (C9 N l) AA) ⟨kq,kz⟩) ?_
 refine TO.Gs _ rfl rfl AB rfl (gj) kz ((CH (j:=0) rfl).trans (List.Perm.cons _ (List.Perm.refl _))) (fun x1 _=> ?_)
 refine ap ?_
 refine wk [9,8] rfl (Tr.ret (Fin.GA 1 (BG 3 1 ((Fo ((N:Nat):Int) l s).map (fun n=>[int n])) x1) rfl (by rw [r_]) (Fin.I0 (x1) rfl (AL.tmp rfl Lr) (AL.tmp rfl Lr) trivial ?_ (List.Perm.refl _))))
 · exact Al ⟨DE (by rw [r_]),int_eq ha0.symm,trivial⟩
theorem kE {n:Int} {l:List BM}:Ef (α:=Value) prog 117 [int n,reqs l,ints s] [CE] (fun _=>True) (fun v=>C_ [AV v (lens ((Fo n l s).map (fun n=>[int n])).length),int (Ej n l s)]) (fun v=>[CE,BG 3 1 ((Fo n l s).map (fun n=>[int n])) v]):=by
 refine Ef.of func117 rfl rfl Am fun M0 w0 S rs M1 w1=> ?_
 refine ac ?_
 refine ap ?_
 refine TO.Gs _ rfl rfl AB rfl (kD (n:=n) (l:=l) (s:=s)) ⟨kq,kz⟩ ((CH (j:=0) rfl).trans (List.Perm.cons _ (List.Perm.refl _))) (fun x1 _=> ?_)
 refine ap ?_
 refine Tr.ret (Fin.I0 (x1) rfl (AL.tmp rfl Lr) (AL.tmp rfl Lr) trivial ?_ (List.Perm.refl _))
 · exact Lr
end Go.Proofs.YtmocaapoeefgkaaGreatDoor
namespace Cp
open Go Go.RowKit Go.Great
variable {xs:Array Operand} {ts:Array TypeId} {f:FuncId} {rows:List (List Pr)} {args:List Pr} {R:At} {e:TypeId}
section
variable {P:Program}
theorem OY.frz {p0 p1:Pr} {sz:Nat} (hl:∀r∈rows,r.length=sz) (h:OY P f args (fun x=>agg [p0,p1,is x]) (fun x=>[Ba e sz rows x])):A0 P f args (agg [p0,p1,slice sz rows]):=by
 refine ⟨h.1,fun M w vs hb hv=> ?_⟩
 refine (h.2 M w FO [] M w vs (A7.begin hb) hv).mono ?_
 rintro e' w' ⟨v,M',x,rfl,_,h1,h2,h3⟩
 obtain ⟨M2,j1,j2,j3⟩:=A7.AAW (j:=0) h3 rfl hl
 obtain ⟨cs,hc,g1,g2⟩:=(agg [p0,p1,is x]).st _ _ _ _ _ j1 h1
 refine ⟨v,rfl,?_,j2.below⟩
 exact (agg [p0,p1,slice sz rows]).st _ _ _ _ _ (Ext.less j2.m) ⟨cs,hc,g1,HL.set (k:=2) g2 rfl fun u hu=>by rw [show u=x from hu];exact j3⟩
theorem Ef.Z_ {k:Pr} {sz m:Nat} (hl:∀r∈rows,r.length=sz) (h:Ef (α:=Value) P f args [R] (fun _=>True) (fun v=>C_ [AV v (lens m),k]) (fun v=>[R,BG e sz rows v])):BP P f args (C_ [slice sz rows,k]) R (fun _=>R):=by
 refine ⟨h.1,fun M0 w0 S rs M w vs hI hv=>(h.2 M0 w0 S rs M w vs hI hv).mono ?_⟩
 rintro e' w' ⟨v,M',x,rfl,_,h1,h2,h3⟩
 have h3:A7 M0 w0 S (R::BG e sz rows x::rs) M' w':=h3
 obtain ⟨M2,j1,j2,j3⟩:=A7.Z_ (j:=1) h3 rfl hl
 obtain ⟨cs,hc,g2⟩:=(C_ [AV x (lens m),k]).st _ _ _ _ _ j1 h1
 exact ⟨v,M2,rfl,⟨cs,hc,HL.set (k:=0) g2 rfl fun u hu=>by rw [show u=x from hu.1];exact j3⟩,h2.trans j1,(A7.perm (List.Perm.swap _ _ _) j2).J0⟩
variable {n:Fm} {E:Env} {M0:Av} {w0:World} {S:Nat→Prop} {o:Oper}
theorem sA {cx:Operand} {ps caps:List Pr} {res:Pr} {j d:Nat} {R0 R1:At} (hg:o.guard=none) (hd:o.dst=some d) (hn:d<n) (ho:o.op= .call { callee:= .value cx,args:=xs,argTypes:=ts }) (hc:VL E cx (fn (.func f) caps)) (hf:BP P f (ps++caps) res R0 (fun _=>R1)) (hv:Gy E xs.toList ps):DH P M0 w0 S n j (SR.c R0) (SR.c R1) o E res:=by
 refine ⟨hg,fun M w a rs hsz he hI hj=> ?_⟩
 have h1:=Gy.FN (o:=o) he (xs:=xs.toList) (fun x hx=>by simp [ho,Op.operands,Call.operands];exact .inr FL) hv
 obtain ⟨cs,g2,g3⟩:=hc.ev he DG
 have hrun:(execOp a.eval o).run P w= .ok (.enter f ((xs.toList.map a.eval).toArray++cs.toArray)) w:=by
  simp [execOp,ho,resolve,Deferred.ofValue,g2,invoke,DD hf.1,Fz xs]
 rw [hrun]
 have hj':rs[j]? =some R0:=hj
 have hjl:j<rs.length:=by rcases Nat.lt_or_ge j rs.length with h|h;exact h;rw [List.getElem?_eq_none h] at hj';cases hj'
 have h4:=hf.2 M0 w0 S (rs.eraseIdx j) M w _ (A7.perm (CH hj') hI) (h1.app g3)
 have e1:((xs.toList.map a.eval).toArray++cs.toArray)=((xs.toList.map a.eval)++cs).toArray:=by simp
 rw [e1]
 refine h4.mono ?_
 rintro e w' ⟨v,M',rfl,h2,h3,h4⟩
 exact ⟨v,M',rfl,h2,h3,A7.perm (KY hjl) h4⟩
end
end Cp
namespace Go.Proofs.YtmocaapoeefgkaaGreatDoor
open Go Go.RowKit Cp Go.Proofs.Tryz
variable {d s:List Int} {i n:Nat} {p:Pr}
theorem and_zero {x s:BitVec 32}:(x&&&s=0#32)↔∀i,x.getLsbD i=true→s.getLsbD i=false:=by
 constructor
 ·
  intro h i hi
  have h2:=congrArg (fun y=>BitVec.getLsbD y i) h
  simp [hi] at h2
  exact h2
 ·
  intro h
  refine Wb fun i hi=> ?_
  rw [BitVec.getLsbD_and]
  cases hx:x.getLsbD i with
  |false=>rfl
  |true=>rw [h i hx];rfl
theorem xS {n:Int} {l:List BM} {A:List (BitVec 32)} {s x:BitVec 32} (hv:BD n l=0) (hA:D_ n.toNat A (fun b a=>DU l n.toNat a b)) (hs:L7 n.toNat s d) (hd:∀x∈d,0≤x∧x<n) (hc:CK l d=true) (hx:A[i]? =some x) (hi:i<n.toNat):
  Jm l d false i=(s.getLsbD i&&(x&&&s==0#32)):=by
 obtain ⟨h0,h1,h2,h3⟩:=Cm hv
 rw [Bool.eq_iff_iff]
 unfold Jm
 have e1:(G6 d (i:Int) !=false)=s.getLsbD i:=by
  cases hg:s.getLsbD i with
  |true=>have:=(hs i).1 hg;rw [Dr.2 this];rfl
  |false=>
   have:¬(i:Int)∈d:=fun e=>by have:=(hs i).2 e;rw [hg] at this;cases this
   have h4:G6 d (i:Int)=false:=by cases h5:G6 d (i:Int) with|false=>rfl|true=>exact absurd (Dr.1 h5) this
   rw [h4];rfl
 rw [e1,Bool.and_eq_true,Bool.and_eq_true,beq_iff_eq,and_zero]
 refine and_congr_right fun hin=> ?_
 constructor
 ·
  intro XX a ha
  rw [hA.2 i x hx a,Bool.and_eq_true,decide_eq_true_eq] at ha
  cases hsa:s.getLsbD a with
  |false=>rfl
  |true=>
   have hai:(a:Int)≠(i:Int):=fun he=>by grind
   have:=Fj XX _ ha.2 (Lc.2 ⟨hai,(hs a).1 hsa⟩)
   exact absurd rfl (Lc.1 this).1
 ·
  intro h
  rw [Cl]
  intro r hr hm
  obtain ⟨h4,h5⟩:=Lc.1 hm
  have h6:=Cl.1 hc r hr h5
  refine Lc.2 ⟨fun he=> ?_,h6⟩
  have hr1:=hd _ h5
  have h7:=(hs r.thn.toNat).2 (by rw [Int.toNat_of_nonneg hr1.1];exact h5)
  have h8:=h r.thn.toNat (by
   rw [hA.2 i x hx,Bool.and_eq_true,decide_eq_true_eq]
   refine ⟨by omega,I9 ?_ _⟩
   unfold GI
   rw [List.any_eq_true]
   exact ⟨r,hr,by simp;omega⟩)
  rw [h7] at h8;cases h8
def Mm (A:List (BitVec 32)) (s:BitVec 32) (pre:List Nat):BitVec 32:=pre.foldl (fun o i=>if (A.getD i 0#32&&&s==0#32)=true then XI o i else o) 0#32
theorem sB {A:List (BitVec 32)} {s y:BitVec 32} {pre:List Nat} (hy:A[i]? =some y) (h:(y&&&s==0#32)=true):Mm A s (pre++[i])=XI (Mm A s pre) i:=by grind [Mm]
theorem xT {A:List (BitVec 32)} {s y:BitVec 32} {pre:List Nat} (hy:A[i]? =some y) (h:(y&&&s==0#32)=false):Mm A s (pre++[i])=Mm A s pre:=by grind [Mm]
theorem sC {A:List (BitVec 32)} {s:BitVec 32}:∀(pre:List Nat) (o:BitVec 32) (j:Nat),(∀i∈pre,i<32)→
  (pre.foldl (fun o i=>if (A.getD i 0#32&&&s==0#32)=true then XI o i else o) o).getLsbD j=(o.getLsbD j||(decide (j∈pre)&&(A.getD j 0#32&&&s==0#32)))
 |[],o,j,_=>by simp
 |a::pre,o,j,h=>by
  rw [List.foldl_cons,sC pre _ j fun i hi=>h i (List.mem_cons_of_mem _ hi)]
  have ha:=h a (List.mem_cons_self ..)
  by_cases hj:j=a
  ·
   subst hj
   cases hb:(A.getD j 0#32&&&s==0#32) with
   |true=>rw [if_pos rfl,Sd ha];simp
   |false=>rw [if_neg AB];simp
  ·
   have e:decide (j∈a::pre)=decide (j∈pre):=by simp [hj]
   rw [e]
   split
   · rw [Sd ha];simp [Ne.symm hj]
   · rfl
theorem ABS {n:Int} {l:List BM} {s:BitVec 32} (hv:BD n l=0) (hs:L7 n.toNat s d) (hd:∀x∈d,0≤x∧x<n) (hc:CK l d=true):
  (JC (Mm (HK (EF n.toNat l) n.toNat) s (JC s))).map (fun i:Nat=>(i:Int))=D3 n.toNat l d false:=by
 have hn:=(Cm hv).1
 have hA:=(gW (n:=n.toNat) (l:=l) AA).aft
 unfold D3
 rw [rP (n:=n.toNat) (p:=Jm l d false) (fun j=> ?_) AA]
 unfold Mm
 rw [sC _ _ _ fun i hi=>Nat.lt_of_not_le fun h=>by rw [F_,BitVec.getLsbD_of_ge _ _ h] at hi;cases hi]
 have hm:decide (j∈JC s)=s.getLsbD j:=by rw [Bool.eq_iff_iff,decide_eq_true_eq];exact F_
 rw [hm,show (0#32).getLsbD j=false by simp,Bool.false_or]
 by_cases hj:j<n.toNat
 ·
  obtain ⟨x,hx⟩:=at_ (l:=HK (EF n.toNat l) n.toNat) (k:=j) (by rw [hA.1];exact hj)
  rw [xS hv hA hs hd hc hx hj,List.getD_eq_getElem?_getD,hx,decide_eq_true hj,Bool.true_and];rfl
 ·
  rw [decide_eq_false hj,Bool.false_and]
  cases hg:s.getLsbD j with
  |false=>rfl
  |true=>have:=hd _ ((hs j).1 hg);omega
theorem Wl {A:List (BitVec 32)} [One p] {s:BitVec 32} (hA:A.length=n) (hs:∀i,s.getLsbD i=true→i<n):BP prog 133 [ref [int ((n:Nat):Int),p,bits A],u32 s] (u32 (Mm A s (JC s))) (CE) (fun _=>CE):=by
 refine BP.ofM func133 rfl rfl Am fun M0 w0 S rs M1 w1=> ?_
 refine ac ?_
 refine Tr.seq (Tr.BE ?_)
 refine Tl rfl rfl rfl rfl AAL ADf (fun b1=> ?_)
 refine ap ?_
 refine ap ?_
 refine TO.pad ?_
 refine TO.Df 0 rfl rfl AB (F2 rfl rfl AB rfl (gV) kz) (fun v1=> ?_)
 refine TO.nil (Fin.shape 8 (fun b=>j_ b) rfl (fun fb2 fe2=> ?_))
 subst fe2
 refine Fin.GA 0 (AF true fb2 Qp [_]) rfl rfl (Fin.go (Tr.block (Tr.G9 1 [u32 (Mm A s [])] rfl ⟨Mz,trivial⟩ (Tr.bD 6 _ (kk [5,3,2] rfl) (fun pre (_:Unit)=>AF true b1 Qp [u32 (Mm A s pre)]::Ai M1 w1::rs) () (Qq (s:=s)) Qr vq ((CH (j:=2) rfl).trans (List.Perm.cons _ ((CH (j:=0) rfl).trans (List.Perm.cons _ (List.Perm.refl _))))) rfl Am ?_ ?_ ?_))))
 rintro lk Dk rk Mr wr pre x _ hpre
 refine ac ?_
 exact Fin.st ⟨kq,kz⟩
 rintro lk Dk rk Mr wr pre x _ hpre
 have hsx:s.getLsbD x=true:=F_.1 (bQ hpre)
 obtain ⟨y,hy⟩:=at_ (l:=A) (k:=x) (by have:=hs x hsx;omega)
 refine Tr.block (Tr.seq (Tr.ACt mixed Ak (co rfl (Iv rfl Ja rfl) (co rfl (Jz rfl vq) (co rfl (i7 rfl e_ rfl rfl) (co rfl (Iv rfl Kg rfl) (cm rfl (co rfl (AD rfl underlying232 Ff vq vq AA (Nu hy)) ?_))))))))
 refine ac ?_
 refine co rfl (Sc rfl vq vq) (co rfl (bH rfl vq vq) ?_)
 refine ac ?_
 refine wk [19,6,5] rfl ?_
 refine Tr.cn rfl ?_ ?_<;>intro h1 q1
 refine Tr.rx (JU 5 rfl rfl (BT rfl IZ vq rfl) (xm rfl ?_))
 refine xo rfl (fun _=>JB (b:=1#32) rfl vq vq (Int.natCast_nonneg _)) ?_
 refine xo rfl (fun _=>Lf rfl vq vq) (Cx.DP 5 rfl rfl (BF rfl rfl vq F7 Ff rfl Am rfl) ?_)
 refine Cx.nil ⟨by kernel_rfl,?_⟩
 refine Aw.done al7 (Fin.block (Fin.G9 5 [u32 (Mm A s (pre++[x]))] rfl ⟨Pr.le_of_eq (congrArg u32 (sB hy Bp).symm),trivial⟩ (Fin.rnd () (List.Perm.refl _))))
 refine Tr.skip (Fin.block (Fin.G9 5 [u32 (Mm A s (pre++[x]))] rfl ⟨Pr.le_of_eq (congrArg u32 (xT hy Bp).symm),trivial⟩ (Fin.rnd () (List.Perm.refl _))))
 rintro lk Dk rk Mr wr _
 refine Fin.drop 1 (Fin.drop 1 (Fin.drop 2 ?_))
 refine ac ?_
 refine Tr.seq (Tr.Bt (Ch.op rfl rfl Am (CC 2 rfl (BT rfl IZ vq rfl)) (Ch.op rfl rfl Am (Fa rfl vq) ?_)))
 refine ac ?_
 refine Tr.ret (Fin.K3 (List.perm_middle (l₁:=[_])) ?_)
 refine Fin.Si (Fin.Sj (Fin.K3 ((List.perm_middle (l₁:=[_])).symm) ?_))
 refine Fin.drop 0 (Fin.EV rfl rfl ?_ (fun _ _ _ _=>rfl))
 · exact Lr
def GW (n:Int) (l:List BM) (s:List Int):List Int:=if Ej n l s=0 then D3 n.toNat l s false else []
theorem Wm {n:Int} {l:List BM} {e:Int} (h:Ej n l s=e) (he:e≠0):GW n l s=[]:=by unfold GW;rw [if_neg H7]
theorem xU {N:Nat} {l:List BM} {b:BitVec 32} (h:Ej (N:Int) l s=0) (hv:BD (N:Int) l=0) (hs:L7 N b s) (hd:∀x∈s,0≤x∧x<(N:Int)) (hc:CK l s=true):(JC (Mm (HK (EF N l) N) b (JC b))).map (fun i:Nat=>(i:Int))=GW (N:Int) l s:=by
 unfold GW
 rw [if_pos h]
 have h2:=ABS (n:=(N:Int)) hv (by rw [Int.toNat_natCast];exact hs) hd hc
 rw [Int.toNat_natCast] at h2 ⊢
 exact h2
def Lw (n:Int) (l:List BM) (s:List Int):Int:=if BD n l≠0 then BD n l else if Di n s=true then 0 else 46
def Sr (n:Int) (l:List BM) (s:List Int):Bool:=decide (BD n l=0)&&Di n s&&CK l s
theorem zI {n:Int} {l:List BM} (h:BD n l≠0):Lw n l s=BD n l∧Sr n l s=false:=by grind [Lw,Sr]
theorem zJ {n:Int} {l:List BM} (h:BD n l=0) (hs:Di n s=false):Lw n l s=46∧Sr n l s=false:=by grind [Lw,Sr]
theorem YZ {n:Int} {l:List BM} (h:BD n l=0) (hs:Di n s=true):Lw n l s=0∧Sr n l s=CK l s:=by grind [Lw,Sr]
theorem bX {n:Int} {l:List BM}:Ef (α:=Value) prog 132 [int n,reqs l,ints s,fn (.func 133) []] [CE] (fun _=>True) (fun v=>C_ [AV v (lens ((GW n l s).map (fun n=>[int n])).length),int (Ej n l s)]) (fun v=>[CE,BG 3 1 ((GW n l s).map (fun n=>[int n])) v]):=by
 refine Ef.of func132 rfl rfl Am fun M0 w0 S rs M1 w1=> ?_
 refine ac ?_
 refine ap ?_
 refine TO.F0 0 rfl rfl AB (Ae rfl rfl AB rfl (Wg (n:=n) (l:=l)) ⟨kq,kz⟩) ?_
 refine ap ?_
 refine an ?_ ?_<;>intro h1 q1
 have hv:BD n l≠0:=by simpa using h1
 refine ac ?_
 refine wk [9,8] rfl (Tr.ret (Fin.AE ?_))
 have hno:=Wm (m8 (s:=s) hv) hv
 refine Fin.GP 3 1 (Fin.G3 ?_)
 refine Fin.GA 1 (BG 3 1 ((GW n l s).map (fun n=>[int n])) (.slice none 0 0)) rfl LK ?_
 refine Fin.I0 ((.slice none 0 0)) rfl (AL.tmp rfl Lr) (AL.tmp rfl Lr) trivial ?_ (List.Perm.refl _)
 · exact dV
 have hv:BD n l=0:=by simpa using h1
 have OB:=(Cm hv).1
 obtain ⟨N,rfl⟩:∃N:Nat,n=(N:Int):=⟨n.toNat,by omega⟩
 refine Tr.re 10 rfl (Pr.le_of_eq (Qs hv)) ?_
 refine a2 ?_
 refine co rfl (Bq (Wj (n:=N) (B:=EF N l) (l:=s) AA) rfl rfl rfl) ?_
 refine ac ?_
 refine wk [13,12,10,3] rfl ?_
 refine ap ?_
 refine TO.cases 31 rfl (fun h2=> ?_) (fun h2=> ?_)
 have q2:=EW.E9 h2
 have h46:Ej (N:Int) l s=46:=Sq hv (by rintro ⟨g1,g2⟩;simp_all)
 iterate 4 refine TO.Tg rfl rfl rfl (RY h2) rfl AB ?_
 refine ap ?_
 refine ac ?_
 refine wk [9,8] rfl (Tr.ret (Fin.AE ?_))
 have hno:=Wm h46 AB
 refine Fin.GP 3 1 (Fin.G3 ?_)
 refine Fin.GA 1 (BG 3 1 ((GW ((N:Nat):Int) l s).map (fun n=>[int n])) (.slice none 0 0)) rfl LK ?_
 refine Fin.I0 ((.slice none 0 0)) rfl (AL.tmp rfl Lr) (AL.tmp rfl Lr) trivial ?_ (List.Perm.refl _)
 · exact VC
 have q2:=EW.E9 h2
 have hsb:Di ((N:Nat):Int) s=true:=by simpa using h2
 refine TO.IG rfl rfl rfl h2 rfl AB (Cs rfl vq) (TO.IG rfl rfl rfl h2 rfl AB (Cs rfl vq) ?_)
 refine TO.ot 0 rfl rfl rfl h2 rfl rfl AB (Ae rfl rfl AB rfl (Ot (n:=N) (C9 N l) (fun i h=>Qt (GZ AA hsb) hsb h)) ⟨kq,kz⟩) ?_
 refine TO.IG rfl rfl rfl h2 rfl AB (MK rfl vq) ?_
 refine ap ?_
 refine Tr.cn rfl ?_ ?_<;>intro h3 q3
 have h46:Ej (N:Int) l s=46:=Sq hv dB
 refine ac ?_
 refine wk [9,8] rfl (Tr.ret (Fin.AE ?_))
 have hno:=Wm h46 AB
 refine Fin.GP 3 1 (Fin.G3 ?_)
 refine Fin.GA 1 (BG 3 1 ((GW ((N:Nat):Int) l s).map (fun n=>[int n])) (.slice none 0 0)) rfl LK ?_
 refine Fin.I0 ((.slice none 0 0)) rfl (AL.tmp rfl Lr) (AL.tmp rfl Lr) trivial ?_ (List.Perm.refl _)
 · exact VC
 have XX:CK l s=true:=by rw [←Py (n:=(N:Int)) hv (GZ AA hsb) (JL hsb)];simpa using h3
 have ha0:=gl hv hsb XX
 have r_:(JC (Mm (HK (EF N l) N) (rdB N s) (JC (rdB N s)))).map (fun i:Nat=>(i:Int))=GW (N:Int) l s:=xU ha0 hv (GZ AA hsb) (JL hsb) XX
 refine ac ?_
 refine ap ?_
 refine TO.F0 0 rfl rfl AB (sA rfl rfl AB rfl vq (show BP prog 133 ([_,_]++[]) _ _ _ from Wl (n:=N) (A:=HK (EF N l) N) (s:=rdB N s) (gW (n:=N) (l:=l) AA).aft.1 (fun i h=>Qt (GZ AA hsb) hsb h)) ⟨kq,kz⟩) ?_
 refine TO.Gs _ rfl rfl AB rfl (gj) kz ((CH (j:=0) rfl).trans (List.Perm.cons _ (List.Perm.refl _))) (fun x1 _=> ?_)
 refine ap ?_
 refine wk [9,8] rfl (Tr.ret (Fin.GA 1 (BG 3 1 ((GW ((N:Nat):Int) l s).map (fun n=>[int n])) x1) rfl (by rw [r_]) (Fin.I0 (x1) rfl (AL.tmp rfl Lr) (AL.tmp rfl Lr) trivial ?_ (List.Perm.refl _))))
 · exact Al ⟨DE (by rw [r_]),int_eq ha0.symm,trivial⟩
theorem Tp {n:Int} {l:List BM}:Ef (α:=Value) prog 74 [int n,reqs l,ints s] [CE] (fun _=>True) (fun v=>C_ [AV v (lens ((GW n l s).map (fun n=>[int n])).length),int (Ej n l s)]) (fun v=>[CE,BG 3 1 ((GW n l s).map (fun n=>[int n])) v]):=by
 refine Ef.of func74 rfl rfl Am fun M0 w0 S rs M1 w1=> ?_
 refine ac ?_
 refine ap ?_
 refine TO.Gs _ rfl rfl AB rfl (bX (n:=n) (l:=l) (s:=s)) ⟨kq,kz⟩ ((CH (j:=0) rfl).trans (List.Perm.cons _ (List.Perm.refl _))) (fun x1 _=> ?_)
 refine ap ?_
 refine Tr.ret (Fin.I0 (x1) rfl (AL.tmp rfl Lr) (AL.tmp rfl Lr) trivial ?_ (List.Perm.refl _))
 · exact Lr
theorem L8 {n:Int} {l:List BM}:BP Tryz.prog 74 [int n,reqs l,ints s] (C_ [ints (GW n l s),int (Ej n l s)]) CE (fun _=>CE):=Ef.Z_ (AW fun _=>rfl) Tp
theorem bY {n:Int} {l:List BM}:BP prog 78 [int n,reqs l,ints s] (C_ [bool (Sr n l s),int (Lw n l s)]) (CE) (fun _=>CE):=by
 refine BP.of func78 rfl rfl Am fun M0 w0 S rs M1 w1=> ?_
 refine ac ?_
 refine ap ?_
 refine TO.F0 0 rfl rfl AB (Ae rfl rfl AB rfl (Wg (n:=n) (l:=l)) ⟨kq,kz⟩) ?_
 refine ap ?_
 refine an ?_ ?_<;>intro h1 q1
 have hv:=zI (s:=s) (n:=n) (l:=l) Gb
 refine ac ?_
 refine wk [7,6] rfl (Tr.ret (Fin.AE (Fin.FG rfl rfl ?_ rfl ?_)))
 · refine bool_eq ?_;exact hv.2.symm
 · refine int_eq ?_;exact hv.1.symm
 have hv:BD n l=0:=by simpa using h1
 have OB:=(Cm hv).1
 obtain ⟨N,rfl⟩:∃N:Nat,n=(N:Int):=⟨n.toNat,by omega⟩
 refine Tr.re 8 rfl (Pr.le_of_eq (Qs hv)) ?_
 refine a2 ?_
 refine co rfl (Bq (Wj (n:=N) (B:=EF N l) (l:=s) AA) rfl rfl rfl) ?_
 refine ac ?_
 refine wk [11,10,8] rfl ?_
 refine an ?_ ?_<;>intro h2 q2
 have QJ:=zJ (n:=(N:Int)) hv LN
 refine ac ?_
 refine Tr.ret (Fin.AE (Fin.FG rfl rfl ?_ rfl ?_))
 · refine bool_eq ?_;exact QJ.2.symm
 · refine int_eq ?_;exact QJ.1.symm
 have hsb:Di ((N:Nat):Int) s=true:=by simpa using h2
 have hv3:=YZ hv hsb
 refine ac ?_
 refine ap ?_
 refine TO.F0 0 rfl rfl AB (Ae rfl rfl AB rfl (Ot (n:=N) (C9 N l) (fun i h=>Qt (GZ AA hsb) hsb h)) ⟨kq,kz⟩) ?_
 refine ap ?_
 refine Tr.ret (Fin.FG rfl rfl ?_ rfl ?_)
 · refine bool_eq ?_;rw [hv3.2];exact Py (n:=(N:Int)) hv (GZ AA hsb) (JL hsb)
 · refine int_eq ?_;exact hv3.1.symm
abbrev CF (l:List Bm):Pr:=slice 8 (l.map DO)
def RL (c:BV) (x:Bm):Bool:=decide (x.Aa<0)||decide (x.Aa≥c.Jj.length)
def Ss (c:BV) (x:Bm):Int:=c.Jj.getD x.Aa.toNat 0
def Eu (c:BV) (l:List Bm):Int:=if 24<l.length then 3 else if l.any (RL c) then 40 else 0
def Sv (c:BV) (l:List Bm):List Int:=if Eu c l=0 then l.map (Ss c) else []
open Classical in
noncomputable def K5 (e:D5) (c:BV) (l:List Bm):Int:=if Fl e=false then 31 else if c.check (e.Bu.length:Nat)≠0 then c.check (e.Bu.length:Nat) else Eu c l
variable {l:List Bm} {d:List Int} {r:List BM} {k:Nat}
theorem gm {c:BV} (h:24<l.length):Eu c l=3:=by unfold Eu;rw [if_pos h]
theorem XL {c:BV} {x:Bm} (h:¬24<l.length) (hx:l[k]? =some x) (hb:RL c x=true):Eu c l=40:=by unfold Eu;rw [if_neg h,if_pos (List.any_eq_true.2 ⟨x,List.mem_of_getElem? hx,hb⟩)]
theorem gp {c:BV} (h:¬24<l.length) (hb:∀j y,j<l.length→l[j]? =some y→RL c y=false):Eu c l=0:=by
 unfold Eu;rw [if_neg h,if_neg]
 rw [Bool.not_eq_true,List.any_eq_false]
 intro y hy
 obtain ⟨j,hj⟩:=List.mem_iff_getElem?.1 hy
 rw [hb j y Zo hj];decide
theorem XK {c:BV} {e:Int} (h:Eu c l=e) (he:e≠0):Sv c l=[]:=by unfold Sv;rw [if_neg H7]
theorem Ya {c:BV} (h:Eu c l=0):Sv c l=l.map (Ss c):=by unfold Sv;rw [if_pos h]
theorem zK {c:BV} {x:Bm} (h:0≤x.Aa∧x.Aa<c.Jj.length):c.Jj[x.Aa.toNat]? =some (Ss c x):=by
 unfold Ss;rw [List.getD_eq_getElem?_getD,List.getElem?_eq_getElem AA];rfl
theorem sD {c:BV} {x:Bm} (h:l[k]? =some x):(((l.take k).map (Ss c)).map fun n=>[int n])++[[int (Ss c x)]]=((l.take (k+1)).map (Ss c)).map fun n=>[int n]:=by
 rw [List.take_add_one,h,List.map_append,List.map_append];rfl
def sE (l:List Int):Int:=l.foldl max (-1)
theorem kG {l:List BM} (h0:l≠[]) (hl:l.length≤1000000):BP prog 154 [reqs l] (lens (l.map GF).length) (Bf) (fun v=>EN 61 2 (l.map GF) v):=by
 refine BP.of func154 rfl rfl Am fun M0 w0 S rs M1 w1=> ?_
 have hpos:=Na (f:=GF) h0
 refine a2 ?_
 refine co rfl (F3 rfl underlying33 vq) ?_
 refine ac ?_
 refine Tr.ex 4 rfl (fun z1=>Tr.fact 4 rfl fun Ex=> ?_)
 refine Tr.cn rfl ?_ ?_<;>intro h1 q1
 exfalso;have:=Ex h1;simp_all
 refine ac ?_
 refine ap ?_
 refine TO.pad ?_
 refine TO.Df 0 rfl rfl AB (Jc rfl rfl AB rfl underlying33 DQ OU QN rfl AB AB vq vq hpos IU B8) (fun v1=> ?_)
 refine ap ?_
 refine Tr.ret (Fin.drop 1 ?_)
 refine Fin.EV rfl rfl ?_ QA
 · exact HE
theorem kH   :A0 prog 154 [slice 2 []] (full 2 []):=by
 refine fo func154 rfl ⟨rfl,rfl⟩ fun M0 w0=> ?_
 refine a2 ?_
 refine co rfl (F3 rfl underlying33 vq) ?_
 refine ac ?_
 refine Tr.ex 4 rfl (fun z1=>Tr.fact 4 rfl fun Ex=> ?_)
 · repeat' first|exact Ck 2|exact Lr|refine co rfl (NV rfl underlying33 DQ vq vq) ?_|refine ac ?_|(refine Tr.cn rfl ?_ ?_<;>intro h q)
theorem kI {l:List BM} (hl:l.length≤1000000):A0 Tryz.prog 154 [reqs l] (reqs l):=by
 by_cases h0:l=[]
 · subst h0;exact A0.le kH (fun _ _ _ h=>h) (B4 _ _)
 · exact (BP.AD1 (rows:=l.map GF) (AW fun _=>rfl) (kG h0 hl)).pure
theorem sF (DF:∀x∈l,x.Cb.small) (hl:l.length≤1000000) (hr:r.length≤1000000) (hd:d.length≤1000000):OY prog 100 [agg [CF l,reqs r,ints d]] (fun x=>agg [CF l,reqs r,is x]) (fun x=>[Ba 3 1 (d.map fun n=>[int n]) x]):=by
 refine OY.of func100 rfl rfl Am fun M0 w0 S rs M1 w1=>(Tr.FW 0 0 rfl rfl fun Gh=>(Tr.seq (Tr.BE (tp rfl (BU rfl Be) ?_))))
 refine Tl rfl rfl rfl rfl z35 Gq (fun b1=> ?_)
 refine ao ?_
 refine Tr.seq (Tr.pad (Tr.pad (Tr.pad (Tr.rx ?_))))
 refine ax ?_
 refine xo rfl (fun _=>CM (kI hr) rfl rfl) ?_
 refine ax ?_
 refine Cx.ef 0 rfl rfl AB (F2 rfl rfl AB rfl (Oa (l:=d) hd) kz) ?_
 refine Cx.ef 1 rfl rfl AB (gY (d:=12) (s:=11) (p:=fun v=>agg [is (.slice none 0 0),reqs r,AV v (lens d.length)]) (q:=agg [is (.slice none 0 0),reqs r,lens d.length]) rfl AB (fun _=>BR ⟨Lr,Lr,Ao _ _,trivial⟩) rfl rfl AB (fun v=>Sk rfl rfl AB (fun _=>BO (rows:=[(1,[_]),(2,[_])]) rfl nY Gq ⟨⟨rfl,VL.le vq (Ag _)⟩,⟨⟨rfl,VL.le vq (Ag _)⟩,trivial⟩⟩ rfl))) (Cx.ef 2 rfl rfl AB (Bx rfl rfl AB rfl z35 Gq) (Cx.DP 2 rfl rfl (Oq rfl rfl rfl AB rfl rfl (AY _) CU rfl rfl) ?_))
 refine Cx.nil ⟨by kernel_rfl,?_⟩
 refine Aw.Uh 11 rfl (fun v11=> ?_)
 refine Aw.Uh 12 rfl (fun v12=> ?_)
 refine Aw.Uh 3 rfl (fun v3=> ?_)
 refine Aw.Pt 0 11 rfl rfl (Aw.bM 1 12 11 rfl rfl rfl (Aw.bM 2 3 12 rfl rfl rfl (Aw.done al5 (Fin.shape 3 (fun b=> .pointer (some ⟨b,0,none⟩)) rfl (fun b9 e9=> ?_)))))
 subst e9
 refine Fin.Nv 1 2 rfl rfl (Fin.drop 1 (Fin.go (wk [3,2,1] rfl ?_)))
 refine ac ?_
 refine Tr.block (Tr.G9 1 [AV (.slice none 0 0) (CF (l.take 0)),reqs r,AV v11 (lens d.length)] rfl ⟨Bg rfl,Lr,Lr,trivial⟩ (Tr.B5 86 8 (Tr.EC _ (kk [15,14,3,2] rfl) (fun k u=>[(16,int ((k:Nat):Int))]) (fun k u=>Hp M0 w0 S (As 86 8 u::Ba 3 1 (d.map fun n=>[int n]) v11::AF true b9 35 [AV u (CF (l.take k)),reqs r,AV v11 (lens d.length)]::AF true b1 35 (([.slice none 0 0,.slice none 0 0,.slice none 0 0]:List Value).map is)::Ai M1 w1::rs)) (fun k:Nat=>k≤(l).length) (fun k:Nat=>(l).length-k) 0 (.slice none 0 0) (Nat.zero_le _) kz (fun _ _ h=>h) ?_)))
 rintro k u BJ
 refine ac ?_
 refine Tr.seq ?_
 refine Tr.cn rfl ?_ ?_<;>intro h1 q1
 have AZ:k<(l).length:=AH h1
 obtain ⟨x,AX⟩:=at_ AZ
 refine ac ?_
 refine Tr.seq (Tr.block (Tr.seq (Tr.BE (tp rfl (AD rfl underlying32 DB vq vq AA (AR AX)) (tp rfl (Ad rfl GG DB vq rfl rfl) ?_)))))
 refine Tl rfl rfl rfl rfl NP JZ (fun b10=> ?_)
 refine sf 0 5 ⟨rfl,rfl,rfl⟩ rfl rfl rfl rfl ?_
 refine ao ?_
 refine Tr.pad (Tr.rx ?_)
 refine ax ?_
 refine xo rfl (fun _=>CM (vo (c:=x) (DF x (List.mem_of_getElem? AX))) rfl rfl) ?_
 refine xo rfl (fun _=>Af (xs:=[.tmp 23]) (rows:=[_]) rfl rfl underlying32 DB NP rfl AB ⟨⟨An,(Va rfl)⟩,trivial⟩ AB) ?_
 refine Cx.ef 1 rfl rfl AB (B9 rfl rfl rfl rfl underlying32 DB Xf NP Ea Db (Ay BK FC)) ?_
 refine xo rfl (fun _=>Aq rfl Vt vq) (Cx.DP 3 rfl rfl (Fc rfl rfl rfl vq rfl zi Am) ?_)
 refine Cx.nil ⟨by kernel_rfl,?_⟩
 refine Aw.PF 1 3 25 rfl rfl AB rfl (fun v1=> ?_)
 refine Aw.done fI ?_
 refine ac ?_
 refine Tr.drop 0 (wk [16,15,14,3,2] rfl ?_)
 refine ac ?_
 refine Fin.G9 2 [AV v1 (CF (l.take (k+1))),reqs r,AV v11 (lens d.length)] rfl ⟨BB VQ,Lr,Lr,trivial⟩ ?_
 exact Fin.C8 (k+1) v1 (⟨AZ,by omega⟩) ⟨⟨_,rfl,AG k⟩,kz⟩ (fun _ _ h=>h)
 have A8:k=(l).length:=by have:=AJ h1;omega
 subst A8
 rw [List.take_length]
 refine ac ?_
 refine ao ?_
 refine TO.AK 3 rfl rfl rfl vq Be rfl CU rfl rfl ?_
 refine ao ?_
 refine Tr.ret (Fin.drop 0 (Fin.drop 1 (Fin.G3 (Fin.AAX v11 [_] rfl (AL.cell 0 rfl rfl Da CU rfl Lr) ?_ (List.Perm.refl _)))))
 · exact BR ⟨Ao _ _,Lr,Ct _ _,trivial⟩
noncomputable def XM (c:BV) (l:List Bm) (r:List BM) (fr:Int):Option (List Int×List Int×List Int):=Ol c r (l.map (Ss c)) fr l.length (Dt l.length r l.length).1
open Classical in
noncomputable def Lx (e:D5) (c:BV) (l:List Bm) (r:List BM) (fr:Int):Int:=if K5 e c l≠0 then K5 e c l else if BD (l.length:Nat) r≠0 then BD (l.length:Nat) r else match XM c l r fr with|none=>51|some _=>0
noncomputable def ABT (c:BV) (l:List Bm) (r:List BM) (fr:Int):List Int:=match XM c l r fr with|none=>[]|some p=>p.1
open Classical in
noncomputable def OE (e:D5) (c:BV) (l:List Bm) (r:List BM) (fr:Int):List Bm:=if Lx e c l r fr=0 then l else []
open Classical in
noncomputable def RN (e:D5) (c:BV) (l:List Bm) (r:List BM) (fr:Int):List BM:=if Lx e c l r fr=0 then r else []
open Classical in
noncomputable def VR (e:D5) (c:BV) (l:List Bm) (r:List BM) (fr:Int):List Int:=if Lx e c l r fr=0 then ABT c l r fr else []
noncomputable abbrev sG (e:D5) (c:BV) (l:List Bm) (r:List BM) (fr:Int):List Pr:=[CF (OE e c l r fr),reqs (RN e c l r fr),ints (VR e c l r fr)]
section
variable {e:D5} {c:BV} {l:List Bm} {r:List BM} {fr:Int}
theorem Um {n:Int} (h:c.check n=0):c.own=0∧(c.Jj.length:Int)=n∧∀t∈c.Jj,c.has t=true:=by grind [BV.check,BV.own]
theorem Sw (h:Eu c l=0):l.length≤24∧∀x∈l,RL c x=false:=by grind [Eu]
theorem xV (h:Eu c l=0) (ht:∀t∈c.Jj,c.has t=true):∀x∈l.map (Ss c),c.has x=true:=fun x hx=>by
 obtain ⟨y,hy,rfl⟩:=List.mem_map.1 hx
 have hb:=(Sw h).2 y hy
 unfold RL at hb
 rw [Bool.or_eq_false_iff,decide_eq_false_iff_not,decide_eq_false_iff_not] at hb
 exact ht _ (List.mem_of_getElem? (zK AA))
theorem Un (h:K5 e c l≠0):Lx e c l r fr=K5 e c l:=by unfold Lx;rw [if_pos h]
theorem zL (h:K5 e c l=0) (hv:BD (l.length:Nat) r≠0):Lx e c l r fr=BD (l.length:Nat) r:=by unfold Lx;rw [if_neg (not_not_intro h),if_pos hv]
theorem sH (h:K5 e c l=0) (hv:BD (l.length:Nat) r=0) (hs:XM c l r fr=none):Lx e c l r fr=51:=by grind [Lx]
theorem zM {p:List Int×List Int×List Int} (h:K5 e c l=0) (hv:BD (l.length:Nat) r=0) (hs:XM c l r fr=some p):Lx e c l r fr=0:=by grind [Lx]
theorem sI (h:Lx e c l r fr≠0):OE e c l r fr=[]∧RN e c l r fr=[]∧VR e c l r fr=[]:=by grind [OE,RN,VR]
theorem sJ (h:Lx e c l r fr=0):OE e c l r fr=l∧RN e c l r fr=r∧VR e c l r fr=ABT c l r fr:=by grind [OE,RN,VR]
theorem Sx {k:Int} (h:Lx e c l r fr=k) (hk:k≠0):Pr.le (agg [is (.slice none 0 0),is (.slice none 0 0),is (.slice none 0 0)]) (agg (sG e c l r fr)):=by
 obtain ⟨h1,h2,h3⟩:=sI (e:=e) (c:=c) (l:=l) (r:=r) (fr:=fr) (by rw [h];exact hk)
 unfold sG;rw [h1,h2,h3];exact BR ⟨AP 8,AP 2,AP 1,trivial⟩
theorem xW {d b y:List Int} (h:Lx e c l r fr=0) (hs:XM c l r fr=some (d,b,y)):Pr.le (agg [CF l,reqs r,ints d]) (agg (sG e c l r fr)):=by
 obtain ⟨h1,h2,h3⟩:=sJ h
 unfold sG;rw [h1,h2,h3];unfold ABT;rw [hs];exact Pr.le_refl _
theorem Sy {q:BM} {m:Nat} {d:List Int} {i:Int} (h:r[m]? =some q):GJ (r.take (m+1)) d i fr=if q.thn=i then max (GJ (r.take m) d i fr) (d.getD q.fst.toNat 0+1) else GJ (r.take m) d i fr:=by
 unfold GJ;rw [List.take_add_one,h,List.foldl_append];rfl
theorem Cv {l:List Int} {i:Nat} (h:i<l.length):l[i]? =some (l.getD i 0):=by rw [List.getD_eq_getElem?_getD,List.getElem?_eq_getElem h];rfl
end
open Classical in
section
variable {e:D5} {c:BV} {l:List Bm} {r:List BM} {d:List Int}
end
structure Ig (n:Nat) (r:List BM):Prop where
 up:∀q∈r,(0≤q.fst∧q.fst<q.thn)∧q.thn<n
 srt:EI r=true
theorem Ig.nil (n:Nat):Ig n []:=⟨(fun q h=>by cases h),rfl⟩
theorem Ou (r:List BM) (q:BM):SY r [q]=GU (r.foldl GU []) q:=rfl
theorem Ig.put {n:Nat} {r:List BM} (h:Ig n r) {x y:Int} (h0:0≤x) (h1:x<y) (h2:y<n):Ig n (SY r [⟨x,y⟩]):=by
 refine ⟨fun q hq=> ?_,?_⟩
 ·
  rw [Ou,YN,Tm] at hq
  rcases hq with rfl|hq|hq
  · exact ⟨⟨h0,h1⟩,h2⟩
  · cases hq
  · exact h.up q hq
 · rw [Ou];exact PW (Oj r rfl)
theorem bZ (r:List BM) (q:BM):(SY r [q]).length≤r.length+1:=by grind [Ou,SW,GU,Gi]
theorem Ig.valid {n:Nat} {r:List BM} (h:Ig n r) (hn:n≤24):BD n r=0:=qy hn h.up h.srt
theorem kJ {α:Type} {a b:List α} {k:Nat} {x:α} (hx:a[k]? =some x) (hy:b[k]? =some x) (h:∀j,j<k→a[j]? =b[j]?):∀j,j<k+1→a[j]? =b[j]? :=by grind
theorem sK {α:Type} {a b:List α} (hl:a.length=b.length) (h:∀j,j<a.length→a[j]? =b[j]?):a=b:=List.ext_getElem? fun j=>by
 rcases Nat.lt_or_ge j a.length with h2|h2
 · exact h j h2
 · rw [List.getElem?_eq_none h2,List.getElem?_eq_none AA]
theorem xX {b:Nat} {s:DS} {n:Nat} (hn:n≤24):BP prog 52 [ptr b 0,int ((n:Nat):Int)] (Cp.ex fun r:List BM=>fact (Ig n r∧r.length≤2*n) (reqs r)) (DT b s) (fun _=>JY 104 b):=by
 refine BP.of func52 rfl rfl Am fun M0 w0 S rs M1 w1=> ?_
 have eW:=s.DK (n:=2*(n:Int)+1) AA
 refine ac ?_
 refine ac ?_
 refine Tr.seq (Tr.seq (Tr.BE (tm rfl (tm rfl ?_))))
 refine tp rfl (nD rfl (vl rfl) (vl rfl) ?hin) ?_;case hin=>unfold RO;omega
 refine tp rfl (Gz rfl (vl rfl) (vl rfl) ?hin) ?_;case hin=>unfold RO;omega
 refine TO.F0 0 rfl rfl AB (Ae rfl rfl AB rfl (CI AA AA) ⟨ke rfl,ke rfl,trivial⟩) ?_
 refine ap ?_
 refine Tr.block ?_
 refine Tr.Kc _ (kk [1,0] rfl) (fun (r:List BM) (k:Int) (s2:DS)=>[(6,int k),(5,reqs r)]) (fun (r:List BM) (k:Int) (s2:DS)=>Hp M0 w0 S (DT b s2::Ai M1 w1::rs)) (fun (r:List BM) (k:Int) (s2:DS)=>0≤k∧Ig n r∧(r.length:Int)+k≤2*n) (fun (r:List BM) (k:Int) (s2:DS)=>k.toNat) ([]) (s.val (2*(n:Int)+1)) (_)  (⟨by omega,Ig.nil n,by simp;omega⟩) ⟨kq,⟨_,rfl,AP 2⟩,trivial⟩ (fun _ _ h=>h) ?_
 rintro r k s2  ⟨hk0,hN,hrl⟩
 refine ac ?_
 refine Ch.cs 16 rfl ?_ ?_<;>intro h1 q1
 have hkp:k>0:=by simpa using h1
 refine ac ?_
 refine Tr.cn rfl ?_ ?_<;>intro h2 q2
 have hn1:((n:Nat):Int)>1:=by simpa using h2
 have XH:=s2.DK (n:=(n:Int)) AA
 have QJ:=s2.Ci.DK (n:=(n:Int)) AA
 refine ac ?_
 refine ap ?_
 refine TO.F0 0 rfl rfl AB (Ae rfl rfl AB rfl (CI AA AA) ⟨ke rfl,ke rfl,trivial⟩) ?_
 refine ap ?_
 refine TO.F0 0 rfl rfl AB (Ae rfl rfl AB rfl (CI AA AA) ⟨ke rfl,ke rfl,trivial⟩) ?_
 refine ap ?_
 refine wk [8,7,6,5,1,0] rfl ?_
 refine ac ?_
 refine Tr.cn rfl ?_ ?_<;>intro h3 q3
 refine ac ?_
 refine co rfl (Ah rfl (a_ (a:=r) (b:=[⟨s2.val n,s2.Ci.val n⟩]) AA AO) ⟨kq,Db,trivial⟩) ?_
 refine ac ?_
 refine wk [6,5,1,0] rfl ?_
 refine ac ?_
 exact Fin.C4 (SY r [⟨s2.val n,s2.Ci.val n⟩]) (k-1) (_)  (⟨⟨by omega,hN.put AA H8 AA,by have:=bZ r ⟨s2.val n,s2.Ci.val n⟩;omega⟩,by omega⟩) ⟨kq,kz⟩ (fun _ _ h=>h)
 refine ac ?_
 refine ac ?_
 exact Fin.C4 (r) (k-1) (_)  (⟨⟨by omega,hN,by omega⟩,by omega⟩) ⟨kq,kz⟩ (fun _ _ h=>h)
 have:=h2
 refine ac ?_
 refine ac ?_
 refine Tr.ret (Fin.HX 0 _ rfl rfl (Fin.Gn [] rfl (AL.tmp rfl Lr) ?_ (fun _ _ _ _=>rfl)))
 · exact Az r (BC ⟨hN,by omega⟩ Lr)
 refine ac ?_
 refine ac ?_
 refine ac ?_
 refine Tr.ret (Fin.HX 0 _ rfl rfl (Fin.Gn [] rfl (AL.tmp rfl Lr) ?_ (fun _ _ _ _=>rfl)))
 · exact Az r (BC ⟨hN,by omega⟩ Lr)
theorem kK {a b:List BM}  :A0 prog 105 [reqs a,reqs b] (bool (decide (a=b))):=by
 refine fo func105 rfl ⟨rfl,rfl⟩ fun M0 w0=>(Tr.CG 0 rfl fun DN=>(Tr.CG 1 rfl fun ER=> ?_))
 refine ac ?_
 refine an ?_ ?_<;>intro h1 q1
 refine a2 ?_
 · refine bool_eq ?_;symm;rw [decide_eq_false_iff_not];intro h_;subst h_;omega
 refine a2 ?_
 refine Tr.block (Tr.Ax _ (kk [12,1,0] rfl) (fun k:Nat=>[(13,int ((k:Nat):Int))]) (fun k:Nat=>k≤(a).length∧(∀j,j<k→a[j]? =b[j]?)) (fun k:Nat=>(a).length-k) 0 (⟨Nat.zero_le _,fun j hj=>absurd hj AA⟩) kz ?_)
 rintro k ⟨BJ,AQ⟩
 refine ac ?_
 refine Tr.seq ?_
 refine Tr.cn rfl ?_ ?_<;>intro h2 q2
 have AZ:k<(a).length:=AH h2
 obtain ⟨x,AX⟩:=at_ AZ
 obtain ⟨y,hy⟩:=at_ (l:=b) (k:=k) AA
 · repeat' first|(refine bool_eq ?_;symm;rw [decide_eq_false_iff_not];intro h_;subst h_;rw [AX] at hy;cases hy;simp_all)|(exact Fin.AM (k+1) ⟨⟨AZ,kJ AX (by rw [hy];congr 1;cases x;cases y;simp_all) AQ⟩,by omega⟩ ⟨⟨_,rfl,AG k⟩,kz⟩)|refine co rfl (AD rfl underlying33 DQ vq vq AA (AR AX)) ?_|refine co rfl (AD rfl underlying33 DQ vq vq AA (AR hy)) (co rfl (Ad rfl Iy DQ vq rfl rfl) (co rfl (gJ rfl vq vq) ?_))|refine ac ?_|(refine Tr.cn rfl ?_ ?_<;>intro h q)
 have A8:k=(a).length:=by have:=AJ h2;omega
 subst A8
 refine a3 ?_
 · refine bool_eq ?_;symm;rw [decide_eq_true_eq];exact sK AA AQ
theorem sL {β:Type} {p:β→Bool} {l:List β} {k:Nat} {x:β} (h:l[k]? =some x):idx p (l.take (k+1))=if idx p (l.take k)<0 then (if p x=true then (k:Int) else -1) else idx p (l.take k):=by
 have hk:=BH h
 rw [List.take_add_one,h]
 have hl:(l.take k).length=k:=by rw [List.length_take];omega
 show idx p (l.take k++[x])=_
 generalize l.take k=a at hl ⊢
 unfold idx
 rw [List.findIdx?_append]
 cases ha:a.findIdx? p with
 |some i=>simp;intro h3;omega
 |none=>cases hp:p x<;>simp [hp,hl]
theorem kL {β:Type} {p:β→Bool} {l:List β} {k:Nat} {x:β} (h:l[k]? =some x):(((l.take (k+1)).countP p:Nat):Int)=((l.take k).countP p:Nat)+(if p x=true then 1 else 0):=by
 rw [List.take_add_one,h]
 show (((l.take k++[x]).countP p:Nat):Int)=_
 rw [List.countP_append,List.countP_singleton];split<;>simp_all
theorem Nx {β:Type} {p:β→Bool} {l:List β}:idx p l<0↔l.countP p=0:=by
 unfold idx
 cases h:l.findIdx? p with
 |none=>
  rw [List.findIdx?_eq_none_iff] at h
  simp only [show ((none:Option Nat).map fun n=>(n:Int)).getD (-1)= -1 from rfl]
  constructor
  · intro _;rw [List.countP_eq_zero];intro a ha;rw [h a ha];decide
  · intro _;decide
 |some i=>
  rw [List.findIdx?_eq_some_iff_getElem] at h
  obtain ⟨h1,h2,_⟩:=h
  constructor
  · intro h3;exfalso;revert h3;simp
  · intro h3;rw [List.countP_eq_zero] at h3;exact absurd h2 (h3 _ (List.getElem_mem h1))
theorem xY {β:Type} {p:β→Bool} {l:List β} {k n:Nat} (h:l.length≤n):(l.take k).countP p≤n:=Nat.le_trans List.countP_le_length (Nat.le_trans M7 h)
theorem bsX {l:List Int} {n x:Int} {k:Nat} (h:∀(j:Nat) y,j<k→l[j]? =some y→y<n) (hx:l[k]? =some x) (hlt:x<n):∀(j:Nat) y,j<k+1→l[j]? =some y→y<n:=by grind
def JF (id:Int) (x:Hw):Bool:=x.Cd==id
def GX (id:Int) (l:List Hw):Int:=((l.countP (JF id):Nat):Int)
theorem HP (id:Int) (l:List Hw):Br id l=idx (JF id) l:=rfl
theorem kM {id:Int} {l:List Hw} {k:Nat} {x:Hw} (h:l[k]? =some x):GX id (l.take (k+1))=GX id (l.take k)+(if x.Cd=id then 1 else 0):=by grind [GX,kL,JF]
theorem Yb {id:Int} {l:List Hw} {k:Nat} {x:Hw} (h:l[k]? =some x):Br id (l.take (k+1))=if GX id (l.take k)=0 then (if x.Cd=id then (k:Int) else -1) else Br id (l.take k):=by grind [HP,sL,Nx,JF,GX,idx]
theorem Yc {id:Int} {l:List Hw} (h:GX id l=0):Br id l= -1:=by
 have h2:=(Nx (p:=JF id) (l:=l)).2 (by unfold GX at h;omega)
 rw [HP];unfold idx at h2 ⊢
 cases h3:l.findIdx? (JF id) with
 |none=>rfl
 |some i=>rw [h3] at h2;simp at h2;omega
def IW (e:Bw) (k:Int):Int×Bool:=if k=3 then (e.most,true) else if k=4 then (e.least,true) else if k=11 then (Nc e.Dz,true) else if k=12 then (Nc e.own,true) else (0,false)
def Gj (e:Bw) (k:Int):List Int×Bool×Bool:=
 if k=1∨k=2 then (e.A_,decide (k=1),true) else if k=7∨k=8 then (e.anchors,decide (k=7),true) else if k=9∨k=10 then (e.hashes,decide (k=9),true) else ([],false,false)
theorem T4 (x:Hw):decide (x=B6)=fK x:=by
 rw [Bool.eq_iff_iff,decide_eq_true_eq];unfold fK B6
 cases x;simp only [Hw.mk.injEq,Bool.and_eq_true,decide_eq_true_eq,beq_iff_eq,and_assoc]
 constructor
 · rintro ⟨h1,h2,h3,h4⟩;exact ⟨h1,h2,h3,by simp [h4]⟩
 · rintro ⟨h1,h2,h3,h4⟩;exact ⟨h1,h2,h3,List.eq_nil_of_length_eq_zero AA⟩
theorem Jr {l:List Int} {n:Int}  :A0 prog 326 [ints l,int n] (int (idx (fun y=>n==y) l)):=by
 refine fo func326 rfl ⟨rfl,rfl⟩ fun M0 w0=>(Tr.CG 0 rfl fun DN=> ?_)
 refine a2 ?_
 refine Tr.block (Tr.Ax _ (kk [8,7,1] rfl) (fun k:Nat=>[(9,int ((k:Nat):Int))]) (fun k:Nat=>k≤(l).length∧(∀j y,j<k→l[j]? =some y→(n==y)=false)) (fun k:Nat=>(l).length-k) 0 (⟨Nat.zero_le _,fun j y hj=>absurd hj AA⟩) kz ?_)
 rintro k ⟨BJ,AQ⟩
 refine ac ?_
 refine Tr.seq ?_
 refine Tr.cn rfl ?_ ?_<;>intro h1 q1
 have AZ:k<(l).length:=AH h1
 obtain ⟨x,AX⟩:=at_ AZ
 · repeat' first|(exact int_eq (El (p:=fun y=>n==y) AX CL AQ))|(exact Fin.AM (k+1) ⟨⟨AZ,DR (p:=fun y=>n==y) AX CL AQ⟩,by omega⟩ ⟨⟨_,rfl,AG k⟩,kz⟩)|refine co rfl (AD rfl underlying22 Bi vq vq AA CX) ?_|refine ac ?_|(refine Tr.cn rfl ?_ ?_<;>intro h q)
 have A8:k=(l).length:=by have:=AJ h1;omega
 subst A8
 refine a3 ?_
 · exact int_eq (F8 (p:=fun y=>n==y) AQ)
theorem Ov {e:Bw} {id:Int} (hl:e.ids.length≤1000000):A0 prog 328 [agg (BQ e),int id] (C_ [int (GX id e.ids),int (Br id e.ids)]):=by
 refine fo func328 rfl ⟨rfl,rfl⟩ fun M0 w0=> ?_
 refine a3 ?_
 refine Tr.block (Tr.Ax _ (kk [12,11,1] rfl) (fun k:Nat=>[(13,int ((k:Nat):Int)),(6,int (GX id (e.ids.take k))),(7,int (Br id (e.ids.take k)))]) (fun k:Nat=>k≤(e.ids).length) (fun k:Nat=>(e.ids).length-k) 0 (Nat.zero_le _) ⟨kq,⟨_,rfl,int_eq rfl⟩,⟨_,rfl,int_eq rfl⟩,trivial⟩ ?_)
 rintro k BJ
 refine ac ?_
 refine Tr.seq ?_
 refine Tr.cn rfl ?_ ?_<;>intro h1 q1
 have AZ:k<(e.ids).length:=AH h1
 obtain ⟨x,AX⟩:=at_ AZ
 have hc:=kM (id:=id) AX
 have hi:=Yb (id:=id) AX
 have XX:0≤GX id (e.ids.take k)∧GX id (e.ids.take k)≤1000000:=⟨by unfold GX;omega,by have:=xY (p:=JF id) (k:=k) hl;unfold GX;omega⟩
 have h0:=Yc (id:=id) (l:=e.ids.take k)
 refine ac ?_
 refine ao ?_
 refine tp rfl (AD rfl underlying38 Ep vq vq AA CX) ?_
 refine tp rfl (Ad rfl PG Ep vq rfl rfl) ?_
 refine Tl rfl rfl rfl rfl Vv OV (fun b1=> ?_)
 refine tm rfl ?_
 refine sf 0 9 ⟨rfl,rfl,rfl⟩ rfl rfl rfl rfl ?_
 refine ao ?_
 · repeat' first|exact Fin.AM (k+1) ⟨AZ,by omega⟩ ⟨⟨_,rfl,AG k⟩,⟨_,rfl,int_eq Bp⟩,⟨_,rfl,int_eq Bp⟩,kz⟩|refine ac ?_|(refine Tr.cn rfl ?_ ?_<;>intro h q)
 have A8:k=(e.ids).length:=by have:=AJ h1;omega
 subst A8
 rw [List.take_length]
 refine a2 ?_
 refine Tr.ret (Fin.C6 rfl (Bv.EU _ _) rfl ?_ rfl ?_)
 · exact Lr
 · exact Lr
theorem Yd {b:Bool}  :A0 prog 338 [bool b] (int (Nc b)):=by
 refine fo func338 rfl ⟨rfl,rfl⟩ fun M0 w0=> ?_
 · repeat' first|exact int_eq (by simp_all [Nc])|refine ac ?_|(refine Tr.cn rfl ?_ ?_<;>intro h q)
theorem bf {e:Bw} {k:Int}  :A0 prog 327 [agg (BQ e),int k] (C_ [int (IW e k).1,bool (IW e k).2]):=by
 refine fo func327 rfl ⟨rfl,rfl⟩ fun M0 w0=> ?_
 refine a2 ?_
 refine an ?_ ?_<;>intro h1 q1
 refine ac ?_
 refine Tr.ret (Fin.AU (Fin.AE (Fin.C6 rfl (Bv.EU _ _) rfl ?_ rfl ?_)))
 · exact M9
 · exact M8
 refine an ?_ ?_<;>intro h2 q2
 refine ac ?_
 refine Tr.ret (Fin.AU (Fin.AE (Fin.C6 rfl (Bv.EU _ _) rfl ?_ rfl ?_)))
 · exact M9
 · exact M8
 refine an ?_ ?_<;>intro h3 q3
 refine ac ?_
 refine co rfl (CM (Yd) rfl rfl) ?_
 refine ac ?_
 refine wk [5,4] rfl (Tr.ret (Fin.AU (Fin.AE (Fin.C6 rfl (Bv.EU _ _) rfl ?_ rfl ?_))))
 · exact M9
 · exact M8
 refine an ?_ ?_<;>intro h4 q4
 refine ac ?_
 refine co rfl (CM (Yd) rfl rfl) ?_
 refine ac ?_
 refine wk [5,4] rfl (Tr.ret (Fin.AU (Fin.AE (Fin.C6 rfl (Bv.EU _ _) rfl ?_ rfl ?_))))
 · exact M9
 · exact M8
 refine a2 ?_
 refine wk [5,4] rfl (Tr.ret (Fin.C6 rfl (Bv.EU _ _) rfl ?_ rfl ?_))
 · exact M9
 · exact M8
theorem kN {c:Bm} (hcs:c.Cb.small):A0 prog 324 [agg (DO c)] (bool (decide (KC c))):=by
 refine fo func324 rfl ⟨rfl,rfl⟩ fun M0 w0=> ?_
 refine ac ?_
 refine ac ?_
 refine co rfl (Ah rfl (R_ (a:=c.Cb) (b:=B6) hcs) ⟨kq,⟨_,rfl,BR ⟨Lr,Lr,Lr,AP 15,trivial⟩⟩,trivial⟩) ?_
 refine ac ?_
 refine ac ?_
 refine ac ?_
 refine Tr.cn rfl ?_ ?_<;>intro h1 q1
 refine ac ?_
 refine ac ?_
 · exact U8
 refine ac ?_
 refine Tr.cn rfl ?_ ?_<;>intro h2 q2
 refine ac ?_
 refine wk [2] rfl ?_
 refine ac ?_
 · exact U8
 refine ac ?_
 refine ac ?_
 refine Ch.cs 21 rfl ?_ ?_<;>intro h3 q3
 refine ac ?_
 refine Ch.cs 26 rfl ?_ ?_<;>intro h4 q4
 refine ac ?_
 refine Ch.cs 29 rfl ?_ ?_<;>intro h5 q5
 refine ac ?_
 refine wk [2] rfl ?_
 refine ac ?_
 · exact U8
 refine ac ?_
 refine wk [2] rfl ?_
 refine ac ?_
 · exact U8
 refine ac ?_
 refine wk [2] rfl ?_
 refine ac ?_
 · exact c_
 refine ac ?_
 refine wk [2] rfl ?_
 refine ac ?_
 · exact c_
theorem Ye {e:Bw} {k:Int}  :A0 prog 325 [agg (BQ e),int k] (C_ [ints (Gj e k).1,bool (Gj e k).2.1,bool (Gj e k).2.2]):=by
 refine fo func325 rfl ⟨rfl,rfl⟩ fun M0 w0=> ?_
 refine a2 ?_
 refine an ?_ ?_<;>intro h1 q1
 refine ac ?_
 refine Tr.cond rfl (fun _=> ?_) (fun h=>nomatch h1.symm.trans h)
 refine ac ?_
 refine wk [6,5,4] rfl (Tr.ret (Fin.AU (Fin.AE (Fin.JR rfl (Bv.EU _ _) rfl ?_ rfl ?_ rfl ?_))))
 · exact LJ
 · exact Fu
 · exact Fu
 refine an ?_ ?_<;>intro h2 q2
 refine ac ?_
 refine wk [6,5,4] rfl (Tr.ret (Fin.AU (Fin.AE (Fin.JR rfl (Bv.EU _ _) rfl ?_ rfl ?_ rfl ?_))))
 · exact LJ
 · exact Fu
 · exact Fu
 refine an ?_ ?_<;>intro h3 q3
 refine ac ?_
 refine Tr.cond rfl (fun _=> ?_) (fun h=>nomatch h3.symm.trans h)
 refine ac ?_
 refine wk [6,5,4] rfl (Tr.ret (Fin.AU (Fin.AE (Fin.JR rfl (Bv.EU _ _) rfl ?_ rfl ?_ rfl ?_))))
 · exact LJ
 · exact Fu
 · exact Fu
 refine an ?_ ?_<;>intro h4 q4
 refine ac ?_
 refine wk [6,5,4] rfl (Tr.ret (Fin.AU (Fin.AE (Fin.JR rfl (Bv.EU _ _) rfl ?_ rfl ?_ rfl ?_))))
 · exact LJ
 · exact Fu
 · exact Fu
 refine ac ?_
 refine wk [22,7,2,1] rfl ?_
 refine Tr.cn rfl ?_ ?_<;>intro h5 q5
 refine ac ?_
 refine Tr.cond rfl (fun _=> ?_) (fun h=>nomatch h5.symm.trans h)
 refine ac ?_
 refine Tr.ret (Fin.AU (Fin.AE (Fin.JR rfl (Bv.EU _ _) rfl ?_ rfl ?_ rfl ?_)))
 · exact LJ
 · exact Fu
 · exact Fu
 refine an ?_ ?_<;>intro h6 q6
 refine ac ?_
 refine Tr.ret (Fin.AU (Fin.AE (Fin.JR rfl (Bv.EU _ _) rfl ?_ rfl ?_ rfl ?_)))
 · exact LJ
 · exact Fu
 · exact Fu
 refine a2 ?_
 refine Tr.ret (Fin.JR rfl (Bv.EU _ _) rfl ?_ rfl ?_ rfl ?_)
 · exact Pr.le_trans (AP 1) (Pr.le_of_eq (by rw [show (Gj e k).1=[] by simp_all [Gj]];rfl))
 · exact Fu
 · exact Fu
theorem Ow {l:List Int} {i:Nat} {n:Int} (hi:i≤l.length) (hl:l.length≤1000000):A0 prog 329 [ints l,int ((i:Nat):Int),int n] (ints (l.take i++[n]++l.drop i)):=by
 refine fo func329 rfl ⟨rfl,rfl⟩ fun M0 w0=> ?_
 have hml:(l.map fun n:Int=>[int n]).length=l.length:=List.length_map _
 refine ac ?_
 refine ap ?_
 refine tp rfl (Dp rfl underlying22 Bi vq vq AA AA) (TO.pad ?_)
 refine TO.Df 0 rfl rfl AB (EM rfl rfl AB rfl underlying22 Bi G_ z3 rfl AB ⟨_,rfl,AP _⟩ vq JJ JK (Bs BK ⟨_,rfl,Ck 1⟩)) (fun v1=> ?_)
 refine ap ?_
 refine ap ?_
 refine TO.Df 0 rfl rfl AB (B9 rfl rfl rfl rfl underlying22 Bi G_ z3 Ea Db (Ay BK FC)) (fun v2=> ?_)
 refine ap ?_
 refine ap ?_
 refine tp rfl (De rfl underlying22 Bi vq vq AA AA) ?_
 refine TO.Df 0 rfl rfl AB (B9 rfl rfl rfl rfl underlying22 Bi G_ z3 Ea vq (Ay BK FC)) (fun v3=> ?_)
 refine ap ?_
 refine wk [6] rfl ?_
 refine ac ?_
 · exact Pr.le_trans (Ao _ _) (Pr.le_of_eq (by show _=slice 1 ((l.take i++[n]++l.drop i).map fun n=>[int n]);simp [List.map_take,List.map_drop]))
theorem Js {l:List Int} {i:Nat} (hi:i<l.length) (hl:l.length≤1000000):A0 prog 330 [ints l,int ((i:Nat):Int)] (ints (l.eraseIdx i)):=by
 refine fo func330 rfl ⟨rfl,rfl⟩ fun M0 w0=> ?_
 have hml:(l.map fun n:Int=>[int n]).length=l.length:=List.length_map _
 refine ac ?_
 refine ap ?_
 refine tp rfl (Dp rfl underlying22 Bi vq vq AA AA) (TO.pad ?_)
 refine TO.Df 0 rfl rfl AB (EM rfl rfl AB rfl underlying22 Bi G_ z3 rfl AB ⟨_,rfl,AP _⟩ vq JJ JK (Bs BK ⟨_,rfl,Ck 1⟩)) (fun v1=> ?_)
 refine ap ?_
 refine ap ?_
 refine tp rfl (De rfl underlying22 Bi vq vq AA AA) ?_
 refine TO.Df 0 rfl rfl AB (B9 rfl rfl rfl rfl underlying22 Bi G_ z3 Ea vq (Ay BK FC)) (fun v2=> ?_)
 refine ap ?_
 refine ac ?_
 · exact Pr.le_trans (Ao _ _) (Pr.le_of_eq (by rw [List.eraseIdx_eq_take_drop_succ];show _=slice 1 ((l.take i++l.drop (i+1)).map fun n=>[int n]);simp [List.map_take,List.map_drop,show (((i:Nat):Int)+1).toNat=i+1 by omega]))
theorem Pa {l:List Int} {n:Int} (hl:l.length≤1000000):A0 prog 331 [ints l,int n] (ints (aH l n)):=by
 refine fo func331 rfl ⟨rfl,rfl⟩ fun M0 w0=>(Tr.CG 0 rfl fun DN=> ?_)
 refine a2 ?_
 refine Tr.seq (Tr.block (Tr.Ax _ (kk [1,0] rfl) (fun k:Nat=>[(5,int ((k:Nat):Int))]) (fun k:Nat=>k≤l.length∧(∀j y,j<k→l[j]? =some y→y<n)) (fun k:Nat=>l.length-k) 0 (⟨Nat.zero_le _,fun j y hj=>absurd hj AA⟩) kz ?_))
 rintro k ⟨BJ,hinv⟩
 refine ag ?_ ?_<;>intro h1 q1
 obtain ⟨x,hx⟩:=at_ (l:=l) (k:=k) AA
 refine ac ?_
 refine cy h1 rfl (AD rfl underlying22 Bi vq vq AA (AR hx)) ?_
 refine ac ?_
 refine wk [17,5,1,0] rfl ?_
 refine Tr.cn rfl ?_ ?_<;>intro h2 q2
 have hq:=h2
 refine a2 ?_
 exact Fin.AM (k+1) ⟨⟨by omega,bsX hinv hx (by simpa using hq)⟩,by omega⟩ ⟨⟨_,rfl,AG k⟩,kz⟩
 have hp:FJ l n=k:=WD BJ hinv (fun y hy=>by have h_:=h2;rw [hx] at hy;cases hy;simpa using h_)
 refine a2 ?_
 refine co rfl (Ah rfl (Ow (l:=l) (i:=FJ l n) (fL _ _) hl) ⟨kq,⟨_,rfl,int_eq AA⟩,kz⟩) ?_
 refine a2 ?_
 · exact Lr
 have hp:FJ l n=k:=WD BJ hinv (fun y hy=>by have:=BH hy;have:=q1;omega)
 refine ac ?_
 refine wk [17,5,1,0] rfl ?_
 refine a2 ?_
 refine co rfl (Ah rfl (Ow (l:=l) (i:=FJ l n) (fL _ _) hl) ⟨kq,⟨_,rfl,int_eq AA⟩,kz⟩) ?_
 refine a2 ?_
 · exact Lr
def ZI (e:Bw) (c:Bm):Int:=
 if G4 e=false then 19 else if ¬KC c then 40
 else if c.kind=1∧(c.at_<0∨(e.A_.length:Int)<c.at_) then 2
 else if c.kind=5∧(c.at_<0∨(e.ids.length:Int)<c.at_) then 2
 else if (c.kind=11∨c.kind=12)∧(c.number≠0∧c.number≠1) then 2
 else if (Gj e c.kind).2.2=true∧decide (0≤idx (fun y=>c.number==y) (Gj e c.kind).1)=(Gj e c.kind).2.1 then 41
 else if (IW e c.kind).2=true∧(IW e c.kind).1=c.number then 41
 else if c.kind=5∧0<GX c.Cb.Cd e.ids then 41
 else if c.kind=6∧GX c.number e.ids=0 then 41
 else if c.kind=6∧1<GX c.number e.ids then 5 else 0
theorem Wn {l:List Int} (hs:vp l) {n:Int}:idx (fun y=>n==y) l=if Gu l n=true then ((FJ l n:Nat):Int) else -1:=by
 by_cases h:Gu l n=true
 ·
  rw [if_pos h]
  obtain ⟨y,hy⟩:=at_ (WG h)
  have hyn:y=n:=by grind
  exact (El (p:=fun y=>n==y) hy (by simp [hyn]) (fun j z hj hz=>by have:=WE hj hz;simp;omega)).symm
 ·
  rw [if_neg h]
  refine (F8 (p:=fun y=>n==y) (fun j z hj hz=> ?_)).symm
  simp only [beq_eq_false_iff_ne,ne_eq]
  intro hn;subst hn
  rcases Nat.lt_trichotomy j (FJ l n) with h1|h1|h1
  · have:=WE h1 hz;omega
  · grind
  ·
   obtain ⟨y,hy⟩:=at_ (l:=l) (k:=FJ l n) (by have:=BH hz;omega)
   have h2:=fM hy
   have h3:=vu hs h1 hy hz
   omega
theorem xZ {l:List Hw} {n:Int} {x:Hw} (h0:¬Br n l<0) (hx:l[(Br n l).toNat]? =some x):(1<GX n l)↔((l.drop (Br n l+1).toNat).any fun x=>x.Cd==n)=true:=by
 obtain ⟨y,hy,hp,hlt⟩:=QT (p:=JF n) (l:=l) (by rw [←HP];omega)
 rw [←HP] at hy hlt
 have hsplit:l=l.take (Br n l).toNat++y::l.drop ((Br n l).toNat+1):=by
  rw [List.getElem?_eq_getElem hlt] at hy;cases hy
  rw [List.getElem_cons_drop];exact (List.take_append_drop _ _).symm
 have h1:(l.take (Br n l).toNat).countP (JF n)=0:=by
  refine Nx.1 (Int.not_le.1 fun h2=> ?_)
  obtain ⟨z,hz,hzp,hzl⟩:=QT h2
  have e1:Br n l=idx (JF n) (l.take (Br n l).toNat):=by
   obtain ⟨i,hi⟩:∃i:Nat,idx (JF n) (l.take (Br n l).toNat)=(i:Int):=⟨_,(Int.toNat_of_nonneg h2).symm⟩
   have h3:((l.take (Br n l).toNat).findIdx? (JF n))=some i:=by
    unfold idx at hi;cases h4:(l.take (Br n l).toNat).findIdx? (JF n) with
    |none=>rw [h4] at hi;simp at hi
    |some k=>rw [h4] at hi;rw [show k=i by simp at hi;omega]
   have h5:l.findIdx? (JF n)=some i:=by grind
   have e2:idx (JF n) l=(i:Int):=by unfold idx;rw [h5]
   exact e2.trans hi.symm
  rw [←e1] at hzl;rw [List.length_take] at hzl;omega
 have h2:l.countP (JF n)=1+(l.drop ((Br n l).toNat+1)).countP (JF n):=by grind
 unfold GX;rw [h2,show (Br n l+1).toNat=(Br n l).toNat+1 by omega]
 show _↔(List.any _ (JF n))=true
 rw [List.any_eq_true,←List.countP_pos_iff];omega
theorem xd {l:List Int} {n:Int}:decide (0≤idx (fun y=>n==y) l)=l.any fun y=>n==y:=QS _ _
theorem Qu {l:List Int} (hs:vp l) {n:Int}:decide (0≤idx (fun y=>n==y) l)=Gu l n:=by
 rw [Wn hs];cases Gu l n<;>simp
theorem Yf {e:Bw} {c:Bm} (hce:G4 e=true) (hc:KC c):ZI e c=match CJ e c with| .error f=>f| .ok _=>0:=by
 have ok:=Dl.1 hce
 have ha:=QU ok.anc;have hh:=QU ok.hash
 have hk:=hc.1
 unfold ZI
 rw [if_neg (by rw [hce];decide),if_neg (not_not_intro hc)]
 have h0:c.kind=1∨c.kind=2∨c.kind=3∨c.kind=4∨c.kind=5∨c.kind=6∨c.kind=7∨c.kind=8∨c.kind=9∨c.kind=10∨c.kind=11∨c.kind=12:=by omega
 rcases h0 with h|h|h|h|h|h|h|h|h|h|h|h
 ·
  rw [QV h];unfold Gj IW;simp only [h]
  by_cases h1:c.at_<0∨(e.A_.length:Int)<c.at_
  · grind
  ·
   have h2:0≤c.at_∧c.at_≤(e.A_.length:Int):=by omega
   have h3:=xd (l:=e.A_) (n:=c.number)
   have h4:(0≤idx (fun y=>c.number==y) e.A_)↔(e.A_.any fun y=>c.number==y)=true:=by rw [←h3,decide_eq_true_eq]
   by_cases h5:(e.A_.any fun y=>c.number==y)=true
   · grind
   · grind
 ·
  rw [QW h];unfold Gj IW Nd;simp only [h]
  by_cases h1:idx (fun y=>c.number==y) e.A_<0
  · simp [h1]
  · simp [h1]
 · rw [QX h];unfold Gj IW;simp only [h];by_cases h1:e.most=c.number<;>simp [h1]
 · rw [QY h];unfold Gj IW;simp only [h];by_cases h1:e.least=c.number<;>simp [h1]
 ·
  rw [QZ h];unfold Gj IW;simp only [h]
  have wh:=Nx (p:=JF c.Cb.Cd) (l:=e.ids)
  rw [←HP] at wh
  by_cases h1:c.at_<0∨(e.ids.length:Int)<c.at_
  · grind
  ·
   have h3:0≤c.at_∧c.at_≤(e.ids.length:Int):=by omega
   by_cases h2:0≤Br c.Cb.Cd e.ids
   ·
    have:0<GX c.Cb.Cd e.ids:=by unfold GX;omega
    simp [h1,h2,h3,this]
   ·
    have:¬0<GX c.Cb.Cd e.ids:=by unfold GX;omega
    simp [h1,h2,h3,this]
 ·
  rw [Qa h];unfold Gj IW;simp only [h]
  have wh:=Nx (p:=JF c.number) (l:=e.ids)
  rw [←HP] at wh
  by_cases h2:Br c.number e.ids<0
  ·
   have:GX c.number e.ids=0:=by unfold GX;omega
   cases e.ids[(Br c.number e.ids).toNat]? <;>simp [h2,this]
  ·
   have h3:¬GX c.number e.ids=0:=by unfold GX;omega
   obtain ⟨x,hx,_,_⟩:=QT (p:=fun x:Hw=>x.Cd==c.number) (l:=e.ids) (by unfold Br at h2;omega)
   have hx:e.ids[(Br c.number e.ids).toNat]? =some x:=hx
   have hd:=xZ h2 hx
   rw [hx];simp only [if_neg h2]
   by_cases h4:((e.ids.drop (Br c.number e.ids+1).toNat).any fun x=>x.Cd==c.number)=true
   · grind
   · grind
 ·
  rw [Qb h];unfold Gj IW;simp only [h]
  have h1:(0≤idx (fun y=>c.number==y) e.anchors)↔Gu e.anchors c.number=true:=by rw [←Qu ha,decide_eq_true_eq]
  by_cases h2:Gu e.anchors c.number=true
  · grind
  · grind
 ·
  rw [Qc h];unfold Gj IW;simp only [h]
  have h1:(0≤idx (fun y=>c.number==y) e.anchors)↔Gu e.anchors c.number=true:=by rw [←Qu ha,decide_eq_true_eq]
  by_cases h2:Gu e.anchors c.number=true
  · grind
  · grind
 ·
  rw [Qd h];unfold Gj IW;simp only [h]
  have h1:(0≤idx (fun y=>c.number==y) e.hashes)↔Gu e.hashes c.number=true:=by rw [←Qu hh,decide_eq_true_eq]
  by_cases h2:Gu e.hashes c.number=true
  · grind
  · grind
 ·
  rw [Nf h];unfold Gj IW;simp only [h]
  have h1:(0≤idx (fun y=>c.number==y) e.hashes)↔Gu e.hashes c.number=true:=by rw [←Qu hh,decide_eq_true_eq]
  by_cases h2:Gu e.hashes c.number=true
  · grind
  · grind
 ·
  rw [Ng h];unfold Gj IW;simp only [h]
  by_cases h1:0≤c.number∧c.number≤1
  · grind
  · grind
 ·
  rw [Nh h];unfold Gj IW;simp only [h]
  by_cases h1:0≤c.number∧c.number≤1
  · grind
  · grind
theorem xe {e:Bw} {c:Bm} (h:ZI e c≠0):Eg e c=(FT,IK,ZI e c):=by grind [G4,ZI,Eg,KC,Yf,CJ,jX]
theorem ABU {e:Bw} {c:Bm} (h:ZI e c=0):G4 e=true∧KC c∧∃e2 b,CJ e c= .ok (e2,b):=by
 by_cases hce:G4 e=false
 ·
  have:ZI e c=19:=by unfold ZI;rw [if_pos hce]
  rw [this] at h;cases h
 ·
  by_cases hc:KC c
  ·
   have hce:G4 e=true:=by simpa using hce
   have hs:=Yf hce hc
   cases h2:CJ e c with
   |error f=>
    rw [h2] at hs;rw [h] at hs
    have h3:(0:Int)=f:=hs
    have:=YB hc h2;omega
   |ok r=>exact ⟨hce,hc,r.1,r.2,rfl⟩
  ·
   have:ZI e c=40:=by unfold ZI;rw [if_neg hce,if_pos hc]
   rw [this] at h;cases h
theorem Sz {β γ:Type} {f:β→γ} {l:List β} {k:Nat} {x:β} (h:l[k]? =some x):(l.take k).map f++[f x]=(l.take (k+1)).map f:=by rw [List.take_add_one,h,List.map_append];rfl
theorem Mn {x:Hw} (hx:x.small):A0 prog 146 [agg (E_ x)] (agg (E_ x)):=by
 refine fo func146 rfl ⟨rfl,rfl⟩ fun M0 w0=> ?_
 have hch:=hx.chain
 refine Tr.seq (Tr.BE (tp rfl (BU rfl Be) ?_))
 refine Tl rfl rfl rfl rfl Vv OV (fun b1=> ?_)
 refine ap ?_
 refine ap ?_
 refine Tl rfl rfl rfl rfl Vv OV (fun b2=> ?_)
 refine ap ?_
 refine ac ?_
 refine wk [14,13,12,3,2] rfl (Tr.block (Tr.G9 0 [int x.CN,int x.bits,int x.Cd,AV (.slice none 0 0) (slice 15 ((x.chain.take 0).map C0))] rfl ⟨Lr,Lr,Lr,Bg rfl,trivial⟩ (Tr.B5 189 15 (Tr.EC _ (kk [13,12,3,2] rfl) (fun k v=>[(14,int ((k:Nat):Int))]) (fun k v=>Hp M0 w0 FO ([As 189 15 v,AF true b2 84 [int x.CN,int x.bits,int x.Cd,AV v (slice 15 ((x.chain.take k).map C0))],AF true b1 84 (([.int .i64 0,.int .i64 0,.int .i64 0,.slice none 0 0]:List Value).map is)])) (fun k:Nat=>k≤(x.chain).length) (fun k:Nat=>(x.chain).length-k) 0 (.slice none 0 0) (Nat.zero_le _) kz (fun _ _ h=>h) ?_))))
 rintro k v BJ
 refine ac ?_
 refine Tr.seq ?_
 refine Tr.cn rfl ?_ ?_<;>intro h1 q1
 have AZ:k<(x.chain).length:=AH h1
 obtain ⟨c,AX⟩:=at_ AZ
 have hcn:=hx.names c (List.mem_of_getElem? AX)
 refine ac ?_
 refine Tr.seq (Tr.block (Tr.seq (Tr.BE (tp rfl (AD rfl underlying82 Dv vq vq AA CX) ?_))))
 refine tp rfl (Ad rfl Ia Dv vq rfl rfl) ?_
 refine Tl rfl rfl rfl rfl Ro L3 (fun b3=> ?_)
 refine ap ?_
 refine ap ?_
 refine tp rfl (Jh rfl underlying127 O6 by9 z9 rfl AB vq P0 P9) ?_
 refine ap ?_
 refine wk [14,13,12,5,3,2] rfl ?_
 refine ap ?_
 refine TO.Df 1 rfl rfl AB (B9 rfl rfl rfl rfl underlying82 Dv yf Ro Ea Db (Ay BK FC)) (fun v1=> ?_)
 refine ap ?_
 refine Tr.drop 0 ?_
 refine ac ?_
 refine Fin.G9 1 [int x.CN,int x.bits,int x.Cd,AV v1 (slice 15 ((x.chain.take (k+1)).map C0))] rfl ⟨Lr,Lr,Lr,BB (Sz (f:=C0) AX),trivial⟩ (Fin.C8 (k+1) v1 (⟨AZ,by omega⟩) ⟨⟨_,rfl,AG k⟩,kz⟩ (fun _ _ h=>h))
 have A8:k=(x.chain).length:=by have:=AJ h1;omega
 subst A8
 refine ac ?_
 refine ap ?_
 refine Tr.ret (Fin.Cf rfl (AL.cell 2 rfl rfl PG Ep rfl Lr) ?_)
 · exact BR ⟨Lr,Lr,Lr,Pr.le_trans (Ao _ _) (Pr.le_of_eq QC),trivial⟩
theorem S0 {c:Bm} (hx:c.Cb.small):A0 prog 86 [agg (DO c)] (agg (DO c)):=by
 refine fo func86 rfl ⟨rfl,rfl⟩ fun M0 w0=>(Tr.seq (Tr.BE ?_))
 refine TO.Vk rfl rfl AB rfl Be (fun b1=> ?_)
 refine Tl rfl rfl rfl rfl NP JZ (fun b2=> ?_)
 refine ap ?_
 refine ap ?_
 refine tp rfl (CM (Mn (x:=c.Cb) hx) rfl rfl) ?_
 refine ap ?_
 refine ap ?_
 refine Tr.drop 1 (Tr.ret (Fin.Cf rfl (AL.cell 0 rfl rfl GG DB rfl Lr) ?_))
 · exact Lr
theorem Uo {e:Bw} (DF:e.small):A0 prog 302 [agg (BQ e)] (agg (BQ e)):=by
 refine fo func302 rfl ⟨rfl,rfl⟩ fun M0 w0=> ?_
 have hs1:=DF.A_
 have V9:=DF.anchors
 have hs3:=DF.hashes
 have hs4:=DF.Ze
 refine Tr.seq (Tr.BE (tp rfl (BU rfl Be) ?_))
 refine Tl rfl rfl rfl rfl z40 Hx (fun b1=> ?_)
 refine ao ?_
 refine ao ?_
 refine Tl rfl rfl rfl rfl z40 Hx (fun b2=> ?_)
 refine TO.AK 0 rfl rfl rfl vq Be rfl CS rfl rfl ?_
 refine ao ?_
 refine Tr.seq (Tr.rx ?_)
 refine ax ?_
 refine xo rfl (fun _=>Jh rfl underlying22 Bi G_ z3 rfl AB vq P0 P9) ?_
 refine ax ?_
 refine xo rfl (fun _=>Jh rfl underlying22 Bi G_ z3 rfl AB vq P0 P9) ?_
 refine ax ?_
 refine xo rfl (fun _=>Jh rfl underlying22 Bi G_ z3 rfl AB vq P0 P9) ?_
 refine xo rfl (fun _=>Aq rfl Vu vq) (Cx.DP 0 rfl rfl (BF rfl rfl vq F7 NO rfl Am rfl) (xo rfl (fun _=>Aq rfl nh vq) (Cx.DP 0 rfl rfl (BF rfl rfl vq F7 NO rfl Am rfl) (xo rfl (fun _=>Aq rfl nj vq) (Cx.DP 0 rfl rfl (BF rfl rfl vq F7 NO rfl Am rfl) ?_)))))
 refine Cx.nil ⟨by kernel_rfl,?_⟩
 refine Aw.done UL (Fin.go (wk [3,2,1] rfl ?_))
 refine ao ?_
 refine TO.DP 0 rfl rfl (BF rfl rfl vq F7 zj rfl Am rfl) ?_
 refine ao ?_
 refine ac ?_
 refine Tr.block (Tr.G9 0 [str e.name,int e.least,int e.most,ints e.A_,bool e.own,AV (.slice none 0 0) (slice 4 ((e.ids.take 0).map E_)),ints e.anchors,ints e.hashes,bool e.Dz] rfl ⟨Lr,Lr,Lr,Lr,Lr,Bg rfl,Lr,Lr,Lr,trivial⟩ (Tr.B5 84 4 (Tr.EC _ (kk [22,21,3,2] rfl) (fun k v=>[(23,int ((k:Nat):Int))]) (fun k v=>Hp M0 w0 FO ([As 84 4 v,AF true b2 40 [str e.name,int e.least,int e.most,ints e.A_,bool e.own,AV v (slice 4 ((e.ids.take k).map E_)),ints e.anchors,ints e.hashes,bool e.Dz],AF true b1 40 (([.string (ByteArray.mk #[]),.int .i64 0,.int .i64 0,.slice none 0 0,.bool false,.slice none 0 0,.slice none 0 0,.slice none 0 0,.bool false]:List Value).map is)])) (fun k:Nat=>k≤(e.ids).length) (fun k:Nat=>(e.ids).length-k) 0 (.slice none 0 0) (Nat.zero_le _) kz (fun _ _ h=>h) ?_)))
 rintro k v BJ
 refine ac ?_
 refine Tr.seq ?_
 refine Tr.cn rfl ?_ ?_<;>intro h1 q1
 have AZ:k<(e.ids).length:=AH h1
 obtain ⟨x,AX⟩:=at_ AZ
 have hxs:=DF.ids x (List.mem_of_getElem? AX)
 refine ac ?_
 refine Tr.seq (Tr.block (Tr.seq (Tr.BE (tp rfl (AD rfl underlying38 Ep vq vq AA CX) ?_))))
 refine tp rfl (Ad rfl PG Ep vq rfl rfl) ?_
 refine Tl rfl rfl rfl rfl Vv OV (fun b3=> ?_)
 refine sf 0 5 ⟨rfl,rfl,rfl⟩ rfl rfl rfl rfl ?_
 refine ao ?_
 refine Tr.pad (Tr.rx ?_)
 refine ax ?_
 refine xo rfl (fun _=>CM (Mn hxs) rfl rfl) (xo rfl (fun _=>Af (xs:=[.tmp 30]) (rows:=[_]) rfl rfl underlying38 Ep Vv rfl AB ⟨⟨An,(Va rfl)⟩,trivial⟩ AB) ?_)
 refine Cx.ef 1 rfl rfl AB (B9 rfl rfl rfl rfl underlying38 Ep jC Vv Ea Db (Ay BK FC)) ?_
 refine xo rfl (fun _=>Aq rfl Z5 vq) (Cx.DP 2 rfl rfl (Fc rfl rfl rfl vq rfl zj Am) ?_)
 refine Cx.nil ⟨by kernel_rfl,?_⟩
 refine Aw.PF 1 2 32 rfl rfl AB rfl (fun v1=> ?_)
 refine Aw.done al4 ?_
 refine ac ?_
 refine Tr.drop 0 (wk [23,22,21,3,2] rfl ?_)
 refine ac ?_
 refine Fin.G9 1 [str e.name,int e.least,int e.most,ints e.A_,bool e.own,AV v1 (slice 4 ((e.ids.take (k+1)).map E_)),ints e.anchors,ints e.hashes,bool e.Dz] rfl ⟨Lr,Lr,Lr,Lr,Lr,BB (Sz (f:=E_) AX),Lr,Lr,Lr,trivial⟩ (Fin.C8 (k+1) v1 (⟨AZ,by omega⟩) ⟨⟨_,rfl,AG k⟩,kz⟩ (fun _ _ h=>h))
 have A8:k=(e.ids).length:=by have:=AJ h1;omega
 subst A8
 refine ac ?_
 refine ao ?_
 refine TO.AK 2 rfl rfl rfl vq Be rfl CS rfl rfl ?_
 refine ao ?_
 refine Tr.ret (Fin.Cf rfl (AL.cell 2 rfl rfl DC CS rfl Lr) ?_)
 · exact BR ⟨Lr,Lr,Lr,Lr,Lr,Pr.le_trans (Ao _ _) (Pr.le_of_eq QC),Lr,Lr,Lr,trivial⟩
theorem Wo {e:Bw} {c:Bm} (DF:e.small) (hcs:c.Cb.small):A0 prog 315 [agg (BQ e),agg (DO c)] (int (ZI e c)):=by
 refine fo func315 rfl ⟨rfl,rfl⟩ fun M0 w0=> ?_
 refine ac ?_
 refine ac ?_
 refine co rfl (CM (Fi DF) rfl rfl) ?_
 refine ac ?_
 refine Tr.cn rfl ?_ ?_<;>intro h1 q1
 refine ac ?_
 refine ac ?_
 · refine int_eq ?_;unfold ZI;repeat (refine (if_pos ?_).symm;simp_all)
 refine ac ?_
 refine ac ?_
 refine co rfl (CM (kN (c:=c) hcs) rfl rfl) ?_
 refine ac ?_
 refine Tr.cn rfl ?_ ?_<;>intro h2 q2
 refine ac ?_
 refine ac ?_
 · exact Zm
 refine ac ?_
 refine wk [3,2] rfl (Tr.Pm [2,3] [] (¬(c.kind=1∧(c.at_<0∨(e.A_.length:Int)<c.at_))∧¬(c.kind=5∧(c.at_<0∨(e.ids.length:Int)<c.at_))∧¬((c.kind=11∨c.kind=12)∧(c.number≠0∧c.number≠1))) ?_ (fun AKJ=> ?_))
 refine ac ?_
 refine ac ?_
 refine Tr.cn rfl ?_ ?_<;>intro h4 q4
 refine ac ?_
 refine Ch.cs 27 rfl ?_ ?_<;>intro h5 q5
 refine ac ?_
 refine wk [34,3,2] rfl ?_
 refine ac ?_
 refine ac ?_
 · exact Zm
 refine ac ?_
 refine wk [34,3,2] rfl ?_
 refine Tr.cn rfl ?_ ?_<;>intro h6 q6
 refine ac ?_
 refine ac ?_
 · exact Zm
 refine Tr.skip (Fin.block (Fin.AM () AA (i9 rfl)))
 refine ac ?_
 refine Tr.cn rfl ?_ ?_<;>intro h7 q7
 refine ac ?_
 refine Ch.cs 40 rfl ?_ ?_<;>intro h8 q8
 refine ac ?_
 refine wk [47,3,2] rfl ?_
 refine ac ?_
 refine ac ?_
 · exact Q8
 refine ac ?_
 refine wk [47,3,2] rfl ?_
 refine Tr.cn rfl ?_ ?_<;>intro h9 q9
 refine ac ?_
 refine ac ?_
 · exact Q8
 refine Tr.skip (Fin.block (Fin.AM () AA (i9 rfl)))
 refine ac ?_
 refine Tr.cn rfl ?_ ?_<;>intro h10 R9
 refine ac ?_
 refine Tr.cond rfl (fun _=> ?_) (fun h=>nomatch h10.symm.trans h)
 refine ac ?_
 refine Ch.cs 54 rfl ?_ ?_<;>intro h11 Ti
 refine ac ?_
 refine wk [58,3,2] rfl ?_
 refine Tr.cn rfl ?_ ?_<;>intro h12 X0
 refine ac ?_
 refine ac ?_
 · exact Q8
 refine Tr.skip (Fin.block (Fin.AM () AA (i9 rfl)))
 refine ac ?_
 refine wk [58,3,2] rfl (Tr.cond rfl (fun h=>nomatch h) (fun _=> ?_))
 refine Tr.skip (Fin.block (Fin.AM () AA (i9 rfl)))
 refine ac ?_
 refine Tr.cn rfl ?_ ?_<;>intro OQ fO
 refine ac ?_
 refine Ch.cs 54 rfl ?_ ?_<;>intro NN q14
 refine ac ?_
 refine wk [58,3,2] rfl ?_
 refine Tr.cn rfl ?_ ?_<;>intro XG q15
 refine ac ?_
 refine ac ?_
 · exact Q8
 refine Tr.skip (Fin.block (Fin.AM () AA (i9 rfl)))
 refine ac ?_
 refine wk [58,3,2] rfl (Tr.cond rfl (fun h=>nomatch h) (fun _=> ?_))
 refine Tr.skip (Fin.block (Fin.AM () AA (i9 rfl)))
 refine Tr.skip (Fin.block (Fin.AM () AA (i9 rfl)))
 refine wk [3,2] rfl (Tr.Pm [2,3] [] (¬((Gj e c.kind).2.2=true∧decide (0≤idx (fun y=>c.number==y) (Gj e c.kind).1)=(Gj e c.kind).2.1)) ?_ (fun AKK=> ?_))
 refine ac ?_
 refine co rfl (Bq (Ye) rfl rfl rfl) ?_
 refine ac ?_
 refine ac ?_
 refine Ch.cs 68 rfl ?_ ?_<;>intro N7 q17
 refine ac ?_
 refine cy N7 rfl (Bq (Jr) rfl rfl rfl) ?_
 refine ac ?_
 refine wk [76,3,2] rfl ?_
 refine Tr.cn rfl ?_ ?_<;>intro OR q18
 refine ac ?_
 refine ac ?_
 · exact mS
 refine Tr.skip (Fin.AM () Bp (i9 rfl))
 refine ac ?_
 refine wk [76,3,2] rfl (Tr.cond rfl (fun h=>nomatch h) (fun _=> ?_))
 refine Tr.skip (Fin.AM () Bp (i9 rfl))
 refine wk [3,2] rfl (Tr.Pm [2,3] [] (¬((IW e c.kind).2=true∧(IW e c.kind).1=c.number)) ?_ (fun hval=> ?_))
 refine ac ?_
 refine co rfl (Bq (bf) rfl rfl rfl) ?_
 refine ac ?_
 refine ac ?_
 refine Ch.cs 85 rfl ?_ ?_<;>intro TP q20
 refine ac ?_
 refine wk [90,3,2] rfl ?_
 refine Tr.cn rfl ?_ ?_<;>intro fP q21
 refine ac ?_
 refine ac ?_
 · exact mS
 refine Tr.skip (Fin.AM () Bp (i9 rfl))
 refine ac ?_
 refine wk [90,3,2] rfl (Tr.cond rfl (fun h=>nomatch h) (fun _=> ?_))
 refine Tr.skip (Fin.AM () Bp (i9 rfl))
 refine wk [3,2] rfl (Tr.Pm [2,3] [] (¬(c.kind=5∧0<GX c.Cb.Cd e.ids)) ?_ (fun AKL=> ?_))
 refine ac ?_
 refine Tr.cn rfl ?_ ?_<;>intro h23 q23
 refine ac ?_
 refine co rfl (Bq (Ov DF.Ze) rfl rfl rfl) ?_
 refine ac ?_
 refine wk [10,3,2] rfl ?_
 refine ac ?_
 refine Tr.cn rfl ?_ ?_<;>intro OB q24
 refine ac ?_
 refine ac ?_
 · exact Q8
 refine Tr.skip (Fin.AM () AA (i9 rfl))
 refine Tr.skip (Fin.AM () AA (i9 rfl))
 refine ac ?_
 refine Tr.cn rfl ?_ ?_<;>intro h25 q25
 refine ac ?_
 refine co rfl (Bq (Ov DF.Ze) rfl rfl rfl) ?_
 refine ac ?_
 refine wk [12] rfl ?_
 refine ac ?_
 refine Tr.cn rfl ?_ ?_<;>intro h26 q26
 refine ac ?_
 refine ac ?_
 · exact Q8
 refine ac ?_
 refine ac ?_
 refine Tr.cn rfl ?_ ?_<;>intro h27 q27
 refine ac ?_
 refine ac ?_
 · exact Q8
 refine ac ?_
 refine ac ?_
 refine ac ?_
 · exact mX
 refine ac ?_
 refine ac ?_
 refine ac ?_
 · exact mX
def T5 (e:Bw) (c:Bm):Int:=
 if c.kind=7∨c.kind=9 then 0 else if c.kind=5 then 1 else if c.kind=1∨c.kind=12 then 2
 else if c.kind=3 then (if c.number>e.most then 2 else 3) else if c.kind=4 then (if c.number<e.least then 2 else 3) else if c.kind=11 then (if c.number=1 then 2 else 3) else 3
def S1 (a b:Int) (x:JI):Bool:=(decide (x.client=a)&&decide (x.server=b))||(decide (x.client=b)&&decide (x.server=a))
def Pb (l:List JI) (a b:Int):Bool:=decide (a=b)||l.any (S1 a b)
theorem sM {l:List JI} {a b:Int} {k:Nat} {x:JI} (hx:l[k]? =some x) (h:S1 a b x=true):Pb l a b=true:=by grind [Pb]
theorem xg {l:List JI} {a b:Int} (h0:a≠b) (h:∀j y,j<l.length→l[j]? =some y→S1 a b y=false):Pb l a b=false:=by
 unfold Pb
 rw [Bool.or_eq_false_iff,decide_eq_false_iff_not,List.any_eq_false]
 refine ⟨h0,fun y hy=> ?_⟩
 obtain ⟨j,hj⟩:=List.mem_iff_getElem?.1 hy
 rw [h j y (BH hj) hj];decide
def Yg (l:List Bm) (i:Nat):Bm:=l[i]?.getD IK
def bg (e:D5) (c:Bm):Int:=T5 (e.Bu[c.Aa.toNat]?.getD FT) c
def sN (e:D5) (l:List Bm) (i k:Nat):Bool:=Pb e.BX (Yg l i).Aa (Yg l k).Aa&&decide (bg e (Yg l i)<bg e (Yg l k))
def Pu (e:D5) (l:List Bm) (i n:Nat):List BM:=((List.range n).filter (sN e l i)).map fun k:Nat=>⟨(i:Int),(k:Int)⟩
def Yh (e:D5) (l:List Bm) (m:Nat):List BM:=(List.range m).flatMap fun i=>Pu e l i l.length
def xh (e:D5) (l:List Bm):List BM:=Yh e l l.length
theorem Yi (e:D5) (l:List Bm) (i n:Nat):(Pu e l i n).length≤n:=by grind [Pu]
theorem Up (e:D5) (l:List Bm) (m:Nat):Yh e l (m+1)=Yh e l m++Pu e l m l.length:=by unfold Yh;rw [List.range_succ,List.flatMap_append];simp
theorem S2 (e:D5) (l:List Bm):∀m,(Yh e l m).length≤m*l.length
 |0=>by simp [Yh]
 |m+1=>by have h1:=S2 e l m;have h2:=Yi e l m l.length;rw [Up,List.length_append,Nat.succ_mul];omega
theorem sO {e:D5} {l:List Bm} {i k:Nat} (h:sN e l i k=true):Pu e l i (k+1)=Pu e l i k++[⟨(i:Int),(k:Int)⟩]:=by unfold Pu;rw [List.range_succ,List.filter_append,List.map_append];simp [h]
theorem gq {e:D5} {l:List Bm} {i k:Nat} (h:sN e l i k=false):Pu e l i (k+1)=Pu e l i k:=by unfold Pu;rw [List.range_succ,List.filter_append,List.map_append];simp [h]
theorem Uq {e:Bw} {c:Bm}  :A0 prog 96 [agg (BQ e),agg (DO c)] (int (T5 e c)):=by
 refine fo func96 rfl ⟨rfl,rfl⟩ fun M0 w0=> ?_
 refine a2 ?_
 refine an ?_ ?_<;>intro h1 q1
 refine ac ?_
 refine Tr.cond rfl (fun _=> ?_) (fun h=>nomatch h1.symm.trans h)
 refine a2 ?_
 · exact P3
 refine an ?_ ?_<;>intro h2 q2
 refine a2 ?_
 · exact P3
 refine an ?_ ?_<;>intro h3 q3
 refine a2 ?_
 · exact P3
 refine an ?_ ?_<;>intro h4 q4
 refine ac ?_
 refine Tr.cond rfl (fun _=> ?_) (fun h=>nomatch h4.symm.trans h)
 refine ac ?_
 refine wk [4] rfl ?_
 refine ac ?_
 · exact P3
 · repeat' first|(refine int_eq ?_;unfold T5;(repeat' split)<;>omega)|refine ac ?_|(refine Tr.cn rfl ?_ ?_<;>intro h q)
theorem Yj {e:D5} {a b:Int}  :A0 prog 95 [agg (CV e),int a,int b] (bool (Pb e.BX a b)):=by
 refine fo func95 rfl ⟨rfl,rfl⟩ fun M0 w0=>(Tr.FW 0 1 rfl rfl fun Lb=> ?_)
 refine ac ?_
 refine an ?_ ?_<;>intro h1 q1
 refine a2 ?_
 · refine bool_eq ?_;symm;unfold Pb;rw [decide_eq_true Bh,Bool.true_or]
 refine a2 ?_
 refine Tr.block (Tr.Ax _ (kk [14,13,2,1] rfl) (fun k:Nat=>[(15,int ((k:Nat):Int))]) (fun k:Nat=>k≤(e.BX).length∧(∀j y,j<k→e.BX[j]? =some y→S1 a b y=false)) (fun k:Nat=>(e.BX).length-k) 0 (⟨Nat.zero_le _,fun j y hj=>absurd hj AA⟩) kz ?_)
 rintro k ⟨BJ,AQ⟩
 refine ac ?_
 refine Tr.seq ?_
 refine Tr.cn rfl ?_ ?_<;>intro h2 q2
 have AZ:k<(e.BX).length:=AH h2
 obtain ⟨x,AX⟩:=at_ AZ
 refine ac ?_
 refine Tr.seq (Tr.block (Tr.seq (Tr.BE (tp rfl (AD rfl underlying28 Fe vq vq AA (AR AX)) (tp rfl (Ad rfl Rl Fe vq rfl rfl) ?_)))))
 refine Tl rfl rfl rfl rfl jE Xg (fun b1=> ?_)
 refine sf 0 8 ⟨rfl,rfl,rfl⟩ rfl rfl rfl rfl ?_
 refine ao ?_
 · repeat' first|(refine bool_eq ?_;symm;exact sM AX (by unfold S1;simp_all))|(exact Fin.AM (k+1) ⟨⟨AZ,DR (p:=S1 a b) AX (by unfold S1;simp_all) AQ⟩,by omega⟩ ⟨⟨_,rfl,AG k⟩,kz⟩)|refine ac ?_|(refine Tr.cn rfl ?_ ?_<;>intro h q)|(refine Ch.cg rfl rfl rfl ?_ ?_<;>intro h q)
 have A8:k=(e.BX).length:=by have:=AJ h2;omega
 subst A8
 refine a3 ?_
 · refine bool_eq ?_;symm;exact xg Bh AQ
theorem Yk {e:D5} {l:List Bm} (hf:e.fits) (he:Fl e=true) (OB:l.length≤24) (hr:∀c∈l,0≤c.Aa∧c.Aa<(e.Bu.length:Nat)):A0 prog 51 [agg (CV e),CF l] (C_ [reqs (xh e l),int 0]):=by
 refine fo func51 rfl ⟨rfl,rfl⟩ fun M0 w0=>(Tr.FW 0 0 rfl rfl fun Gh=> ?_)
 refine a2 ?_
 refine co rfl (CM (EE hf) rfl rfl) ?_
 refine an ?_ ?_<;>intro h1 q1
 exact absurd h1 (by rw [if_pos he];decide)
 refine ac ?_
 refine an ?_ ?_<;>intro h2 q2
 exfalso;have:=q2;omega
 refine a2 ?_
 refine Tr.block (Tr.Ax _ (kk [20,19,2,1] rfl) (fun m:Nat=>[(21,int ((m:Nat):Int))]) (fun m:Nat=>m≤(l).length) (fun m:Nat=>(l).length-m) 0 (Nat.zero_le _) kz ?_)
 rintro m Nk
 refine ac ?_
 refine Tr.seq ?_
 refine Tr.cn rfl ?_ ?_<;>intro h3 q3
 have Es:m<(l).length:=AH h3
 obtain ⟨x,Ew⟩:=at_ Es
 have hrm:=hr x (List.mem_of_getElem? Ew)
 refine ac ?_
 refine Tr.seq (Tr.block (Tr.seq (Tr.BE (tp rfl (AD rfl underlying32 DB vq vq AA (AR Ew)) (tp rfl (Ad rfl GG DB vq rfl rfl) ?_)))))
 refine Tl rfl rfl rfl rfl NP JZ (fun b1=> ?_)
 refine sf 0 7 ⟨rfl,rfl,rfl⟩ rfl rfl rfl rfl ?_
 refine ao ?_
 · repeat' first|(exfalso;have:=hr x (List.mem_of_getElem? Ew);omega)|exact Fin.AM (m+1) ⟨Es,by omega⟩ ⟨⟨_,rfl,AG m⟩,kz⟩|refine ac ?_|(refine Tr.cn rfl ?_ ?_<;>intro h q)|(refine Ch.cg rfl rfl rfl ?_ ?_<;>intro h q)
 have Kt:m=(l).length:=by have:=AJ h3;omega
 refine a3 ?_
 refine Tr.block (Tr.B5 61 2 (Tr.EC _ (kk [38,37,2,1] rfl) (fun i v=>[(39,int ((i:Nat):Int)),(8,AV v (reqs (Yh e l i)))]) (fun i v=>Hp M0 w0 FO ([As 61 2 v])) (fun i:Nat=>i≤(l).length) (fun i:Nat=>(l).length-i) 0 (.slice none 0 0) (Nat.zero_le _) ⟨kq,⟨_,rfl,Bg rfl⟩,trivial⟩ (fun _ _ h=>h) ?_))
 rintro i v UT
 refine ac ?_
 refine Tr.seq ?_
 refine Tr.cn rfl ?_ ?_<;>intro h6 q6
 have Ic:i<(l).length:=AH h6
 obtain ⟨x,JM⟩:=at_ Ic
 have hri:=hr x (List.mem_of_getElem? JM)
 obtain ⟨ex,hex⟩:=at_ (l:=e.Bu) (k:=x.Aa.toNat) AA
 have hln:=S2 e l i
 have hl2:i*l.length≤24*24:=Nat.mul_le_mul AA OB
 refine ac ?_
 refine ao ?_
 refine tp rfl (AD rfl underlying32 DB vq vq AA (AR JM)) (tp rfl (Ad rfl GG DB vq rfl rfl) ?_)
 refine Tl rfl rfl rfl rfl NP JZ (fun b2=> ?_)
 refine tm rfl ?_
 refine sf 0 10 ⟨rfl,rfl,rfl⟩ rfl rfl rfl rfl ?_
 refine ao ?_
 refine wk [39,38,37,10,9,8,2,1] rfl ?_
 refine ac ?_
 refine Tr.block (Tr.EC _ (kk [45,44,39,38,37,10,9,2,1] rfl) (fun k v=>[(46,int ((k:Nat):Int)),(8,AV v (reqs (Yh e l i++Pu e l i k)))]) (fun k v=>Hp M0 w0 FO ([As 61 2 v])) (fun k:Nat=>k≤(l).length) (fun k:Nat=>(l).length-k) 0 v (Nat.zero_le _) ⟨kq,⟨_,rfl,BB (by simp [Pu])⟩,trivial⟩ (fun _ _ h=>h) ?_)
 rintro k v BJ
 refine ac ?_
 refine Tr.seq ?_
 refine Tr.cn rfl ?_ ?_<;>intro h7 q7
 have AZ:k<(l).length:=AH h7
 obtain ⟨y,AX⟩:=at_ AZ
 have hrk:=hr y (List.mem_of_getElem? AX)
 obtain ⟨ey,hey⟩:=at_ (l:=e.Bu) (k:=y.Aa.toNat) AA
 have Mu:=Yi e l i k
 have hB:sN e l i k=(Pb e.BX x.Aa y.Aa&&decide (T5 ex x<T5 ey y)):=by unfold sN bg Yg;rw [JM,AX,Option.getD_some,Option.getD_some,hex,hey];rfl
 refine ac ?_
 refine ao ?_
 refine tp rfl (AD rfl underlying32 DB vq vq AA (AR AX)) (tp rfl (Ad rfl GG DB vq rfl rfl) ?_)
 refine Tl rfl rfl rfl rfl NP JZ (fun b3=> ?_)
 refine tm rfl ?_
 refine sf 0 12 ⟨rfl,rfl,rfl⟩ rfl rfl rfl rfl ?_
 refine ao ?_
 refine wk [46,45,44,39,38,37,12,11,10,9,8,2,1] rfl ?_
 refine ac ?_
 refine co rfl (Jd (Yj (e:=e) (a:=x.Aa) (b:=y.Aa)) rfl rfl rfl rfl) ?_
 refine cm rfl ?_
 refine Ch.cs 57 rfl ?_ ?_<;>intro h8 q8
 refine ac ?_
 refine cy h8 rfl (AD rfl underlying27 CS vq vq AA (Bb hex)) ?_
 refine ac ?_
 refine cy h8 rfl (Bq (Uq (e:=ex) (c:=x)) rfl rfl rfl) ?_
 refine ac ?_
 refine cy h8 rfl (AD rfl underlying27 CS vq vq AA (Bb hey)) ?_
 refine ac ?_
 refine cy h8 rfl (Bq (Uq (e:=ey) (c:=y)) rfl rfl rfl) ?_
 refine ac ?_
 refine wk [75,46,45,44,39,38,37,11,10,9,8,2,1] rfl ?_
 refine Tr.cn rfl ?_ ?_<;>intro h9 q9
 refine ao ?_
 refine TO.Df 0 rfl rfl AB (B9 rfl rfl rfl rfl underlying33 DQ OU QN Ea Db (Ay BK FC)) (fun v1=> ?_)
 refine ao ?_
 refine wk [46,45,44,39,38,37,10,9,8,2,1] rfl ?_
 refine ac ?_
 exact Fin.C8 (k+1) v1 (⟨AZ,by omega⟩) ⟨⟨_,rfl,AG k⟩,⟨_,rfl,BB (by rw [sO (by rw [hB,h8,h9];rfl),←List.append_assoc];simp;rfl)⟩,kz⟩ (fun _ _ h=>h)
 refine a2 ?_
 exact Fin.C8 (k+1) v (⟨AZ,by omega⟩) ⟨⟨_,rfl,AG k⟩,⟨_,rfl,BB (by rw [gq (by rw [hB,h8,h9];rfl)])⟩,kz⟩ (fun _ _ h=>h)
 refine ac ?_
 refine wk [75,46,45,44,39,38,37,11,10,9,8,2,1] rfl ?_
 refine a2 ?_
 exact Fin.C8 (k+1) v (⟨AZ,by omega⟩) ⟨⟨_,rfl,AG k⟩,⟨_,rfl,BB (by rw [gq (by rw [hB,h8];rfl)])⟩,kz⟩ (fun _ _ h=>h)
 have A8:k=(l).length:=by have:=AJ h7;omega
 subst A8
 refine a2 ?_
 exact Fin.C8 (i+1) v (⟨Ic,by omega⟩) ⟨⟨_,rfl,AG i⟩,⟨_,rfl,BB (by rw [Up])⟩,kz⟩ (fun _ _ h=>h)
 have Oe:i=(l).length:=by have:=AJ h6;omega
 subst Oe
 refine a2 ?_
 refine Tr.ret (Fin.C6 rfl (Bv.EU _ _) rfl ?_ rfl ?_)
 · exact HE
 · exact Lr
def zN (n:Nat):BV:=⟨[⟨0,300,[0]⟩],List.replicate n 0,[24]⟩
theorem ABV {n:Nat} (hn:n≤1000):A0 prog 67 [int ((n:Nat):Int)] (Me (zN n)):=by
 refine fo func67 rfl ⟨rfl,rfl⟩ fun M0 w0=>(Tr.seq (Tr.BE ?_))
 refine Tl rfl rfl rfl rfl z77 ADJ (fun b1=> ?_)
 refine ap ?_
 refine ap ?_
 refine tp rfl (BO (rows:=[(0,_),(1,[_])]) rfl ADb Rn ⟨⟨rfl,Be⟩,⟨⟨rfl,⟨_,rfl,Pr.le_trans (B4 _ _) (Ag _)⟩⟩,trivial⟩⟩ rfl) ?_
 refine ap ?_
 refine tp rfl (JA (m:=n) rfl underlying22 Bi G_ z3 rfl AB AB vq vq FV AA) ?_
 refine tp rfl (oI) ?_
 refine tp rfl (BO (rows:=[(0,[_]),(1,[_]),(2,[_])]) rfl AHZ ADJ ⟨⟨rfl,⟨_,rfl,Pr.le_trans (B4 _ _) (Ag _)⟩⟩,⟨⟨rfl,⟨_,rfl,Pr.le_trans (Pr.le_trans (B4 _ _) (Pr.le_of_eq (show _=slice 1 ((List.replicate n (0:Int)).map fun n=>[int n]) by rw [List.map_replicate];rfl))) (Ag _)⟩⟩,⟨⟨rfl,⟨_,rfl,Pr.le_trans (B4 _ _) (Ag _)⟩⟩,trivial⟩⟩⟩ rfl) ?_
 refine ap ?_
 refine Tr.ret (Fin.Cf rfl (AL.cell 0 rfl rfl yY ADI rfl Lr) ?_)
 · exact Lr
theorem S3 {l:List Bm} {r:List BM} {d:List Int} (DF:∀x∈l,x.Cb.small) (hl:l.length≤1000000) (hr:r.length≤1000000) (hd:d.length≤1000000):OY prog 33 [agg [CF l,reqs r,ints d]] (fun x=>agg [CF l,reqs r,is x]) (fun x=>[Ba 3 1 (d.map fun n=>[int n]) x]):=by
 refine OY.of func33 rfl rfl Am fun M0 w0 S rs M1 w1=>(Tr.FW 0 0 rfl rfl fun Gh=>(Tr.seq (Tr.BE (tp rfl (BU rfl Be) ?_))))
 refine Tl rfl rfl rfl rfl z35 Gq (fun b1=> ?_)
 refine ao ?_
 refine Tr.seq (Tr.pad (Tr.pad (Tr.pad (Tr.rx ?_))))
 refine ax ?_
 refine xo rfl (fun _=>Jh rfl underlying33 DQ OU QN rfl AB vq IU B8) ?_
 refine ax ?_
 refine Cx.ef 0 rfl rfl AB (Hr rfl rfl AB rfl underlying22 Bi G_ z3 rfl AB AB ⟨_,rfl,Ck 1⟩ vq IU B8) ?_
 refine Cx.ef 1 rfl rfl AB (gY (d:=12) (s:=11) (p:=fun v=>agg [is (.slice none 0 0),reqs r,AV v (lens (d.map fun n=>[int n]).length)]) (q:=agg [is (.slice none 0 0),reqs r,lens (d.map fun n=>[int n]).length]) rfl AB (fun _=>BR ⟨Lr,Lr,Ao _ _,trivial⟩) rfl rfl AB (fun v=>Sk rfl rfl AB (fun _=>BO (rows:=[(1,[_]),(2,[_])]) rfl nY Gq ⟨⟨rfl,VL.le vq (Ag _)⟩,⟨⟨rfl,VL.le vq (Ag _)⟩,trivial⟩⟩ rfl))) (Cx.ef 2 rfl rfl AB (Bx rfl rfl AB rfl z35 Gq) (Cx.DP 2 rfl rfl (Oq rfl rfl rfl AB rfl rfl (AY _) CU rfl rfl) ?_))
 refine Cx.nil ⟨by kernel_rfl,?_⟩
 refine Aw.Uh 11 rfl (fun v11=> ?_)
 refine Aw.Uh 12 rfl (fun v12=> ?_)
 refine Aw.Uh 3 rfl (fun v3=> ?_)
 refine Aw.Pt 0 11 rfl rfl (Aw.bM 1 12 11 rfl rfl rfl (Aw.bM 2 3 12 rfl rfl rfl (Aw.done al5 (Fin.shape 3 (fun b=> .pointer (some ⟨b,0,none⟩)) rfl (fun b9 e9=> ?_)))))
 subst e9
 refine Fin.Nv 1 2 rfl rfl (Fin.drop 1 (Fin.go (wk [3,2,1] rfl ?_)))
 refine ac ?_
 refine Tr.block (Tr.G9 1 [AV (.slice none 0 0) (CF (l.take 0)),reqs r,AV v11 (lens (d.map fun n=>[int n]).length)] rfl ⟨Bg rfl,Lr,Lr,trivial⟩ (Tr.B5 86 8 (Tr.EC _ (kk [15,14,3,2] rfl) (fun k u=>[(16,int ((k:Nat):Int))]) (fun k u=>Hp M0 w0 S (As 86 8 u::Ba 3 1 (d.map fun n=>[int n]) v11::AF true b9 35 [AV u (CF (l.take k)),reqs r,AV v11 (lens (d.map fun n=>[int n]).length)]::AF true b1 35 (([.slice none 0 0,.slice none 0 0,.slice none 0 0]:List Value).map is)::Ai M1 w1::rs)) (fun k:Nat=>k≤(l).length) (fun k:Nat=>(l).length-k) 0 (.slice none 0 0) (Nat.zero_le _) kz (fun _ _ h=>h) ?_)))
 rintro k u BJ
 refine ac ?_
 refine Tr.seq ?_
 refine Tr.cn rfl ?_ ?_<;>intro h1 q1
 have AZ:k<(l).length:=AH h1
 obtain ⟨x,AX⟩:=at_ AZ
 refine ac ?_
 refine Tr.seq (Tr.block (Tr.seq (Tr.BE (tp rfl (AD rfl underlying32 DB vq vq AA (AR AX)) (tp rfl (Ad rfl GG DB vq rfl rfl) ?_)))))
 refine Tl rfl rfl rfl rfl NP JZ (fun b10=> ?_)
 refine sf 0 5 ⟨rfl,rfl,rfl⟩ rfl rfl rfl rfl ?_
 refine ao ?_
 refine Tr.pad (Tr.rx ?_)
 refine ax ?_
 refine xo rfl (fun _=>CM (S0 (c:=x) (DF x (List.mem_of_getElem? AX))) rfl rfl) ?_
 refine xo rfl (fun _=>Af (xs:=[.tmp 23]) (rows:=[_]) rfl rfl underlying32 DB NP rfl AB ⟨⟨An,(Va rfl)⟩,trivial⟩ AB) ?_
 refine Cx.ef 1 rfl rfl AB (B9 rfl rfl rfl rfl underlying32 DB Xf NP Ea Db (Ay BK FC)) ?_
 refine xo rfl (fun _=>Aq rfl Vt vq) (Cx.DP 3 rfl rfl (Fc rfl rfl rfl vq rfl zi Am) ?_)
 refine Cx.nil ⟨by kernel_rfl,?_⟩
 refine Aw.PF 1 3 25 rfl rfl AB rfl (fun v1=> ?_)
 refine Aw.done fI ?_
 refine ac ?_
 refine Tr.drop 0 (wk [16,15,14,3,2] rfl ?_)
 refine ac ?_
 refine Fin.G9 2 [AV v1 (CF (l.take (k+1))),reqs r,AV v11 (lens (d.map fun n=>[int n]).length)] rfl ⟨BB VQ,Lr,Lr,trivial⟩ ?_
 exact Fin.C8 (k+1) v1 (⟨AZ,by omega⟩) ⟨⟨_,rfl,AG k⟩,kz⟩ (fun _ _ h=>h)
 have A8:k=(l).length:=by have:=AJ h1;omega
 subst A8
 rw [List.take_length]
 refine ac ?_
 refine ao ?_
 refine TO.AK 3 rfl rfl rfl vq Be rfl CU rfl rfl ?_
 refine ao ?_
 refine Tr.ret (Fin.drop 0 (Fin.drop 1 (Fin.G3 (Fin.AAX v11 [_] rfl (AL.cell 0 rfl rfl Da CU rfl Lr) ?_ (List.Perm.refl _)))))
 · exact BR ⟨Ao _ _,Lr,Ct _ _,trivial⟩
structure Su where
 code:Int
 x1:Int
 x2:Int
 s1:Int
 s2:Int
 c1:Int
 c2:Int
 m1:Int
 m2:Int
 lo:Int
 hi:Int
abbrev AIy:Pr:=Cp.ex fun l:List UInt8=>str l
abbrev Ur (s:Su):List Pr:=[int s.code,AIy,int s.x1,int s.x2,int s.s1,int s.s2,int s.c1,int s.c2,int s.m1,int s.m2,int s.lo,int s.hi]
def suT:List Su:=[⟨1,10,0,5,0,14,128,19,0,1,2⟩,⟨2,10,0,5,0,14,128,20,0,1,3⟩,⟨3,10,0,5,0,15,168,20,0,1,3⟩,⟨4,11,1024,6,0,15,168,20,0,1,3⟩,⟨5,11,1024,5,0,15,168,20,0,1,3⟩,⟨6,10,0,5,0,16,128,20,0,1,3⟩,⟨7,11,2048,5,0,16,128,20,0,1,3⟩,⟨8,12,256,5,0,16,128,20,0,1,3⟩,⟨9,12,256,7,0,16,256,21,0,3,3⟩,⟨10,12,256,5,0,17,128,22,0,3,3⟩,⟨11,12,384,7,0,17,256,22,0,3,3⟩,⟨12,12,256,5,0,18,0,22,0,3,3⟩,⟨13,10,0,5,0,17,256,22,0,3,3⟩,⟨14,12,256,0,0,17,128,22,0,4,4⟩,⟨15,12,256,0,0,18,0,22,0,4,4⟩,⟨16,13,768,0,0,17,256,22,0,4,4⟩]
abbrev sP:Su:=⟨0,0,0,0,0,0,0,0,0,0,0⟩
def TR (code:Int):Bool:=decide (1≤code∧code≤16)
def RF (code:Int):Su:=if TR code then suT[(code-1).toNat]?.getD sP else sP
theorem ABW {code:Int} (h:1≤code∧code≤16):suT[(code-1).toNat]? =some (RF code):=by
 obtain ⟨x,hx⟩:=at_ (l:=suT) (k:=(code-1).toNat) (by show _<16;omega)
 unfold RF TR;rw [if_pos (decide_eq_true h),hx];rfl
theorem Cc {a l m x1 y1 x2 y2 x3 y3 x4 y4:Int} {s:List UInt8}  :A0 prog 267 [int a,str s,agg [int x1,int y1],agg [int x2,int y2],agg [int x3,int y3],agg [int x4,int y4],int l,int m] (agg (Ur ⟨a,x1,y1,x2,y2,x3,y3,x4,y4,l,m⟩)):=by
 refine A0.of func267 rfl rfl Am fun M0 w0=> ?_
 refine Tr.seq (Tr.BE ?_)
 iterate 4 refine tp rfl (BU rfl (Va rfl)) ?_
 refine Tl rfl rfl rfl rfl Tc J4 (fun b1=> ?_)
 refine TO.nil (Fin.go (Tr.seq (Tr.BE (tm rfl (tm rfl ?_)))))
 iterate 4 refine tp rfl (Ad rfl J3 Lt (vl rfl) rfl rfl) ?_
 refine tm rfl (tm rfl (tp rfl (BO (rows:=[(0,[_]),(1,[_]),(2,_),(3,_),(4,_),(5,_),(6,[_]),(7,[_])]) rfl fA J4 ⟨⟨rfl,(Vo rfl)⟩,⟨⟨rfl,(Vo rfl)⟩,⟨⟨rfl,(Va rfl)⟩,⟨⟨rfl,(Va rfl)⟩,⟨⟨rfl,(Va rfl)⟩,⟨⟨rfl,(Va rfl)⟩,⟨⟨rfl,(Vo rfl)⟩,⟨⟨rfl,(Vo rfl)⟩,trivial⟩⟩⟩⟩⟩⟩⟩⟩ rfl) (TO.re 25 (agg (Ur ⟨a,x1,y1,x2,y2,x3,y3,x4,y4,l,m⟩)) rfl (BR ⟨Lr,Az _ (Lr),Lr,Lr,Lr,Lr,Lr,Lr,Lr,Lr,Lr,Lr,trivial⟩) (TO.AK 0 rfl rfl rfl (vl rfl) (Va rfl) rfl Gr rfl rfl (TO.nil (Fin.go (wk1 16 rfl (Tr.ret (Fin.Cf rfl (AL.cell 0 rfl rfl Jb Gr rfl (Lr)) ?_)))))))))
 · exact Lr
theorem Yl   :A0 prog 227 [] (slice 12 (suT.map Ur)):=by
 refine fo func227 rfl ⟨rfl,rfl⟩ fun M0 w0=> ?_
 refine ac ?_
 refine Tr.seq (Tr.BE (tp rfl (Bq (Bl) rfl rfl rfl) (tp rfl (Bq (Bl) rfl rfl rfl) (tp rfl (BO (rows:=[]) rfl zx Eo trivial rfl) ?_))))
 refine Tl rfl rfl rfl rfl LS Eo (fun b1=> ?_)
 refine Tl rfl rfl rfl rfl LS Eo (fun b2=> ?_)
 refine Tl rfl rfl rfl rfl LS Eo (fun b3=> ?_)
 refine sf 2 1 ⟨rfl,rfl,rfl⟩ rfl rfl rfl rfl ?_
 refine sf 1 2 ⟨rfl,rfl,rfl⟩ rfl rfl rfl rfl ?_
 refine sf 0 3 ⟨rfl,rfl,rfl⟩ rfl rfl rfl rfl ?_
 refine ao ?_
 refine Tr.seq (Tr.BE (tp rfl (Bq (Bl) rfl rfl rfl) (tp rfl (Bq (Bl) rfl rfl rfl) ?_)))
 refine Tl rfl rfl rfl rfl LS Eo (fun b4=> ?_)
 refine Tl rfl rfl rfl rfl LS Eo (fun b5=> ?_)
 refine sf 1 4 ⟨rfl,rfl,rfl⟩ rfl rfl rfl rfl ?_
 refine sf 0 5 ⟨rfl,rfl,rfl⟩ rfl rfl rfl rfl ?_
 refine ao ?_
 refine wk [5,4,3,2,1] rfl (Tr.seq (Tr.BE (tp rfl (Bq (Bl) rfl rfl rfl) (tp rfl (Bq (Bl) rfl rfl rfl) (tp rfl (Bq (Bl) rfl rfl rfl) ?_)))))
 refine Tl rfl rfl rfl rfl LS Eo (fun b6=> ?_)
 refine Tl rfl rfl rfl rfl LS Eo (fun b7=> ?_)
 refine Tl rfl rfl rfl rfl LS Eo (fun b8=> ?_)
 refine sf 2 6 ⟨rfl,rfl,rfl⟩ rfl rfl rfl rfl ?_
 refine sf 1 7 ⟨rfl,rfl,rfl⟩ rfl rfl rfl rfl ?_
 refine sf 0 8 ⟨rfl,rfl,rfl⟩ rfl rfl rfl rfl ?_
 refine ao ?_
 refine wk [8,7,6,5,4,3,2,1] rfl (Tr.seq (Tr.BE ?_))
 iterate 4 refine tp rfl (Bq (Bl) rfl rfl rfl) ?_
 refine Tl rfl rfl rfl rfl LS Eo (fun b9=> ?_)
 refine Tl rfl rfl rfl rfl LS Eo (fun b10=> ?_)
 refine Tl rfl rfl rfl rfl LS Eo (fun b11=> ?_)
 refine Tl rfl rfl rfl rfl LS Eo (fun b12=> ?_)
 refine sf 3 9 ⟨rfl,rfl,rfl⟩ rfl rfl rfl rfl ?_
 refine sf 2 10 ⟨rfl,rfl,rfl⟩ rfl rfl rfl rfl ?_
 refine sf 1 11 ⟨rfl,rfl,rfl⟩ rfl rfl rfl rfl ?_
 refine sf 0 12 ⟨rfl,rfl,rfl⟩ rfl rfl rfl rfl ?_
 refine ao ?_
 refine wk [12,11,10,9,8,7,6,5,4,3,2,1] rfl (Tr.seq (Tr.BE (tp rfl (Bq (Bl) rfl rfl rfl) (tp rfl (Bq (Bl) rfl rfl rfl) ?_))))
 refine Tl rfl rfl rfl rfl LS Eo (fun b13=> ?_)
 refine Tl rfl rfl rfl rfl LS Eo (fun b14=> ?_)
 refine sf 1 13 ⟨rfl,rfl,rfl⟩ rfl rfl rfl rfl ?_
 refine sf 0 14 ⟨rfl,rfl,rfl⟩ rfl rfl rfl rfl ?_
 refine ao ?_
 refine wk [14,13,12,11,10,9,8,7,6,5,4,3,2,1] rfl ?_
 refine ac ?_
 refine co rfl (Ah rfl (Cc) ⟨kq,kz⟩) ?_
 refine ac ?_
 refine co rfl (Ah rfl (Cc) ⟨kq,kz⟩) ?_
 refine ac ?_
 refine co rfl (Ah rfl (Cc) ⟨kq,kz⟩) (co rfl (Bq (Bl) rfl rfl rfl) (co rfl (Bq (Bl) rfl rfl rfl) ?_))
 refine ac ?_
 refine co rfl (Ah rfl (Cc) ⟨kq,kz⟩) (co rfl (Bq (Bl) rfl rfl rfl) ?_)
 refine ac ?_
 refine co rfl (Ah rfl (Cc) ⟨kq,kz⟩) ?_
 refine ac ?_
 refine co rfl (Ah rfl (Cc) ⟨kq,kz⟩) (co rfl (Bq (Bl) rfl rfl rfl) ?_)
 refine ac ?_
 refine co rfl (Ah rfl (Cc) ⟨kq,kz⟩) ?_
 refine ac ?_
 refine co rfl (Ah rfl (Cc) ⟨kq,kz⟩) (co rfl (Ad rfl J3 Lt vq rfl rfl) (co rfl (Bq (Bl) rfl rfl rfl) (co rfl (Bq (Bl) rfl rfl rfl) (co rfl (Ad rfl J3 Lt vq rfl rfl) (co rfl (Ah rfl (Cc) ⟨kq,kz⟩) ?_)))))
 refine ac ?_
 refine co rfl (Ah rfl (Cc) ⟨kq,kz⟩) (co rfl (Bq (Bl) rfl rfl rfl) (co rfl (Bq (Bl) rfl rfl rfl) ?_))
 refine ac ?_
 refine co rfl (Ah rfl (Cc) ⟨kq,kz⟩) ?_
 refine ac ?_
 refine co rfl (Ah rfl (Cc) ⟨kq,kz⟩) ?_
 refine ac ?_
 refine co rfl (Ah rfl (Cc) ⟨kq,kz⟩) ?_
 refine ac ?_
 refine co rfl (Ah rfl (Cc) ⟨kq,kz⟩) ?_
 refine ac ?_
 refine co rfl (Ah rfl (Cc) ⟨kq,kz⟩) (co rfl (Bq (Bl) rfl rfl rfl) ?_)
 refine ac ?_
 refine co rfl (Ah rfl (Cc) ⟨kq,kz⟩) (co rfl (Af (xs:=[.tmp 33,.tmp 38,.tmp 43,.tmp 48,.tmp 53,.tmp 58,.tmp 63,.tmp 68,.tmp 73,.tmp 78,.tmp 83,.tmp 88,.tmp 93,.tmp 98,.tmp 103,.tmp 108]) (rows:=(suT.map Ur)) rfl rfl underlying287 Gr Tc rfl AB ⟨⟨An,VL.le vq (AY _)⟩,⟨⟨An,VL.le vq (AY _)⟩,⟨⟨An,VL.le vq (AY _)⟩,⟨⟨An,VL.le vq (AY _)⟩,⟨⟨An,VL.le vq (AY _)⟩,⟨⟨An,VL.le vq (AY _)⟩,⟨⟨An,VL.le vq (AY _)⟩,⟨⟨An,VL.le vq (AY _)⟩,⟨⟨An,VL.le vq (AY _)⟩,⟨⟨An,VL.le vq (AY _)⟩,⟨⟨An,VL.le vq (AY _)⟩,⟨⟨An,VL.le vq (AY _)⟩,⟨⟨An,VL.le vq (AY _)⟩,⟨⟨An,VL.le vq (AY _)⟩,⟨⟨An,VL.le vq (AY _)⟩,⟨⟨An,VL.le vq (AY _)⟩,trivial⟩⟩⟩⟩⟩⟩⟩⟩⟩⟩⟩⟩⟩⟩⟩⟩ AB) ?_)
 refine ac ?_
 refine wk [0] rfl ?_
 refine ac ?_
 · exact B4 _ _
theorem Mo {code:Int}  :A0 prog 192 [int code] (C_ [agg (Ur (RF code)),int (if TR code then 0 else 8)]):=by
 refine fo func192 rfl ⟨rfl,rfl⟩ fun M0 w0=>(Tr.seq (Tr.BE ?_))
 refine Tl rfl rfl rfl rfl Tc J4 (fun b1=> ?_)
 refine ap ?_
 refine ag ?_ ?_<;>intro h1 q1
 refine ac ?_
 refine Tr.cond rfl (fun _=> ?_) (fun h=>nomatch h)
 refine Tr.seq (Tr.BE (tp rfl (BO (rows:=[]) rfl fA J4 trivial rfl) (TO.AK 0 rfl rfl rfl vq Be rfl Gr rfl rfl (tm rfl (TO.nil (Fin.go (Tr.ret (Fin.AE (Fin.BL rfl (AL.cell 0 rfl rfl Jb Gr rfl Lr) (AL.tmp rfl Lr) ?_)))))))))
 · exact mW
 refine an ?_ ?_<;>intro h2 q2
 refine ap ?_
 refine Tr.ret (Fin.AE (Fin.BL rfl (AL.cell 0 rfl rfl Jb Gr rfl Lr) (AL.tmp rfl Lr) ?_))
 · exact mW
 have hin:1≤code∧code≤16:=by omega
 refine ac ?_
 refine Tr.seq (Tr.BE (tp rfl (kc0 (Yl) rfl) ?_))
 refine ap ?_
 refine tp rfl (AD rfl underlying287 Gr vq vq AA (Bb (f:=Ur) (ABW AA))) ?_
 refine ap ?_
 refine wk [3,2] rfl (Tr.ret (Fin.BL rfl (AL.cell 0 rfl rfl Jb Gr rfl Lr) (AL.tmp rfl Lr) ?_))
 · exact Al ⟨Lr,int_eq (by unfold TR;rw [if_pos (decide_eq_true hin)]),trivial⟩
end Go.Proofs.YtmocaapoeefgkaaGreatDoor
