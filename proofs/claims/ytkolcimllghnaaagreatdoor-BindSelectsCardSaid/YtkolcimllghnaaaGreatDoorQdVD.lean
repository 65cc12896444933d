/-
 Contracts. Conditions: those of each.
-/
import Derived.Test.YtkolcimllghnaaaGreatDoorQdVC
import Derived.Test.YtkolcimllghnaaaGreatDoorQdVO
set_option maxRecDepth 100000
set_option maxHeartbeats 8000000
namespace Go.Proofs.YtkolcimllghnaaaGreatDoor
open Lp Go.Proofs.Tryz
open Go.RowKit
variable{B B1 B2 c1 c2 g most n n1 n2 s2:Nat}{S:Nat->Prop}{e e2 t:TypeId}{u v2:Value}{W W' w w':World}{A A1 A2:ZT}{us x2:ZU}
theorem aLJ (g:Nat) (b:Bool) (w:World) (h:Calls prog 54 #[ptr g,.func (.func 40) #[] #[]] w λe w'=>e=.returned (.bool b)∧Below w w w') :
 Calls prog 53 #[ptr g] w λe w'=>e=.returned (.bool b)∧Below w w w':=by
 have H:=da;clear h;unfold ptr at *;go_enter func53,ntmps53;go_wp2_with fail;refine μ H ?_;rintro e w' ⟨rfl,hb⟩;go_wp2;go_ret;exact fg
def eO (nm it on wh gr od ds lm gd:Value):ZV:=#[nm,it,on,wh,gr,od,ds,lm,gd]
theorem aLI (g bx q:Nat) (nm it on wh od ds lm gd:Value) (A:ZT) (n c:Nat) (b:Bool) (w:World) (hx:w.heap[bx]? = some (.cells #[ptr q] 76 (0,0))) (hq:w.heap[q]? = some (.cells (eO nm it on wh (.slice A n c) od ds lm gd) 84 (0,0)))
 (h:Calls prog 56 #[ptr g,.slice A n c] w λe w'=>e=.returned (.bool b)∧Below w w w') :
 Calls prog 55 #[ptr g,bx] w λe w'=>e=.returned (.bool (!b))∧Below w w w':=by
 have hc:=β hx 0;have hd:=β hq 4;have H:=da;clear h hx hq;unfold ptr eO at *;go_enter func55,ntmps55;go_wp2_with fail;refine μ H ?_;rintro e w' ⟨rfl,hb⟩;go_wp2;go_ret;exact fg
theorem Nl (l:List Nat):∀ u∈l.map ptr,Value.oneCell' u:=by
 intro u hu;obtain ⟨g, -,rfl⟩:=List.mem_map.1 hu;simp [Value.oneCell',ptr]
theorem Ly (A:ZT) (c:Nat) (l:List Nat) (w:World) (h:Rds w A (l.map ptr)) (hn:l.length≤2000) :
 Calls prog 51 #[.slice A l.length c] w λe w'=>∃ A' c',e=.returned (.slice A' l.length c')∧w'.ownsRow w 53 1 (.slice A' l.length c') l.length (l.map ptr)∧Below w w w':=by
 have eqn:=Lib.run_eql_slice_nil (P:=prog) w 46 53 A l.length c 0 0 underlying46;rcases A with _|a
 ·have hl:l=[]:=by
   rcases h with h0|⟨b,off,h0,_⟩
   ·simpa using h0
   ·cases h0
  subst hl;simp only [Option.isNone_none,List.length_nil] at eqn |-;go_enter func51,ntmps51;go_wp2;go_ret;exact ⟨none,0,rfl,World.ownsRow_nil _ _ _ _,θ⟩
 ·simp only [Option.isNone_some] at eqn;obtain ⟨i0,hi0,hz0,hz1,hz2⟩:=kr;have hown0:=World.ownsRow_made (e:=53) (size:=1) w #[] 0 (ν _) FF rfl;have hr0:=h.below ((θ).alloc (ν _) (.cells #[] 53));have h1:=Nl l;go_enter func51,ntmps51;go_wp2_with (at_builtin;refine bJ _ rfl (.tmp 5) (.tmp 6) _ rfl w 53 i0 _ 1 8 underlying46 hi0 hz0 hz1 hz2 rfl ac _ 0 0 [] rfl hown0 (some a) l.length c (l.map ptr) rfl aa hr0 h1 kt ac aa ?_;intro A1 c1 w1 hown1 hb1 hg1 _);go_ret;simp only [Nat.zero_add,List.nil_append] at hown1;exact ⟨A1,c1,rfl,hown1,(ρ).trans hb1⟩
def SO2 (B:Nat) (v1 v2:Value):Nat->Prop:=λk=>B≤k∧some k≠v1.ownBlock∧some k≠v2.ownBlock
def Stb (P:(Nat->Prop)->World->Prop):Prop:=∀ (S S':Nat->Prop) (w w':World),Turn S S' w w'->P S w->P S' w'
structure Pair (sc:List Tb) (B:Nat) (P:(Nat->Prop)->World->Prop) (T:TypeId) (v1 v2:Value) (us:ZU) (gs:List Nat) (xs:List Lp.X) (hs:List Nat) (w:World):Prop where
 hB:B≤w
 hT:T≠53
 o1:w.ownsRow B T 1 v1 us.length us
 o2:w.ownsRow B 53 1 v2 gs.length (gs.map ptr)
 nt:NTs (SO2 B v1 v2) w sc xs hs
 hP:Stb P
 pt:P (SO2 B v1 v2) w
theorem Bp {m size size2:Nat} {v:Value} {r:Option Nat} {xs ys:ZU} (h:w.ownsRow B e size v n xs) (h2:w.ownsRow B e2 size2 v2 m ys) (hne:e2≠e) (hk:fL w w' v2.ownBlock r):w'.ownsRow B e size v n xs∧(∀ g,some g=v.ownBlock->some g≠r):=by
 rcases h.2 with ⟨rfl,rfl⟩|⟨g,cap,cur,rfl,h4,h5,h6⟩
 ·exact ⟨⟨h.1,.inl ⟨rfl,rfl⟩⟩,λg hg=>by simp [Value.ownBlock] at hg⟩
 ·obtain ⟨k1,k2⟩:=hk g _ h5 (cU h2 h5 hne);exact ⟨⟨h.1,.inr ⟨g,cap,cur,rfl,h4,k1,h6⟩⟩,λg' hg'=>by simp only [Value.ownBlock,Option.some.injEq] at hg';subst hg';exact k2⟩
variable {sc:List Tb} {B:Nat} {P:(Nat->Prop)->World->Prop} {T:TypeId} {v1 v2 v':Value} {us:ZU} {gs hs:List Nat} {xs:List Lp.X} {w w':World}
theorem Pair.nil_ (hB:B≤w) (hT:T≠53) (hP:Stb P) (h:P (λk=>B≤k) w):Pair sc B P T (.slice none 0 0) (.slice none 0 0) [] [] [] [] w :=
 ⟨hB,hT,World.ownsRow_nil _ _ _ _,World.ownsRow_nil _ _ _ _,trivial,hP,hP _ _ _ _ (Turn.mono λ_ hk _=>⟨hk,by simp [Value.ownBlock],by simp [Value.ownBlock]⟩) h⟩
theorem Pair.below (h:Pair sc B P T v1 v2 us gs xs hs w) (hb:Below w w w'):Pair sc B P T v1 v2 us gs xs hs w':=⟨Nat.le_trans h.hB hb.size,h.hT,aN h.o1 hb,aN h.o2 hb,NTs.turn (Turn.below hb) h.nt,h.hP,h.hP _ _ _ _ (Turn.below hb) h.pt⟩
theorem Pair.alloc (h:Pair sc B P T v1 v2 us gs xs hs w) (o:Obj):Pair sc B P T v1 v2 us gs xs hs (w.alloc o):=h.below (ρ)
theorem Pair.drew (h:Pair sc B P T v1 v2 us gs xs hs w):Pair sc B P T v1 v2 us gs xs hs w.drew:=h.below (θ).drew
theorem Pair.set {q o:Nat} {cs:ZV} (h:Pair sc B P T v1 v2 us gs xs hs w) (hq:w.heap[q]? = some (.cells cs t (0,0))) (hlt:q<B) (h1:T≠t) (h2:53≠t):Pair sc B P T v1 v2 us gs xs hs (w.setCell ⟨q,o,none⟩ u):=by
 have ht:Turn (SO2 B v1 v2) (SO2 B v1 v2) w (w.setCell ⟨q,o,none⟩ u):=λg hg _=>⟨hg,Below.heap_setCell w ⟨q,o,none⟩ u g (by have:=hg.1;show g≠q;omega)⟩;exact ⟨by simpa [World.setCell] using h.hB,h.hT,lJ h.o1 hq h1,lJ h.o2 hq h2,NTs.turn ht h.nt,h.hP,h.hP _ _ _ _ ht h.pt⟩
theorem Pair.one (h:Pair sc B P T v1 v2 us gs xs hs w) (ho:w'.ownsRow B T 1 v' (us.length+1) (us++[u])) (hz:w≤w'.heap.size) (hk:fL w w' v1.ownBlock v'.ownBlock):Pair sc B P T v' v2 (us++[u]) gs xs hs w':=by
 obtain ⟨k1, -⟩:=Bp h.o2 h.o1 h.hT hk;have ht:Turn (SO2 B v1 v2) (SO2 B v' v2) w w':=by
  intro g hg hl;obtain ⟨a,ha⟩:∃ a,w.heap[g]? = some a:=⟨w.heap[g],by simp [hl]⟩;obtain ⟨e1,e2⟩:=hk g a ha hg.2.1;exact ⟨⟨hg.1,e2,hg.2.2⟩,e1.trans ha.symm⟩
 exact ⟨Nat.le_trans h.hB hz,h.hT,by rw [List.length_append];exact ho,k1,NTs.turn ht h.nt,h.hP,h.hP _ _ _ _ ht h.pt⟩
theorem Pair.two (h:Pair sc B P T v1 v2 us gs xs hs w) (ho:w'.ownsRow B 53 1 v' (gs.length+1) (gs.map ptr++[ptr g])) (hz:w≤w'.heap.size) (hk:fL w w' v2.ownBlock v'.ownBlock):Pair sc B P T v1 v' us (gs++[g]) xs hs w':=by
 obtain ⟨k1, -⟩:=Bp h.o1 h.o2 (λe=>h.hT e.symm) hk;have ht:Turn (SO2 B v1 v2) (SO2 B v1 v') w w':=by
  intro k hg hl;obtain ⟨a,ha⟩:∃ a,w.heap[k]? = some a:=⟨w.heap[k],by simp [hl]⟩;obtain ⟨e1,e2⟩:=hk k a ha hg.2.2;exact ⟨⟨hg.1,hg.2.1,e2⟩,e1.trans ha.symm⟩
 exact ⟨Nat.le_trans h.hB hz,h.hT,k1,by rw [List.length_append,List.map_append];exact ho,NTs.turn ht h.nt,h.hP,h.hP _ _ _ _ ht h.pt⟩
theorem Pair.new {x:Lp.X} (h:Pair sc B P T v1 v2 us gs xs hs w) (hb:Below w w w') (hx:NT (λk=>w.heap.size≤k) w' sc x g):Pair sc B P T v1 v2 us gs (xs++[x]) (hs++[g]) w':=by
 have h2:=h.below hb;refine ⟨h2.hB,h2.hT,h2.o1,h2.o2,NTs.snoc (hx.turn (Turn.mono λk hk _=>⟨Nat.le_trans h.hB hk,λe => ?_,λe => ?_⟩)) h2.nt,h2.hP,h2.pt⟩
 ·have:=(h.o1.lt k e.symm).2;have h3:w.heap.size≤k:=hk;omega
 ·have:=(h.o2.lt k e.symm).2;have h3:w.heap.size≤k:=hk;omega
def RowS (S:Nat->Prop) (w:World) (A:ZT) (us:ZU):Prop:=us≠[]->∃ b off,A=some ⟨b,off,none⟩∧S b∧∀ (j:Nat) u,us[j]? = some u->w.cell? ⟨b,off+j,none⟩=some u
theorem RowS.turn {S':Nat->Prop} (ht:Turn S S' w w') (h:RowS S w A us):RowS S' w' A us:=by
 intro hn;obtain ⟨b,off,h1,h2,h3⟩:=h hn;obtain ⟨u0,us',rfl⟩:=List.exists_cons_of_ne_nil hn;have hl:=World.block_lt_of_cell? w _ (h3 0 _ rfl);obtain ⟨k1,k2⟩:=ht b h2 hl;exact ⟨b,off,h1,k1,λj u hu=>(World.cell?_of_block (w:=w) k2).trans (h3 j u hu)⟩
theorem RowS.rds (h:RowS S w A us):Rds w A us:=by
 by_cases hn:us=[]
 ·exact .inl hn
 ·obtain ⟨b,off,h1, -,h3⟩:=h hn;exact .inr ⟨b,off,h1,h3⟩
theorem RowS.own {c:Nat} (h:w.ownsRow B e 1 (.slice A n c) n us):RowS (λk=>B≤k) w A us:=by
 intro hn;have hl:0<n:=by
  have:=h.1;rw [Nat.mul_one] at this;rw [<-this];exact List.length_pos_iff.2 hn
 obtain ⟨b,cap,hv, -⟩:=h.form hl;injection hv with hA _ _;subst hA;refine ⟨b,0,rfl,(h.lt b rfl).1,λj u hu => ?_⟩;have h1:=h.cells (g:=b) rfl j u hu;have e:=km
 rwa [e] at h1
theorem Pair.rows (h:Pair sc B P T (.slice A1 n1 c1) (.slice A2 n2 c2) us gs xs hs w):RowS (λk=>B≤k) w A1 us∧RowS (λk=>B≤k) w A2 (gs.map ptr)∧NTs (λk=>B≤k) w sc xs hs∧P (λk=>B≤k) w:=by
 obtain ⟨A,c,e, -⟩:=sP h.o1;obtain ⟨A',c',e', -⟩:=sP h.o2;injection e with _ e1 _;injection e' with _ e1' _;subst e1 e1';have ht:Turn (SO2 B (.slice A1 us.length c1) (.slice A2 gs.length c2)) (λk=>B≤k) w w:=Turn.mono λ_ hk _=>hk.1;exact ⟨RowS.own h.o1,RowS.own h.o2,NTs.turn ht h.nt,h.hP _ _ _ _ ht h.pt⟩
theorem pN {s1:Nat} {e1:TypeId} {v1:Value} {x1:ZU} (h1:w.ownsRow B1 e1 s1 v1 n1 x1) (h2:w.ownsRow B2 e2 s2 v2 n2 x2) (hne:e2≠e1) (hg:w.grownBy w' v2.ownBlock) :
 w'.ownsRow B1 e1 s1 v1 n1 x1:=by
 refine h1.kept hg ?_;rcases h1.2 with ⟨rfl,_⟩|⟨g,cap,cur,rfl,_,hgg,_⟩
 ·exact ab
 ·exact .inr (cU h2 hgg hne)
def aBE (W:World) (B:Nat) (p:dW):Prop:=W.ownsRow B 116 2 (.slice p.2.1 p.1.cs.length p.2.2) p.1.cs.length (jD p.1.cs)∧p.1.n.length≤maxLen∧p.1.cs.length≤8∧p.1.cs.length≤p.2.2∧Ew p.1.cs∧(∀ u∈p.1.cs,rL u∧1≤u.k∧u.k≤3)∧1≤p.1.n.length∧p.1.n.length≤20
def TabsIn (W:World) (B:Nat) (l:List dW):Prop:=∀ p∈l,aBE W B p
theorem TabsIn.below {l:List dW} (h:TabsIn W B l) (hb:Below W W W'):TabsIn W' B l:=λp hp=>⟨aN (h p hp).1 hb,(h p hp).2⟩
theorem TabsIn.two {l:List dW} (h:TabsIn W B l) (h2:W.ownsRow B2 e2 s2 v2 n2 x2) (hne:e2≠116) (hg:W.grownBy W' v2.ownBlock):TabsIn W' B l :=
 λp hp=>⟨pN (h p hp).1 h2 hne hg,(h p hp).2⟩
theorem TabsIn.snoc {l:List dW} {p:dW} (h:TabsIn W B l) (hp:aBE W B p):TabsIn W B (l++[p]):=λq hq=>by
 rcases List.mem_append.1 hq with hq|hq
 ·exact h q hq
 ·rw [List.mem_singleton] at hq;rw [hq];exact hp
theorem Tw (l:List dW) (p:dW):tbv (l++[p])=tbv l++[.string ⟨p.1.n.toArray⟩,.slice p.2.1 p.1.cs.length p.2.2]:=by simp [tbv]
theorem qK {l:List dW} (h:Rds w A (tbv l)) {i:Nat} (hi:i<l.length):∃ b off,A=some ⟨b,off,none⟩∧w.cell? ⟨b,off+i*2,none⟩=some (.string ⟨(l[i]).1.n.toArray⟩)∧w.cell? ⟨b,off+i*2+1,none⟩=some (.slice (l[i]).2.1 (l[i]).1.cs.length (l[i]).2.2):=by
 obtain ⟨h0,h1⟩:=Ct hi;rcases h with hn|⟨b,off,rfl,hc⟩
 ·rw [hn] at h0;simp at h0
 ·exact qh
theorem qI {a b:Value} (h:w.heap[g]? = some (.cells #[a,b] t (0,0))):w.cell? ⟨g,0,none⟩=some a∧w.cell? ⟨g,1,none⟩=some b:=⟨β h 0,β h 1⟩
theorem Tz:(prog.info? 50).map (λi=>(i.zero,i.size,i.bytes))=some (some (.agg #[(),.slice none 0 0]),2,40):=aj
theorem Ty:(prog.info? 52).map (λi=>(i.zero,i.size,i.bytes))=some (some (.agg #[(),.slice none 0 0]),2,40):=aj
def ScPost (most:Nat) (w:World) (e:Ending) (w':World):Prop :=
 Below w w w'∧((e=.returned (.tuple #[.slice none 0 0,.slice none 0 0,false]))∨∃ (l:List dW) (A1:ZT) (c1:Nat) (A2:ZT) (c2:Nat),e=.returned (.tuple #[.slice A1 l.length c1,.slice A2 l.length c2,true])∧ScA w' A1 l∧ScA w' A2 l∧l.length≤most ∧
  ∀ p∈l,p.1.cs.length≤8∧Ew p.1.cs∧(∀ u∈p.1.cs,1≤u.k∧u.k≤3)∧1≤p.1.n.length∧p.1.n.length≤20)
theorem ScPost.no (hb:Below w w w'):ScPost most w (.returned (.tuple #[.slice none 0 0,.slice none 0 0,false])) w':=⟨hb,.inl rfl⟩
theorem ScPost.yes {l:List dW} (hn:n=l.length) (hm:l.length≤most) (hb:Below w w w') (h1:w'.ownsRow B1 50 2 (.slice A1 n c1) n (tbv l)) (h2:w'.ownsRow B1 52 2 (.slice A2 n c2) n (tbv l)) (hT:TabsIn w' B1 l) :
 ScPost most w (.returned (.tuple #[.slice A1 n c1,.slice A2 n c2,true])) w':=by
 subst hn;have ok:∀ u∈l,TabOk w' u:=λu hu=>⟨(hT u hu).2.1,Rds.own (hT u hu).1,(hT u hu).2.2.2.1,λc hc=>((hT u hu).2.2.2.2.2.1 c hc).1⟩;exact ⟨hb,.inr ⟨l,A1,c1,A2,c2,rfl,⟨Rds.own h1,ok⟩,⟨Rds.own h2,ok⟩,hm,λp hp=>⟨(hT p hp).2.2.1,(hT p hp).2.2.2.2.1,λu hu=>((hT p hp).2.2.2.2.2.1 u hu).2,(hT p hp).2.2.2.2.2.2⟩⟩⟩
