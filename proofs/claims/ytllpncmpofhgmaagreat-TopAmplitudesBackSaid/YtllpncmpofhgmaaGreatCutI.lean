/- A region that draws its order, cut behind it: any index. -/
import Derived.Test.YtllpncmpofhgmaaGreatKLight
namespace Go.Proofs.YtllpncmpofhgmaaGreat
open Go Go.Sort Go.RowKit
theorem wp_cutI {ι:Type}{P:Program}{c:Code}{Q:Exit→Act→World→Prop}{a:Act}{w:World} (F:ι→Act→Act) (R:ι→World→Prop)
  (h1:c.wp P (fun e a' w'=>e = .normal∧∃i,a'=F i a∧R i w') a w) (h2:∀i w',R i w'→Q .normal (F i a) w'):c.wp P Q a w :=
 Code.wp_mono (fun e a' w' h=>by obtain⟨rfl,i,rfl,hR⟩:=h;exact h2 i w' hR) h1
end Go.Proofs.YtllpncmpofhgmaaGreat
